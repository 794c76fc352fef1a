/- Law 52: Parse of a clock's text. No condition. -/
import Derived.Test.YtcgdbhlnkificaaGreatDoorTL
import Derived.Test.YtcgdbhlnkificaaGreatDoorTS
import Derived.Test.YtcgdbhlnkificaaGreatDoorTD
import Derived.Test.YtcgdbhlnkificaaGreatDoorTW
import Derived.Test.YtcgdbhlnkificaaGreatDoorTX
set_option linter.all false
namespace Go.Proofs.YtcgdbhlnkificaaGreatDoor
open Go.RowKit
set_option maxRecDepth 100000
set_option maxHeartbeats 4000000
set_option maxHeartbeats 8000000
set_option maxHeartbeats 16000000
set_option maxHeartbeats 8000000
def SA(e:Ev):c6 e=.agg [.int .i64 e.r,.int .i64 e.n,.int .i64 e.t,aD e.past,.int .i64 e.k,.int .i64 e.a,.int .i64 e.gk,.int .i64 e.gi,.int .i64 e.ge,.int .i64 e.ga,.int .i64 e.to,.int .i64 e.pl,.int .i64 e.se]:=rfl
def RO(e:Ev):Cl aj 70 [.t (c6 e)] [] (.t (.agg [.int .i64 e.r,.int .i64 e.n])) []:=by
 rw[SA];refine Cl.ap rfl Tryz.func70 rfl rfl rfl ?_;exact ah
def Tj{a b:List Int}(ha:a.length<=140737488351232)(hb:b.length<=140737488351232):Cl aj 97 [.t (aD a),.t (aD b)] [] (.t (.bool (QX [a,b]&&C3 a b))) []:=by
 have u:=Tg ha hb;refine Cl.ap rfl Tryz.func97 rfl rfl rfl ?_
 cases h1:QX [a,b]with
 |false=>
  have e:Q5 a b=(0,1):=by unfold Q5;rw[h1];rfl
  rw[e]at u;exact ah
 |true=>
  cases h2:C3 a b with
  |false=>
   cases h3:C3 b a with
   |false=>
    have e:Q5 a b=(3,0):=by unfold Q5;rw[h1,h2,h3];rfl
    rw[e]at u;exact ah
   |true=>
    have e:Q5 a b=(2,0):=by unfold Q5;rw[h1,h2,h3];rfl
    rw[e]at u;exact ah
  |true=>
   cases h3:C3 b a with
   |false=>
    have e:Q5 a b=(1,0):=by unfold Q5;rw[h1,h2,h3];rfl
    rw[e]at u;exact ah
   |true=>
    have e:Q5 a b=(0,0):=by unfold Q5;rw[h1,h2,h3];rfl
    rw[e]at u;exact ah
def Sz(a b:Ev)(hb:b.past.length<=140737488351232):Cl aj 71 [.t (c6 a),.t (c6 b)] [] (.t (.bool (hasS b.past a.r a.n))) []:=by
 have v:=RO a;have u:=SG (a:=b.past) (r:=a.r) (n:=a.n) hb;rw[SA b];refine Cl.ap rfl Tryz.func71 rfl rfl rfl ?_;exact ah
set_option maxHeartbeats 16000000
def Rh:Q8 aj.P 165=none:=by kernel_rfl
def Ri:vE aj.P 165=some (53,134,2):=by kernel_rfl
def b8(l:List Ev):List (List AV):=l.map cx
def pn(l:List Ev):(b8 l).length=l.length:=List.length_map _
def uZ{l:List Ev}{k:Nat}{e:Ev}(h:l[k]?=some e):(b8 l)[k]?=some [.int .i64 e.r,.int .i64 e.n,.int .i64 e.t,aD e.past,.int .i64 e.k,.int .i64 e.a,.int .i64 e.gk,.int .i64 e.gi,.int .i64 e.ge,.int .i64 e.ga,.int .i64 e.to,.int .i64 e.pl,.int .i64 e.se]:=by
 unfold b8;rw[List.getElem?_map,h];rfl
def Rp(l:List Ev):List AV:=l.map fun e=>.agg [.int .i64 e.r,.int .i64 e.n]
def uY(l:List Ev):List SV:=l.map fun e=>.t (c6 e)
def Jd(l:List Ev):uY l=(l.map c6).map .t:=by simp[uY]
def yu{σ:Nat->Option Nat}{ks:List AV}{l:List Ev}{bs u:Fr}(h:bs=u):(Lb.map false ks (SV.cC σ (uY l))::bs)=Lb.map false ks (uY l)::u:=by rw[Jd,rT,h]
def RM(a b u v:Int):gI aj.P 20 134 [.int .i64 a,.int .i64 b] [.int .i64 u,.int .i64 v]=some (decide (a=u)&&(decide (b=v)&&true)):=by kernel_rfl
theorem R8{r n:Int}:∀(l:List Ev) (i:Nat),(∀e∈l,nm e≠(r,n))->qP aj.P 134 [.int .i64 r,.int .i64 n] (Rp l) i=some none
 |[],i,_=>rfl
 |e::l,i,h=>by
  have v:=h e (by simp)
  have:(decide (r=e.r)&&(decide (n=e.n)&&true))=false:=by
   rw[<- Bool.not_eq_true];intro u;simp only[Bool.and_eq_true,decide_eq_true_eq,and_true]at u;exact v (by simp[nm,u.1,u.2])
  show qP aj.P _ _ (.agg [.int .i64 e.r,.int .i64 e.n]::Rp l) i=_
  unfold qP;simp only[RM,this];exact R8 l (i+1) (fun x y=>h x (by simp[y]))
theorem R_{r n:Int}:∀(l:List Ev) (i k:Nat) (e:Ev),l[k]?=some e->nm e=(r,n)->(l.map nm).Nodup->qP aj.P 134 [.int .i64 r,.int .i64 n] (Rp l) i=some (some (i+k))
 |[],_,k,e,h,_,_=>by simp at h
 |x::l,i,k,e,h,u,y=>by
  rw[List.map_cons,List.nodup_cons]at y;show qP aj.P _ _ (.agg [.int .i64 x.r,.int .i64 x.n]::Rp l) i=_
  unfold qP
  cases k with
  |zero=>
   have h:x=e:=by simpa using h
   subst h;simp only[nm,Prod.mk.injEq]at u;have:(decide (r=x.r)&&(decide (n=x.n)&&true))=true:=by simp[u.1,u.2]
   simp only[RM,this];rfl
  |succ k=>
   have z:l[k]?=some e:=by simpa using h
   have:(decide (r=x.r)&&(decide (n=x.n)&&true))=false:=by
    rw[<- Bool.not_eq_true];intro v;simp only[Bool.and_eq_true,decide_eq_true_eq,and_true]at v;exact y.1 (List.mem_map.2 ⟨e,List.mem_of_getElem? z,by rw[u];simp[nm,v.1,v.2]⟩)
   simp only[RM,this];rw[R_ l (i+1) k e z u y.2];congr 2;omega
def TT{l:List Ev}(hn:(l.map nm).Nodup){i j:Nat}{x y:Ev}(hi:l[i]?=some x)(hj:l[j]?=some y)(u:i <j):nm x≠nm y:=by
 obtain⟨h1,rfl⟩:=List.getElem?_eq_some_iff.1 hi;obtain⟨h2,rfl⟩:=List.getElem?_eq_some_iff.1 hj;have:=List.pairwise_iff_getElem.1 hn i j (by simpa using h1) (by simpa using h2) u;simpa using this
def zE:ug aj.P 53=some (.agg [.t (.int .i64 0),.t (.int .i64 0),.t (.int .i64 0),.nil,.t (.int .i64 0),.t (.int .i64 0),.t (.int .i64 0),.t (.int .i64 0),.t (.int .i64 0),.t (.int .i64 0),.t (.int .i64 0),.t (.int .i64 0),.t (.int .i64 0)]):=by kernel_rfl
def TP{α:Type}{l:List α}{i:Nat}{x:α}(h:x∈l.take i):∃k,k <i/\l[k]?=some x:=by
 obtain⟨k,u⟩:=List.mem_iff_getElem?.1 h;rw[List.getElem?_take]at u;split at u
 ·exact⟨k,by assumption,u⟩
 ·cases u
def AB{α:Type}{l:List α}{q:Nat}{x:α}(h:l[q]?=some x):l.take (q+1)=l.take q++[x]:=by
 rw[List.take_add_one,h];rfl
structure rZ (l:List Ev) (m q:Nat):Prop where
 form:∀e∈l.take q,ew e=true
 alike:∀e∈l.take q,e.past.length=m
 names:((l.take q).map nm).Nodup
def rZ.zero(l:List Ev)(m:Nat):rZ l m 0:=⟨fun e h=>by simp at h,fun e h=>by simp at h,by simp⟩
def rZ.step{l:List Ev}{m q:Nat}{e:Ev}(h:rZ l m q)(he:l[q]?=some e)(hf:ew e=true)(ha:e.past.length=m)(hn:∀x∈l.take q,nm x≠nm e):rZ l m (q+1) where
 form:=fun x u=>by
  rw[AB he,List.mem_append,List.mem_singleton]at u;rcases u with u|rfl
  ·exact h.form x u
  ·exact hf
 alike:=fun x u=>by
  rw[AB he,List.mem_append,List.mem_singleton]at u;rcases u with u|rfl
  ·exact h.alike x u
  ·exact ha
 names:=by
  rw[AB he,List.map_append,List.nodup_append];refine⟨h.names,by simp,fun a ha b v=>?_⟩;obtain⟨x,u,rfl⟩:=List.mem_map.1 ha;simp only[List.map_cons,List.map_nil,List.mem_singleton]at v;subst v;exact hn x u
def RZ{a b:List Int}(ha:je a=true)(hb:je b=true)(h:a.length=b.length):QX [a,b]=true:=by
 simp[QX,Rk,ha,hb,h]
def Dn(l:List Ev)(e:Ev)(r n:Int):Prop:=∃x∈l,nm x=(r,n)/\C3 x.past e.past=true/\x.t <e.t
def Sb{c:List Int}{k:Nat}{n m:Int}(hv:je c=true)(hk:c[k]?=some m)(h1:1<=n)(h2:n<=m):hasS c (k:Int) n=true:=by
 have h3:=aC hk;have h4:=fL hk;simp only[hasS,hv,Bool.true_and,Bool.and_eq_true,decide_eq_true_eq,Int.toNat_natCast,h4];exact⟨by omega,by omega,h1,h2⟩
def RR{c:List Int}{r n:Int}(h:hasS c r n=true):∃(k:Nat) (m:Int),r=k/\c[k]?=some m/\1<=n/\n<=m:=by
 simp only[hasS,Bool.and_eq_true,decide_eq_true_eq]at h;obtain⟨_,v,h1,h2,h3⟩:=h;obtain⟨m,u⟩:=am (xs:=c) (k:=r.toNat) (by omega);rw[fL u]at h3;exact⟨r.toNat,m,by omega,u,h2,h3⟩
def Sx{l:List Ev}(hl:l.length<=140737488351232)(hp:∀e∈l,e.past.length<=140737488351232):Cl aj 55 [.t (.arr (b8 l))] [] (.t (.bool (Ra l))) []:=by
 have bj:=pn l;refine Cl.ap rfl Tryz.func55 rfl rfl rfl ?_;by_cases an:l.length<=1024
 ·
  obtain⟨m,hm⟩:∃m,(l.headD ⟨0,0,0,[],0,0,0,0,0,0,0,0,0⟩).past.length=m:=⟨_,rfl⟩;refine aq ?_;refine az.c8 (fun q:Nat=>[(21,.t (.int .i64 (q:Int)))]) (fun q=>[.map false (Rp (l.take q)) (uY (l.take q))]) (fun q=>q<=l.length/\rZ l m q) (fun q=>l.length - q) 0 rfl rfl ⟨by omega,rZ.zero l m⟩ (fun q hq=>?_);obtain⟨h1,h2⟩:=hq;rcases Nat.lt_or_ge q l.length with h3|h3
  ·
   obtain⟨e,U⟩:=am h3;have v:=List.mem_of_getElem? U;have hc:=uZ U;have kn:=RO e;have kf:=Jw e (hp e v);obtain⟨e0,au⟩:=am (xs:=l) (k:=0) (by omega);have bf:=uZ au;have bk:e0.past.length=m:=by rw[<- hm,List.headD_eq_head?_getD,List.head?_eq_getElem?,au];rfl
   have aY:=aW e.past;have be:=aW e0.past;by_cases hd:∃x∈l.take q,nm x=nm e
   ·
    obtain⟨x,hx,aM⟩:=hd;obtain⟨k,hk,aG⟩:=TP hx;have aB:(l.take q)[k]?=some x:=by rw[List.getElem?_take,if_pos hk,aG]
    have u:=R_ (r:=e.r) (n:=e.n) (l.take q) 0 k x aB aM h2.names;have I:(uY (l.take q))[0+k]?=some (.t (c6 x)):=by rw[Nat.zero_add];unfold uY;rw[List.getElem?_map,aB];rfl
    have J:Ra l=false:=RA fun h=>by
     have hN:=h.names;have h4:=TT hN aG U hk;exact h4 aM
    rw[J]
    repeat'(first
|((with_reducible apply aa.aF);(case hp=>exact ak))
|(refine aw ?_)
|((with_reducible apply aa.u0);(case hx=>first
|((with_reducible apply af.RT);(case h0=>exact Rh);(case hm=>exact Ri);(case hk|hn|ho=>exact rfl);(case hf=>exact u);(case hz=>exact I);(case hv=>exact rfl))
|(exact ai kn)
|exact ae))
|fail)
    all_goals exact⟨.inr rfl,rfl⟩
   ·
    have u:=R8 (r:=e.r) (n:=e.n) (l.take q) 0 (fun x hx h=>hd ⟨x,hx,h⟩);have hks:Rp (l.take q)++[.agg [.int .i64 e.r,.int .i64 e.n]]=Rp (l.take (q+1)):=by rw[AB U];simp[Rp]
    have hvs:uY (l.take q)++[.t (c6 e)]=uY (l.take (q+1)):=by rw[AB U];simp[uY]
    cases ad:ew e with
    |false=>
     rw[ad]at kf
     have J:Ra l=false:=RA fun h=>by
      have:=h.form e v;rw[ad]at this;cases this
     rw[J]
     repeat'(first
|((with_reducible apply aa.aF);(case hp=>exact ak))
|(refine aw ?_)
|((with_reducible apply aa.av);(case hW=>exact rfl);(case hx=>first
|(exact ai kf)
|exact ae))
|((with_reducible apply aa.u0);(case hx=>first
|((with_reducible apply af.RU);(case h0=>exact Rh);(case hm=>exact Ri);(case hk|hn|ho=>exact rfl);(case hf=>exact u);(case hz=>exact zE);(case hv=>exact rfl))
|(exact ai kn)
|exact ae))
|fail)
     all_goals exact⟨.inr rfl,rfl⟩
    |true=>
     rw[ad]at kf;by_cases bb:e.past.length=e0.past.length
     ·
      repeat'(first
|(refine a8 ?_)
|(refine aw ?_)
|((with_reducible apply aa.av);(case hW=>exact rfl);(case hx=>first
|(exact ai kf)
|exact ae))
|((with_reducible apply aa.u0);(case hx=>first
|((with_reducible apply af.RU);(case h0=>exact Rh);(case hm=>exact Ri);(case hk|hn|ho=>exact rfl);(case hf=>exact u);(case hz=>exact zE);(case hv=>exact rfl))
|((with_reducible apply af.TS);(case hs=>exact fun _=>rfl);(case h0=>exact Rh);(case hm=>exact Ri);(case ha|hk|hn|hy|hb=>exact rfl);(case hf=>exact u);(case hks=>exact hks);(case hvs=>exact hvs);(case hfr=>exact leq))
|(exact ai kn)
|exact ae))
|fail)
      refine⟨q+1,rfl,yu rfl,⟨by omega,h2.step U ad (by omega) (fun x hx h=>hd ⟨x,hx,h⟩)⟩,by omega⟩
     ·
      have J:Ra l=false:=RA fun h=>bb (h.alike e v e0 (List.mem_of_getElem? au));rw[J]
      repeat'(first
|(refine a8 ?_)
|(refine aw ?_)
|((with_reducible apply aa.av);(case hW=>exact rfl);(case hx=>first
|(exact ai kf)
|exact ae))
|((with_reducible apply aa.u0);(case hx=>first
|((with_reducible apply af.RU);(case h0=>exact Rh);(case hm=>exact Ri);(case hk|hn|ho=>exact rfl);(case hf=>exact u);(case hz=>exact zE);(case hv=>exact rfl))
|(exact ai kn)
|exact ae))
|fail)
      all_goals exact⟨.inr rfl,rfl⟩
  ·
   have hq:q=l.length:=by omega
   rw[hq]at h2⊢;rw[List.take_of_length_le (Nat.le_refl _)];obtain⟨G,z,D⟩:=h2;rw[List.take_of_length_le (Nat.le_refl _)]at G z D;have Z:∀e∈l,∀r n,hasS e.past r n=true->¬Dn l e r n->Ra l=false:=fun e U r n hh hD=>RA fun h=>hD (h.down e U r n hh);refine aq ?_;refine az.ind (fun q:Nat=>[(56,.t (.int .i64 (q:Int)))]) (fun q=>q<=l.length/\∀e∈l.take q,∀r n,hasS e.past r n=true->Dn l e r n) (fun q=>l.length - q) 0 rfl ⟨by omega,fun e h=>by simp at h⟩ (fun q hq=>?_);obtain⟨g1,g2⟩:=hq;rcases Nat.lt_or_ge q l.length with g3|g3
   ·
    obtain⟨e,U⟩:=am g3;have v:=List.mem_of_getElem? U;have hc:=uZ U;have aY:=aW e.past;have hv:=Jv (G e v);have h5:e.past.length<=5:=by simp[je]at hv;omega
    refine aq ?_;refine az.ind (fun r:Nat=>[(63,.t (.int .i64 (r:Int)))]) (fun r=>r<=e.past.length/\∀(k:Nat) (n:Int),k <r->hasS e.past k n=true->Dn l e k n) (fun r=>e.past.length - r) 0 rfl ⟨by omega,fun k n h=>by omega⟩ (fun r hr=>?_);obtain⟨f1,f2⟩:=hr;rcases Nat.lt_or_ge r e.past.length with f3|f3
    ·
     obtain⟨p,al⟩:=am f3;have bi:=bg al;have bl:=D8 hv al;refine aq ?_;refine az.ind (fun i:Nat=>[(12,.t (.int .i64 (i:Int)))]) (fun i=>1<=i/\(i:Int)<=p+1/\∀n:Int,1<=n->n <i->Dn l e r n) (fun i=>(p+1).toNat - i) 1 rfl ⟨by omega,by omega,fun n h1 h2=>by omega⟩ (fun i hi=>?_);obtain⟨d1,d2,d3⟩:=hi;by_cases aT:(i:Int)<=p
     ·
      have V:=Sb hv al (n:=i) (by omega) aT;by_cases ax:∃x∈l,nm x=((r:Int),(i:Int))
      ·
       obtain⟨x,hx,aA⟩:=ax;obtain⟨k,hk⟩:=List.mem_iff_getElem?.1 hx;have u:=R_ (r:=r) (n:=i) l 0 k x hk aA D;have I:(uY l)[0+k]?=some (.t (c6 x)):=by rw[Nat.zero_add];unfold uY;rw[List.getElem?_map,hk];rfl
       have kc:=Tj (hp x hx) (hp e v);have aR:QX [x.past,e.past]=true:=RZ (Jv (G x hx)) hv (by rw[z x hx,z e v]);rw[aR,Bool.true_and]at kc
       have ab:Dn l e r i->C3 x.past e.past=true/\x.t <e.t:=fun⟨y,hy,bd,h6,h7⟩=>by
        obtain rfl:=L8 D hy hx (bd.trans aA.symm);exact⟨h6,h7⟩
       cases ag:C3 x.past e.past with
       |false=>
        rw[ag]at kc;rw[Z e v r i V (fun h=>by have:=(ab h).1;rw[ag]at this;cases this)]
        repeat'(first
|((with_reducible apply aa.aF);(case hp=>exact ak))
|(refine aw ?_)
|((with_reducible apply aa.av);(case hW=>exact rfl);(case hx=>first
|(exact ai kc)
|exact ae))
|((with_reducible apply aa.u0);(case hx=>first
|((with_reducible apply af.RT);(case h0=>exact Rh);(case hm=>exact Ri);(case hk|hn|ho=>exact rfl);(case hf=>exact u);(case hz=>exact I);(case hv=>exact rfl))
|exact ae))
|fail)
        all_goals exact⟨.inr rfl,rfl⟩
       |true=>
        rw[ag]at kc;by_cases ht:x.t <e.t
        ·
         repeat'(first
|(refine a8 ?_)
|(refine aw ?_)
|((with_reducible apply aa.av);(case hW=>exact rfl);(case hx=>first
|(exact ai kc)
|exact ae))
|((with_reducible apply aa.u0);(case hx=>first
|((with_reducible apply af.RT);(case h0=>exact Rh);(case hm=>exact Ri);(case hk|hn|ho=>exact rfl);(case hf=>exact u);(case hz=>exact I);(case hv=>exact rfl))
|exact ae))
|fail)
         refine⟨i+1,rfl,yu rfl,⟨by omega,by omega,fun n a1 a2=>?_⟩,by omega⟩;by_cases a6:n <i
         ·exact d3 n a1 a6
         ·obtain rfl:n=i:=by omega
          exact⟨x,hx,aA,ag,ht⟩
        ·
         rw[Z e v r i V (fun h=>ht (ab h).2)]
         repeat'(first
|(refine a8 ?_)
|(refine aw ?_)
|((with_reducible apply aa.av);(case hW=>exact rfl);(case hx=>first
|(exact ai kc)
|exact ae))
|((with_reducible apply aa.u0);(case hx=>first
|((with_reducible apply af.RT);(case h0=>exact Rh);(case hm=>exact Ri);(case hk|hn|ho=>exact rfl);(case hf=>exact u);(case hz=>exact I);(case hv=>exact rfl))
|exact ae))
|fail)
         all_goals exact⟨.inr rfl,rfl⟩
      ·
       have u:=R8 (r:=r) (n:=i) l 0 (fun x hx h=>ax ⟨x,hx,h⟩);rw[Z e v r i V (fun⟨x,hx,h,_⟩=>ax ⟨x,hx,h⟩)]
       repeat'(first
|((with_reducible apply aa.aF);(case hp=>exact ak))
|(refine aw ?_)
|((with_reducible apply aa.u0);(case hx=>first
|((with_reducible apply af.RU);(case h0=>exact Rh);(case hm=>exact Ri);(case hk|hn|ho=>exact rfl);(case hf=>exact u);(case hz=>exact zE);(case hv=>exact rfl))
|exact ae))
|fail)
       all_goals exact⟨.inr rfl,rfl⟩
     ·
      refine aq ?_;refine⟨r+1,rfl,rfl,⟨by omega,fun k n hk hh=>?_⟩,by omega⟩;by_cases aX:k <r
      ·exact f2 k n aX hh
      ·obtain rfl:k=r:=by omega
       obtain⟨k',m',e1,e2,e3,e4⟩:=RR hh;obtain rfl:k'=k:=by omega
       rw[al]at e2;cases e2;exact d3 n e3 (by omega)
    ·
     refine aq ?_;refine⟨q+1,rfl,yu rfl,⟨by omega,fun x hx a b ao=>?_⟩,by omega⟩;rw[AB U,List.mem_append,List.mem_singleton]at hx;rcases hx with hx|rfl
     ·exact g2 x hx a b ao
     ·obtain⟨k',m',e1,e2,e3,e4⟩:=RR ao;subst e1;exact f2 k' b (by have:=aC e2;omega) ao
   ·
    have aN:Ra l=true:=R0 ⟨an,G,fun x hx y hy=>by rw[z x hx,z y hy],D,fun e U r n hh=>by
     rw[List.take_of_length_le g3]at g2;exact g2 e U r n hh⟩
    rw[aN];exact ah
 ·
  have J:Ra l=false:=RA fun h=>an h.gb;rw[J];exact ah
set_option maxHeartbeats 32000000
set_option maxHeartbeats 16000000
def RP:aj.P.eqGuardType aj.P.depth 134=false:=by kernel_rfl
def Tq{a b:Ev}(h:nm a=nm b):gI aj.P 20 134 [.int .i64 a.r,.int .i64 a.n] [.int .i64 b.r,.int .i64 b.n]=some true:=by
 simp only[nm,Prod.mk.injEq]at h;rw[RM,h.1,h.2];simp
def Tp{a b:Ev}(h:nm a≠nm b):gI aj.P 20 134 [.int .i64 a.r,.int .i64 a.n] [.int .i64 b.r,.int .i64 b.n]=some false:=by
 rw[RM];congr 1;rw[<- Bool.not_eq_true];intro u;simp only[Bool.and_eq_true,decide_eq_true_eq,and_true]at u;exact h (by simp[nm,u.1,u.2])
structure AR (l:List Ev) (m q:Nat):Prop where
 form:∀k e,k <q->l[k]?=some e->ew e=true
 alike:∀k e,k <q->l[k]?=some e->e.past.length=m
 names:∀k j e x,k <q->l[k]?=some e->l[j]?=some x->k≠j->nm x≠nm e
 JJ:∀k e,k <q->l[k]?=some e->AX l e
def AR.all{l:List Ev}{m:Nat}(G:l.length<=1024)(h:AR l m l.length):ClosedP l:=by
 have u:∀e∈l,∃k,k <l.length/\l[k]?=some e:=fun e v=>by
  obtain⟨k,D⟩:=List.mem_iff_getElem?.1 v;exact⟨k,aC D,D⟩
 refine(Ie G (fun e v=>?_) (fun e v x V=>?_) ?_).2 (fun e v=>?_)
 ·obtain⟨k,h1,h2⟩:=u e v;exact h.form k e h1 h2
 ·obtain⟨k,h1,h2⟩:=u e v;obtain⟨j,h3,h4⟩:=u x V;rw[h.alike k e h1 h2,h.alike j x h3 h4]
 ·rw[List.Nodup,List.pairwise_iff_getElem];intro i j I U J;rw[List.getElem_map,List.getElem_map];have z:i <l.length:=by simpa using I
  have y:j <l.length:=by simpa using U
  exact h.names j i _ _ y (List.getElem?_eq_getElem y) (List.getElem?_eq_getElem z) (by omega)
 ·obtain⟨k,h1,h2⟩:=u e v;exact h.JJ k e h1 h2
def T7{m:Nat}(h1:1<=m)(u:m<=5):Cl aj 76 [.t (.int .i64 (m:Int))] [] (.ls 0) [.row false false 1 (aL (List.replicate m 0))]:=by
 have:m=1\/m=2\/m=3\/m=4\/m=5:=by omega
 rcases this with rfl|rfl|rfl|rfl|rfl <;>exact⟨4,by kernel_rfl⟩
def Ts{l:List Ev}{m:Nat}(I:ClosedP l)(hm:∀e∈l,e.past.length=m)(h1:1<=m)(h5:m<=5):Cl aj 31 [.t (.int .i64 (m:Int)),.t (.arr (b8 l))] [] (.aN [.ls 0,.t (.int .i64 0)]) [.row false false 1 (aL (pM m l))]:=by
 have ab:=I.gb;have ad:=pn l;have kz:=T7 h1 h5;have kc:=Sx (l:=l) (by omega) (fun e y=>by rw[hm e y];omega);rw[R0 I]at kc;have G:aL (List.replicate m 0)=aL (pM m (l.take 0)):=rfl
 obtain⟨z,zs,hz⟩:∃z zs,aL (List.replicate m 0)=z::zs:=by
  obtain⟨k,rfl⟩:∃k,m=k+1:=⟨m - 1,by omega⟩;exact⟨_,_,rfl⟩
 rw[hz]at kz G;refine Cl.ap rfl Tryz.func31 rfl rfl rfl ?_;refine aq ?_;refine az.c8 (fun k:Nat=>[(20,.t (.int .i64 (k:Int)))]) (fun k=>[.row false false 1 (aL (pM m (l.take k)))]) (fun k=>k<=l.length) (fun k=>l.length - k) 0 rfl (by rw[G]) (by omega) (fun k hk=>?_);rcases Nat.lt_or_ge k l.length with h3|h3
 ·
  obtain⟨e,y⟩:=am h3;have u:=List.mem_of_getElem? y;have hc:=uZ y;have an:=hm e u;have al:=aW e.past;obtain⟨r0,r1,_,_⟩:=Rf (I.form e u);have D:=Te (m:=m) y;have U:=RJ m (l.take k);obtain⟨c,J⟩:∃c,pM m (l.take k)=c:=⟨_,rfl⟩;rw[J]at D U⊢;obtain⟨v,hv⟩:=am (xs:=c) (k:=e.r.toNat) (by omega);have V:=bg hv;have ag:=aW c
  have Z:(aL c).set e.r.toNat [.int .i64 (max v e.n)]=aL (pM m (l.take (k+1))):=by
   rw[D,Re,fL hv];simp[aL,List.map_set]
  repeat'(first
|(refine a8 ?_)
|(refine aw ?_)
|((with_reducible apply aa.u0);(case hx=>first
|((with_reducible apply af.Av);(case hs=>exact fun _=>rfl);(case ha|hy|ht|hone=>exact rfl);(case hn=>kernel_rfl);(case hb=>exact rfl);(case hk=>exact V);(case hj=>exact rfl);(case hv=>exact Z);(case hf=>exact leq))
|exact ae))
|fail)
  refine⟨k+1,rfl,rfl,by omega,by omega⟩
 ·
  rw[List.take_of_length_le h3];exact ah
def Tk{l:List Ev}{c:List Int}{k:Nat}{e:Ev}(h:l[k]?=some e):j4 (l.take (k+1)) c=j4 (l.take k) c++if hasS c e.r e.n=true then[e]else[]:=by
 unfold j4;rw[AB h,List.filter_append];congr 1;rw[List.filter_cons];split <;>rfl
def R5{l:List Ev}{c:List Int}(hl:l.length<=1000)(hc:c.length<=1000)
 :Cl aj 33 [.t (.arr (b8 l)),.t (aD c)] [] (.t (.arr (b8 (j4 l c)))) []:=by
 have ab:=pn l;refine Cl.gr rfl Tryz.func33 rfl rfl rfl ?_;refine aq ?_;refine az.c8 (fun s:Nat×Bool=>[(5,.ls 0),(10,.t (.int .i64 (s.1:Int)))]) (fun s=>[.row false s.2 13 (b8 (j4 (l.take s.1) c))]) (fun s=>s.1<=l.length) (fun s=>l.length - s.1) (0,false) rfl rfl (by simp) (fun s hq=>?_);obtain⟨k,J⟩:=s;dsimp only at hq⊢;rcases Nat.lt_or_ge k l.length with h3|h3
 ·
  obtain⟨e,U⟩:=am h3;have Z:=uZ U;have kn:=RO e;have I:=SG (a:=c) (r:=e.r) (n:=e.n) (by omega);have v:=Tk (c:=c) U;have z:(j4 (l.take k) c).length<=k:=Nat.le_trans (List.length_filter_le _ _) (by simp;omega);obtain⟨X,V⟩:∃X,j4 (l.take k) c=X:=⟨_,rfl⟩;rw[V]at v z⊢
  cases y:hasS c e.r e.n with
  |false=>
   rw[y]at I;rw[y,if_neg (by decide),List.append_nil]at v;refine aq ?_;refine⟨(k+1,J),rfl,by dsimp only;rw[v];rfl,by dsimp only;omega,by dsimp only;omega⟩
  |true=>
   rw[y]at I;rw[y,if_pos rfl]at v;have G:b8 X++[cx e]=b8 (j4 (l.take (k+1)) c):=by rw[v];simp[b8]
   have D:cn ((b8 X).length+1) 120=true:=by rw[pn];simp[cn];omega
   repeat'(first
|(with_reducible first|apply ac.seq|apply ac.block)
|((with_reducible apply ac.text);(try case hm=>exact rfl))
|(with_reducible first|apply ac.skip|apply aH)
|((with_reducible apply ac.aR);(case hc=>exact rfl))
|((with_reducible apply aa.aF);(case hp=>exact ak))
|(with_reducible first|apply aa.aB|apply aa.dF)
|((with_reducible apply aa.u);(case hx=>((with_reducible apply af.ei);(case hs=>exact fun _=>rfl);(case ha|ht=>exact rfl);(case hr=>first|(with_reducible exact ec)|(with_reducible exact rw1)|(with_reducible exact ed)|(with_reducible exact rw3)|(with_reducible exact rw4)|exact rfl);(case hx|hy|hn|hb|hok=>exact rfl);(case hlen=>exact D);(case hv=>exact G);(case hk=>exact ez);(case hf=>exact leq))))
|((with_reducible apply aa.u0);(case hx=>first
|(exact ai kn)
|(exact ai I)
|exact ae))
|fail)
   refine⟨(k+1,true),rfl,rfl,by dsimp only;omega,by dsimp only;omega⟩
 ·
  rw[List.take_of_length_le h3];exact ah
def Th(a b:Ev)(ha:a.past.length<=140737488351232)(hb:b.past.length<=140737488351232):Cl aj 28 [.t (c6 a),.t (c6 b)] [] (.t (.bool (Q2 a b))) []:=by
 have h1:=Jw a ha;have h2:=Jw b hb;have h3:=Sz a b hb;have h4:=Sz b a ha;have I:=RO a;have J:=RO b;refine Cl.ap rfl Tryz.func28 rfl rfl rfl ?_
 cases u:ew a with
 |false=>
  rw[u]at h1;have e:Q2 a b=false:=by simp[Q2,u]
  rw[e];exact ah
 |true=>
  rw[u]at h1
  cases v:ew b with
  |false=>
   rw[v]at h2;have e:Q2 a b=false:=by simp[Q2,v]
   rw[e];exact ah
  |true=>
   rw[v]at h2;by_cases G:nm a=nm b
   ·
    have y:=Tq G;have e:Q2 a b=false:=by simp[Q2,G]
    rw[e]
    repeat'(first
|(refine aw ?_)
|((with_reducible apply aa.av);(case hW=>exact rfl);(case hx=>first
|((with_reducible apply af.rn);(case hx|hy=>exact rfl);(case hg=>exact RP);(case ht=>exact rfl);(case hr=>exact y))
|(exact ai h2)
|(exact ai I)
|(exact ai J)
|exact ae))
|((with_reducible apply aa.u0);(case hx=>first
|(exact ai h1)
|exact ae))
|fail)
    exact⟨.inr rfl,rfl⟩
   ·
    have y:=Tp G
    cases z:hasS b.past a.r a.n with
    |true=>
     rw[z]at h3;have e:Q2 a b=false:=by simp[Q2,qw,u,v,z]
     rw[e]
     repeat'(first
|(refine aw ?_)
|((with_reducible apply aa.av);(case hW=>exact rfl);(case hx=>first
|((with_reducible apply af.rn);(case hx|hy=>exact rfl);(case hg=>exact RP);(case ht=>exact rfl);(case hr=>exact y))
|(exact ai h2)
|(exact ai I)
|(exact ai J)
|(exact ai h3)
|exact ae))
|((with_reducible apply aa.u0);(case hx=>first
|(exact ai h1)
|exact ae))
|fail)
     exact⟨.inr rfl,rfl⟩
    |false=>
     rw[z]at h3
     cases D:hasS a.past b.r b.n with
     |true=>
      rw[D]at h4;have e:Q2 a b=false:=by simp[Q2,qw,u,v,D]
      rw[e]
      repeat'(first
|(refine aw ?_)
|((with_reducible apply aa.av);(case hW=>exact rfl);(case hx=>first
|((with_reducible apply af.rn);(case hx|hy=>exact rfl);(case hg=>exact RP);(case ht=>exact rfl);(case hr=>exact y))
|(exact ai h2)
|(exact ai I)
|(exact ai J)
|(exact ai h3)
|(exact ai h4)
|exact ae))
|((with_reducible apply aa.u0);(case hx=>first
|(exact ai h1)
|exact ae))
|fail)
      exact⟨.inr rfl,rfl⟩
     |false=>
      rw[D]at h4;have e:Q2 a b=true:=by simp[Q2,qw,u,v,z,D,G]
      rw[e]
      repeat'(first
|(refine aw ?_)
|((with_reducible apply aa.av);(case hW=>exact rfl);(case hx=>first
|((with_reducible apply af.rn);(case hx|hy=>exact rfl);(case hg=>exact RP);(case ht=>exact rfl);(case hr=>exact y))
|(exact ai h2)
|(exact ai I)
|(exact ai J)
|(exact ai h3)
|(exact ai h4)
|exact ae))
|((with_reducible apply aa.u0);(case hx=>first
|(exact ai h1)
|exact ae))
|fail)
      exact⟨.inr rfl,rfl⟩
def TQ(x y:Int):Cl aj 78 [.t (.int .i64 x),.t (.int .i64 y)] [] (.t (.int .i64 (min x y))) []:=⟨3,by kernel_rfl⟩
def T0{a b:List Int}(v:QX [a,b]=true)(ha:a.length<=1000):Cl aj 77 [.t (.fn (.func 78) 0 []),.t (jp [a,b])] [] (.ls 0) [.row false false 1 (aL (List.zipWith min a b))]:=by
 have u:=RY v;have G:a≠[]:=by rintro rfl;simp[QX,Rk,je]at v
 have y:=RX (l:=[a,b]) (by simp) (by simp;omega);rw[v]at y;refine Cl.ap rfl Tryz.func77 rfl rfl rfl ?_;have J:(bA [a,b])[0]?=some [aD a]:=rfl
 repeat'(first
|(refine aw ?_)
|((with_reducible apply aa.u0);(case hx=>first
|((with_reducible apply af.SX);(case he|hx|hi=>exact rfl);(case hn=>simp[bA]);(case hz|hv=>exact rfl))
|(exact ai y)
|((with_reducible apply af.BG);(case hcal|hav|hx|hh|hm=>exact rfl);(case hcl=>exact Sw G (by omega));(case hr|hd=>exact rfl);(case hq=>kernel_rfl);(case hn=>exact Dy);(case hv=>(conv=>lhs;whnf);try exact rfl);(case he=>exact QS);(case hf=>exact leq))
|exact ae))
|fail)
 apply ac.cR
 case ho=>exact rfl
 case hp=>exact rfl
 case hl=>exact rfl
 case hs=>exact slt
 refine az.c8 (fun s:Nat×List Int=>[(20,.t (.int .i64 (s.1:Int)))]) (fun s=>[.row false false 1 (aL s.2)]) (fun s=>s.1<=1/\s.2=(if s.1=0 then a else List.zipWith min a b)) (fun s=>1 - s.1) (0,a) rfl rfl ⟨by simp,rfl⟩ (fun s hs=>?_);obtain⟨i,xs⟩:=s;obtain⟨h1,h2⟩:=hs;simp only at h1 h2;have I:[b].length=1:=rfl;rcases Nat.lt_or_ge i 1 with h3|h3
 ·
  obtain rfl:i=0:=by omega
  rw[if_pos rfl]at h2;subst h2;have U:(bA [b])[0]?=some [aD b]:=rfl;dsimp only;refine aq ?_;refine az.c8 (fun q:Nat=>[(26,.t (.int .i64 (q:Int)))]) (fun q=>[.row false false 1 (aL ((List.zipWith min xs b).take q++xs.drop q))]) (fun q=>q<=b.length) (fun q=>b.length - q) 0 rfl (by simp) (by omega) (fun q hq=>?_);rcases Nat.lt_or_ge q b.length with D|D
  ·
   obtain⟨n,hn⟩:=am (xs:=xs) (k:=q) (by omega);obtain⟨m,hm⟩:=am D;have hd:=bg hm
   have z:((List.zipWith min xs b).take q++xs.drop q)[q]?=some n:=by
    rw[List.getElem?_append_right (by simp;omega),List.getElem?_drop];have e:q+(q - (List.take q (List.zipWith min xs b)).length)=q:=by simp;omega
    rw[e,hn]
   have hk:=bg z;have hl:=aC hk;have hs:(aL ((List.zipWith min xs b).take q++xs.drop q)).set q [.int .i64 (min n m)]=aL ((List.zipWith min xs b).take (q+1)++xs.drop (q+1)):=by rw[SK,T9 u hn hm]
   repeat'(first
|((with_reducible apply aa.aF);(case hp=>exact ak))
|(refine aw ?_)
|((with_reducible apply aa.u0);(case hx=>first
|((with_reducible apply af.Av);(case hs=>exact fun _=>rfl);(case ha|hy|ht|hone=>exact rfl);(case hn=>kernel_rfl);(case hb=>exact rfl);(case hk=>exact hk);(case hj=>exact rfl);(case hv=>exact hs);(case hf=>exact leq))
|(exact ai (TQ n m))
|exact ae))
|fail)
   refine⟨q+1,rfl,rfl,by omega,by omega⟩
  ·
   have hj:=T8 (f:=min) u (j:=q) (by omega);refine aq ?_;refine⟨(1,(List.zipWith min xs b).take q++xs.drop q),rfl,rfl,⟨Nat.le_refl _,hj⟩,Nat.zero_lt_one⟩
 ·
  obtain rfl:i=1:=by omega
  rw[if_neg (by omega)]at h2;dsimp only;refine aq ?_;exact⟨.inr rfl,by rw[h2];rfl⟩
def TO{a b:List Int}(u:QX [a,b]=true)(ha:a.length<=1000):Cl aj 32 [.t (jp [a,b])] [] (.ls 0) [.row false false 1 (aL (List.zipWith min a b))]:=by
 refine Cl.ap rfl Tryz.func32 rfl rfl rfl ?_
 repeat'(first
|(refine aw ?_)
|((with_reducible apply aa.u0);(case hx=>first
|(exact iG (T0 u ha))
|exact ae))
|fail)
 exact⟨.inr rfl,rfl⟩
end Go.Proofs.YtcgdbhlnkificaaGreatDoor
