/- Law 40: SharesApplies: the law's function answers true. No condition. -/
import Derived.Test.YtcgdbhlnkificaaGreatDoorTUP
set_option linter.all false
namespace Go.Proofs.YtcgdbhlnkificaaGreatDoor
open Go.RowKit
set_option maxRecDepth 100000
set_option maxHeartbeats 32000000
def Sb{m:Md}{E:List Ev}(h:jz m E=true):Q3 m:=by
 intro a u;unfold jz at h;simp only[Bool.and_eq_true,decide_eq_true_eq,List.all_eq_true]at h;have h1:=h.2.2.1 a u;unfold j8 at h1;simp only[Bool.and_eq_true,decide_eq_true_eq]at h1;omega
def SB{m:Md}{p:Pln}{R:Int}{l:aO}{r a:Int}(h1:p.aM.length<=1000)(h2:p.aA.length<=17592186044416):(rP m p R l r a).1.length<=140737488351232:=by
 unfold rP;split
 ·split
  ·refine Nat.le_trans (DO l r _) ?_;have:=L0 m p a R;omega
  ·exact Nat.zero_le _
 ·exact Nat.zero_le _
def RU:Rm []:=⟨Nat.zero_le _,fun x h=>by cases h⟩
def Sz{m:Md}{p:Pln}{l:aO}{e:Ev}(hl:Rm l):Rm (gM m p l e).1:=by
 by_cases h:(gM m p l e).2=0
 ·obtain⟨h1,_,h3,h4,_⟩:=Og h;rw[h1];exact He (Ha (pk h3 h4).1 (eG.refl _)) hl
 ·rw[Oe h];exact RU
def SC{m:Md}{p:Pln}{R:Int}{l:aO}{E:List Ev}(hl:Rm l):Rm (jd m p R l E).1:=by
 by_cases h:(jd m p R l E).2=0
 ·obtain⟨h1,h2,h3⟩:=Pp h;rw[h1];exact He (Ap (fun e u=>(pk (h3 e u) h2).1) (eG.refl _)) hl
 ·rw[Po h];exact RU
def Se{m:Md}{p:Pln}{R:Int}{l:aO}{E:List Ev}{e:Ev}{r a:Int}(hm:bx m)(hp:nO p)(hl:l.length<=17592186044416)(hx:∀x∈l,x.length<=17592186044416/\∀y∈x,y.length<=17592186044416)(hE:E.length*120<=140737488351232)(he:∀e∈E,e.past.length<=17592186044416)(aN:e.past.length<=17592186044416):
  Cl aj 5 [.t (bN m),.t (a_ p),.t (.int .i64 R),.t (.arr (aU l)),.t (.arr (b8 E)),.t (c6 e),.t (.int .i64 r),.t (.int .i64 a)] [] (.t (.bool true)) []:=by
 have au:=hm.eff;have k0:=FB;have kc:=IQ (l:=E) hE;have aG:b8 (E++[e])=b8 E++[cx e]:=by unfold b8;rw[List.map_append];rfl
 have z:=Cy (p:=p) hm au hp (l:=[]) (E:=E++[e]) (by simp) (fun x h=>by cases h) (by rw[List.length_append];simp only[List.length_cons,List.length_nil];omega) (fun x h=>by
  rcases List.mem_append.1 h with h|h
  ·have:=he x h;omega
  ·rw[List.mem_singleton]at h;subst h;omega)
 have e1:(.arr (bA []):AV)=.arr []:=rfl;rw[e1]at z;have kw:=CA (l:=l) (by omega) (fun x h=>⟨by have:=(hx x h).1;omega,fun y hy=>by have:=(hx x h).2 y hy;omega⟩);have aM:=pn E;have G:fu 13 [cx e]=true:=L5 [e]
 have D:cn ((b8 E).length+[cx e].length) 120=true:=by
  rw[aM];simp[cn];omega
 rw[aG]at z;unfold c6;by_cases hg:oc m p [] (E++[e])=true/\po l=true
 ·
  obtain⟨V,ax⟩:=hg;rw[V]at z;rw[ax]at kw;obtain⟨hW,hS⟩:=Cz hm au hp V;obtain⟨U,hf,_,_⟩:=yi V;have hX:=Sb U;have v:=CB ax;have ag:(E++[e]).length<=60:=(CC U).1.2.2.2.2.2;rw[List.length_append]at ag;have ao:∀x∈E++[e],x.past.length<=8:=(CC U).2.2.2.1;have aF:e.past.length<=1000000:=by have:=ao e (by simp);omega
  have aB:∀x∈E,x.past.length<=1000000:=fun x h=>by have:=ao x (by simp[h]);omega
  have I:=Ae (l:=l) (e:=e) hW (by omega) v aF;have J:=R5 (l:=l) (e:=e) hW hX (by omega) v aF;have k3:=FJ (R:=R) (l:=l) (E:=E) hW v (by omega) aB;have k4:=Sj (R:=R) (l:=l) (E:=E) hW v (by omega) aB;have k5:=Ao (R:=R) (l:=l) (r:=r) (a:=a) hW (by omega) v;have k6:=Ss (R:=R) (l:=l) (r:=r) (a:=a) hW hX (by omega) v;have hM:=SB (m:=m) (p:=p) (R:=R) (l:=l) (r:=r) (a:=a) (by omega) hp.aA;have Z:=rL (Sz (m:=m) (p:=p) (e:=e) v);have ab:=rL (SC (m:=m) (p:=p) (R:=R) (E:=E) v);have ad:=Oc (rP m p R l r a).1 hM;clear hM;generalize gM m p l e=S1 at I J Z;generalize jd m p R l E=S2 at k3 k4 ab;generalize rP m p R l r a=S3 at k5 k6 ad;obtain⟨A1,c1⟩:=S1;obtain⟨A2,c2⟩:=S2;obtain⟨A3,c3⟩:=S3;dsimp only at I J k3 k4 k5 k6 Z ab ad;unfold c6 at I J;unfold a_ at z I J k3 k4 k5 k6⊢;rw[aZ]at z I J k3 k4 k5 k6⊢;rw[bK]at z I J k3 k4 k5 k6⊢;unfold cx at z G D I J⊢;refine Cl.ap rfl Tryz.func5 rfl rfl rfl ?_
  repeat'(first
|((with_reducible apply aa.cj);(case hp=>exact ak))
|(refine aw ?_)
|((with_reducible apply ac.Rj (effs:=[3,6]) (m:=6));(case hm|he|hk=>exact rfl);(case ht=>(simp only[List.take_succ_cons,List.take_zero];exact rfl));(case hd=>(simp only[List.drop_succ_cons,List.drop_zero];exact rfl));(case hg=>exact rfl))
|((with_reducible apply ay.Rn);(case hx=>((with_reducible apply af.ei);(case hs=>exact fun _=>rfl);(case ha|ht=>exact rfl);(case hr=>first|(with_reducible exact ec)|(with_reducible exact rw1)|(with_reducible exact ed)|(with_reducible exact rw3)|(with_reducible exact rw4)|exact rfl);(case hx|hy|hn|hb=>exact rfl);(case hok=>exact G);(case hlen=>exact D);(case hv=>exact rfl);(case hk=>exact ez);(case hf=>exact leq)));(case hk=>kernel_rfl))
|((with_reducible apply ay.gt);(case hfl=>kernel_rfl);(case hW=>exact rfl);(case hx=>first
|(exact ai kw)
|exact ae))
|((with_reducible apply ay.u);(case hfl=>kernel_rfl);(case hx=>first
|(exact iG kc)
|(exact ai z)
|exact ae))
|((with_reducible apply aa.av);(case hW=>exact rfl);(case hx=>first
|(exact ai ab)
|(exact ai ad)
|exact ae))
|((with_reducible apply aa.u0);(case hx=>first
|(exact ai k0)
|(exact di I)
|(exact di J)
|(exact di k3)
|(exact di k4)
|(exact di k5)
|(exact di k6)
|(exact ai Z)
|exact ae))
|fail)
  exact⟨.inr rfl,rfl⟩
 ·
  obtain⟨b1,al⟩:∃b,oc m p [] (E++[e])=b:=⟨_,rfl⟩;obtain⟨b2,an⟩:∃b,po l=b:=⟨_,rfl⟩;rw[al]at z;rw[an]at kw;rw[al,an]at hg;unfold a_ at z⊢;rw[aZ]at z⊢;rw[bK]at z⊢;unfold cx at z G D⊢;refine Cl.ap rfl Tryz.func5 rfl rfl rfl ?_
  cases b1 with
  |false=>
   repeat'(first
|(refine aw ?_)
|((with_reducible apply ac.Rj (effs:=[3,6]) (m:=6));(case hm|he|hk=>exact rfl);(case ht=>(simp only[List.take_succ_cons,List.take_zero];exact rfl));(case hd=>(simp only[List.drop_succ_cons,List.drop_zero];exact rfl));(case hg=>exact rfl))
|((with_reducible apply ay.Rn);(case hx=>((with_reducible apply af.ei);(case hs=>exact fun _=>rfl);(case ha|ht=>exact rfl);(case hr=>first|(with_reducible exact ec)|(with_reducible exact rw1)|(with_reducible exact ed)|(with_reducible exact rw3)|(with_reducible exact rw4)|exact rfl);(case hx|hy|hn|hb=>exact rfl);(case hok=>exact G);(case hlen=>exact D);(case hv=>exact rfl);(case hk=>exact ez);(case hf=>exact leq)));(case hk=>kernel_rfl))
|((with_reducible apply ay.u);(case hfl=>kernel_rfl);(case hx=>first
|(exact iG kc)
|(exact ai z)
|exact ae))
|((with_reducible apply aa.u0);(case hx=>first
|(exact ai k0)
|exact ae))
|fail)
   exact⟨.inr rfl,rfl⟩
  |true=>
   cases b2 with
   |true=>exact absurd ⟨rfl,rfl⟩ hg
   |false=>
    repeat'(first
|(refine aw ?_)
|((with_reducible apply ac.Rj (effs:=[3,6]) (m:=6));(case hm|he|hk=>exact rfl);(case ht=>(simp only[List.take_succ_cons,List.take_zero];exact rfl));(case hd=>(simp only[List.drop_succ_cons,List.drop_zero];exact rfl));(case hg=>exact rfl))
|((with_reducible apply ay.Rn);(case hx=>((with_reducible apply af.ei);(case hs=>exact fun _=>rfl);(case ha|ht=>exact rfl);(case hr=>first|(with_reducible exact ec)|(with_reducible exact rw1)|(with_reducible exact ed)|(with_reducible exact rw3)|(with_reducible exact rw4)|exact rfl);(case hx|hy|hn|hb=>exact rfl);(case hok=>exact G);(case hlen=>exact D);(case hv=>exact rfl);(case hk=>exact ez);(case hf=>exact leq)));(case hk=>kernel_rfl))
|((with_reducible apply ay.gt);(case hfl=>kernel_rfl);(case hW=>exact rfl);(case hx=>first
|(exact ai kw)
|exact ae))
|((with_reducible apply ay.u);(case hfl=>kernel_rfl);(case hx=>first
|(exact iG kc)
|(exact ai z)
|exact ae))
|((with_reducible apply aa.u0);(case hx=>first
|(exact ai k0)
|exact ae))
|fail)
    exact⟨.inr rfl,rfl⟩
end Go.Proofs.YtcgdbhlnkificaaGreatDoor
