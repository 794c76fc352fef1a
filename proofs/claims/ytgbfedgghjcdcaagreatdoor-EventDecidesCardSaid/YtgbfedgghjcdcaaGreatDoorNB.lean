/- The reference's tuples of cells,as contracts. No condition. -/
import Derived.Test.YtgbfedgghjcdcaaGreatDoorNA
set_option linter.all false
namespace Go.Proofs.YtgbfedgghjcdcaaGreatDoor
open Go.RowKit
set_option maxRecDepth 100000
set_option maxHeartbeats 16000000
def Fp(fr:Fr)(m n:Int):ky ap.P fr 22 (.t (.int .i64 m)) (.t (.int .i64 n))=match decide (0<=m)&&decide (m<=n)&&Nat.ble (n.toNat*8) 281474976710656&&Nat.ble n.toNat 140737488351232 with
  |true=>some (.ls fr.length,fr++[.row false false 1 (List.replicate m.toNat [.int .i64 0])],[])
  |false=>none:=by kernel_rfl
def Fo{fr:Fr}{n:Nat}(h:n<=1000):ky ap.P fr 22 (.t (.int .i64 (n:Int))) (.t (.int .i64 (n:Int)))=some (.ls fr.length,fr++[.row false false 1 (aW (List.replicate n 0))],[]):=by
 have e:(decide (0<=(n:Int))&&decide ((n:Int)<=n)&&Nat.ble ((n:Int).toNat*8) 281474976710656&&Nat.ble (n:Int).toNat 140737488351232)=true:=by
  rw[Int.toNat_natCast];have h1:Nat.ble (n*8) 281474976710656=true:=by rw[Nat.ble_eq];omega
  have h2:Nat.ble n 140737488351232=true:=by rw[Nat.ble_eq];omega
  rw[h1,h2];simp
 rw[Fp,e];simp[aW]
def GR{S C:List Int}{K:Int}(hs:c6 S=true)(hc:C.all (c_ S)=true)(hS:S.length<=140737488351232)(hC:C.length<=3)(h0:0<=K)(hK:K<=1000):Cl ap 209 [.t (aF S),.t (aF C),.t (.int .i64 K)] [] (.ls 0) [.row false false 1 (aW (uT S C K))]:=by
 have al:=bC S;have ag:=bC C;have hm:=Fo (fr:=[]) (n:=C.length) (by omega);have I:=bC (List.replicate C.length 0);rw[List.length_replicate]at I;refine Cl.aE rfl Tryz.func209 rfl rfl rfl ?_
 repeat'(first
|(with_reducible first|apply aa.seq|apply aa.block)
|((with_reducible apply aa.text);(try case hm=>exact rfl))
|(with_reducible apply ab.af)
|((with_reducible apply ab.u0);(case hx=>first
|((with_reducible apply ah.iW);(case hs=>exact fun _=>rfl);(case hl|hc|hd=>exact rfl);(case hm=>exact hm);(case hf=>exact leq))
|exact ac))
|fail)
 apply aa.aM
 case ho=>exact rfl
 case hp=>exact rfl
 case hl=>exact rfl
 case hs=>exact slt
 refine aI.cd (fun x:Nat×Int×List Int=>[(2,.t (.int .i64 x.2.1)),(8,.t (.int .i64 ((x.1:Int) - 1)))]) (fun x=>[.row false false 1 (aW x.2.2)]) (fun x=>x.1<=C.length/\0<=x.2.1/\x.2.1<=1000/\x.2.2.length=C.length/\nR S C x.1 x.2.1 x.2.2=uT S C K) (fun x=>x.1) (C.length,K,List.replicate C.length 0) rfl rfl ⟨by dsimp only;omega,h0,hK,by simp,rfl⟩ (fun x hx=>?_);obtain⟨j,k,r⟩:=x;dsimp only at hx⊢;obtain⟨h1,h2,h3,h4,V⟩:=hx
 cases j with
 |zero=>
  rw[<- V]
  repeat'(first
|(with_reducible apply aa.seq)
|((with_reducible apply aa.text);(try case hm=>exact rfl))
|(with_reducible first|apply aa.exit|apply aa.ret|apply ai|apply aA|apply az)
|((with_reducible apply aa.ak);(case hc=>exact rfl))
|((with_reducible apply ab.aw);(case hp=>exact ae))
|(with_reducible apply ab.af)
|((with_reducible apply ab.u0);(case hx=>exact ac))
|fail)
  exact⟨.inr rfl,rfl⟩
 |succ j=>
  obtain⟨c,u⟩:=av (xs:=C) (k:=j) (by omega);have ad:=bB u;have y:=List.all_eq_true.1 hc c (List.mem_of_getElem? u);obtain⟨g1,g2⟩:=wW hs y;simp only[c_,Bool.and_eq_true,decide_eq_true_eq]at y;obtain⟨g3,g4⟩:=y;obtain⟨s,z⟩:=av (xs:=S) (k:=c.toNat) (by omega);have aq:=bB z;rw[dt z]at g1 g2;obtain⟨v,hv⟩:=av (xs:=r) (k:=j) (by omega);have Q:=bB hv;have an:=bC r;have ej:(((j+1:Nat):Int) - 1)=(j:Int):=by omega
  rw[ej];have J:(aW r)[((j:Nat):Int).toNat]?=some [.int .i64 v]:=by rw[Int.toNat_natCast];exact Q
  have O:(aW r).set ((j:Nat):Int).toNat [.int .i64 (k.tmod s)]=aW (r.set j (k.tmod s)):=by rw[Int.toNat_natCast];simp[aW,List.map_set]
  have hd:0<=k.tdiv s/\k.tdiv s<=k:=by
   rw[Int.tdiv_eq_ediv_of_nonneg h2];exact⟨Int.ediv_nonneg h2 (by omega),Int.ediv_le_self _ h2⟩
  have G:nR S C (j+1) k r=nR S C j (k.tdiv s) (r.set j (k.tmod s)):=by
   have Z:C.getD j 0=c:=dt u;have e2:S.getD c.toNat 0=s:=dt z;rw[nR,Z,e2]
  obtain⟨U,D⟩:∃U,k.tdiv s=U:=⟨_,rfl⟩;rw[D]at hd G
  repeat'(first
|(with_reducible first|apply aa.seq|apply aa.block)
|((with_reducible apply aa.text);(try case hm=>exact rfl))
|(with_reducible first|apply aa.skip|apply ai)
|((with_reducible apply aa.am);(case hc=>exact rfl))
|((with_reducible apply ab.ao);(case hp=>exact ae))
|(with_reducible first|apply ab.af|apply ab.bM)
|((with_reducible apply ab.u0);(case hx=>first
|((with_reducible apply ah.zm);(case hx|hy=>exact rfl);(case hn=>omega);(case h=>exact rfl))
|((with_reducible apply ah.Gd);(case hx|hy=>exact rfl);(case hn=>omega);(case h=>exact D);(case hb=>omega))
|((with_reducible apply ah.vM);(case hs=>exact fun _=>rfl);(case ha|hy|ht|hone=>exact rfl);(case hn=>kernel_rfl);(case hb=>exact rfl);(case hk=>exact J);(case hj=>exact rfl);(case hv=>exact O);(case hf=>exact leq))
|exact ac))
|fail)
  exact⟨(j,U,r.set j (k.tmod s)),rfl,rfl,⟨by dsimp only;omega,by dsimp only;omega,by dsimp only;omega,by simp[h4],by dsimp only;rw[<- G];exact V⟩,by dsimp only;omega⟩
def uz{S:List Int}{s:Bool}{c:Int}{t:Tb}:iq S s c t=true↔bz t.kind=s/\0<=c/\0<=c - t.first/\c - t.first <bp S t.aB:=by
 unfold iq;simp only[Bool.and_eq_true,decide_eq_true_eq]
def xX{S:List Int}{L:List Tb}(h:ce S L=true){k:Nat}{t:Tb}(ht:L[k]?=some t):0<=t.first/\t.first<=5000:=by
 have h1:=nx h ht;simp only[gU,Bool.and_eq_true,decide_eq_true_eq]at h1;have h2:=lO (S:=S) (bz t.kind) (L.take k);have h3:=k_ h;have h4:(L.take k).length<=L.length:=by simp;omega
 omega
def G8{S:List Int}{L:List Tb}{s:Bool}{c:Int}(Z:S.length<=140737488351232)(hL:L.length<=140737488351232)(hC:∀t∈L,t.aB.length<=140737488351232)(hc:c<=9223372036854775807):match iE S L s c with
  |some (i,t)=>Cl ap 174 [.t (aF S),.t (.arr (cR L)),.t (.bool s),.t (.int .i64 c)] [] (.aL [.t (.int .i64 (i:Int)),.ls 0,.t (.bool true)]) [.row false false 1 (aW (uT S t.aB (c - t.first)))]
  |none=>Cl ap 174 [.t (aF S),.t (.arr (cR L)),.t (.bool s),.t (.int .i64 c)] [] (.aL [.t (.int .i64 0),.nil,.t (.bool false)]) []:=by
 have U:=vj Z hL hC;have aq:=bC S;have an:=gV L
 cases J:ce S L with
 |false=>
  have hr:iE S L s c=none:=by unfold iE;rw[J];rfl
  rw[J]at U;rw[hr];refine Cl.aE rfl Tryz.func174 rfl rfl rfl ?_
  repeat'(first
|(with_reducible apply aa.seq)
|((with_reducible apply aa.text);(try case hm=>exact rfl))
|(with_reducible first|apply aa.ret|apply ay)
|((with_reducible apply aa.am);(case hc=>exact rfl))
|(with_reducible apply ab.af)
|((with_reducible apply ab.u0);(case hx=>first
|(exact aj U)
|exact ac))
|fail)
  exact⟨.inr rfl,rfl⟩
 |true=>
  have hr:iE S L s c=iR (iq S s c) 0 L:=by unfold iE;rw[J];rfl
  rw[J]at U;rw[hr]
  cases hf:iR (iq S s c) 0 L with
  |none=>
   show Cl ap 174 _ [] _ []
   refine Cl.aE rfl Tryz.func174 rfl rfl rfl ?_
   repeat'(first
|(with_reducible first|apply aa.seq|apply aa.block)
|((with_reducible apply aa.text);(try case hm=>exact rfl))
|(with_reducible first|apply aa.skip|apply ai)
|((with_reducible apply aa.ak);(case hc=>exact rfl))
|(with_reducible apply ab.af)
|((with_reducible apply ab.u0);(case hx=>first
|(exact aj U)
|exact ac))
|fail)
   apply aa.aM
   case ho=>exact rfl
   case hp=>exact rfl
   case hl=>exact rfl
   case hs=>exact slt
   refine aI.ind (fun q:Nat=>[(11,.t (.int .i64 (q:Int)))]) (fun q=>q<=L.length/\iR (iq S s c) q (L.drop q)=none) (fun q=>L.length - q) 0 rfl ⟨by omega,hf⟩ (fun q Q=>?_);obtain⟨h1,h2⟩:=Q;rcases Nat.lt_or_ge q L.length with h3|h3
   ·
    obtain⟨t,D⟩:=av h3;have ag:=fZ D;have O:=rI (S:=S) (C:=t.aB) Z (hC t (List.mem_of_getElem? D));have v:=rM t.kind;obtain⟨f0,f1⟩:=xX J D;rw[xl D]at h2;obtain⟨N,V⟩:∃N,bp S t.aB=N:=⟨_,rfl⟩
    cases z:iq S s c t with
    |true=>rw[z]at h2;cases h2
    |false=>
     rw[z]at h2;have y:¬(bz t.kind=s/\0<=c/\0<=c - t.first/\c - t.first <bp S t.aB):=fun h=>by rw[uz.2 h]at z;cases z
     rw[V]at O y;by_cases hs:bz t.kind=s
     ·
      rw[hs]at v;by_cases h0:0<=c
      ·
       cases s <;>
       repeat'(first
|(with_reducible first|apply aa.seq|apply aa.block)
|((with_reducible apply aa.text);(try case hm=>exact rfl))
|(with_reducible first|apply aa.skip|apply ai|apply aG)
|((with_reducible apply aa.am);(case hc=>exact rfl))
|((with_reducible apply aa.ak);(case hc=>exact rfl))
|((with_reducible apply ab.ao);(case hp=>exact ae))
|((with_reducible apply ab.bh);(case hp=>exact ae))
|((with_reducible apply ab.a_)<;>intro Q)
|(with_reducible apply ab.af)
|((with_reducible apply ab.gf);(case hW=>exact rfl))
|((with_reducible apply ab.au);(case hW=>exact rfl);(case hx=>first
|(exact aj O)
|exact ac))
|((with_reducible apply ab.u0);(case hx=>first
|(exact aj v)
|exact ac))
|fail)
       all_goals first
        |exact⟨q+1,rfl,rfl,⟨by omega,h2⟩,by omega⟩
        |(exfalso;apply y;exact⟨hs,by omega,by omega,by omega⟩)
      ·
       cases s <;>
       repeat'(first
|(with_reducible first|apply aa.seq|apply aa.block)
|((with_reducible apply aa.text);(try case hm=>exact rfl))
|(with_reducible first|apply aa.skip|apply ai|apply aG)
|((with_reducible apply aa.am);(case hc=>exact rfl))
|((with_reducible apply aa.ak);(case hc=>exact rfl))
|((with_reducible apply ab.ao);(case hp=>exact ae))
|((with_reducible apply ab.aV);(case hp=>exact ae))
|(with_reducible apply ab.af)
|((with_reducible apply ab.gf);(case hW=>exact rfl))
|((with_reducible apply ab.au);(case hW=>exact rfl);(case hx=>exact ac))
|((with_reducible apply ab.u0);(case hx=>first
|((with_reducible apply ah.r_);(case hx|hy=>exact rfl))
|(exact aj v)
|exact ac))
|fail)
       all_goals exact⟨q+1,rfl,rfl,⟨by omega,h2⟩,by omega⟩
     ·
      have I:bz t.kind=!s:=by cases s <;>simp_all
      rw[I]at v;cases s <;>
      repeat'(first
|(with_reducible first|apply aa.seq|apply aa.block)
|((with_reducible apply aa.text);(try case hm=>exact rfl))
|(with_reducible first|apply aa.skip|apply ai|apply aG)
|((with_reducible apply aa.am);(case hc=>exact rfl))
|((with_reducible apply aa.ak);(case hc=>exact rfl))
|((with_reducible apply ab.ao);(case hp=>exact ae))
|(with_reducible apply ab.af)
|((with_reducible apply ab.gf);(case hW=>exact rfl))
|((with_reducible apply ab.u0);(case hx=>first
|((with_reducible apply ah.r_);(case hx|hy=>exact rfl))
|(exact aj v)
|exact ac))
|fail)
      all_goals exact⟨q+1,rfl,rfl,⟨by omega,h2⟩,by omega⟩
   ·
    repeat'(first
|(with_reducible apply aa.seq)
|((with_reducible apply aa.text);(try case hm=>exact rfl))
|(with_reducible first|apply aa.exit|apply aa.ret|apply ai|apply aA|apply az)
|((with_reducible apply aa.ak);(case hc=>exact rfl))
|((with_reducible apply ab.aw);(case hp=>exact ae))
|(with_reducible apply ab.af)
|((with_reducible apply ab.u0);(case hx=>exact ac))
|fail)
    exact⟨.inr rfl,rfl⟩
  |some it=>
   obtain⟨i,u⟩:=it;have al:=vQ hf;show Cl ap 174 _ [] _ _
   refine Cl.aE rfl Tryz.func174 rfl rfl rfl ?_
   repeat'(first
|(with_reducible first|apply aa.seq|apply aa.block)
|((with_reducible apply aa.text);(try case hm=>exact rfl))
|(with_reducible first|apply aa.skip|apply ai)
|((with_reducible apply aa.ak);(case hc=>exact rfl))
|(with_reducible apply ab.af)
|((with_reducible apply ab.u0);(case hx=>first
|(exact aj U)
|exact ac))
|fail)
   apply aa.aM
   case ho=>exact rfl
   case hp=>exact rfl
   case hl=>exact rfl
   case hs=>exact slt
   refine aI.ind (fun q:Nat=>[(11,.t (.int .i64 (q:Int)))]) (fun q=>q<=L.length/\iR (iq S s c) q (L.drop q)=some (i,u)) (fun q=>L.length - q) 0 rfl ⟨by omega,hf⟩ (fun q Q=>?_);obtain⟨h1,h2⟩:=Q;rcases Nat.lt_or_ge q L.length with h3|h3
   ·
    obtain⟨t,D⟩:=av h3;have ag:=fZ D;have O:=rI (S:=S) (C:=t.aB) Z (hC t (List.mem_of_getElem? D));have v:=rM t.kind;obtain⟨f0,f1⟩:=xX J D;obtain⟨c1,c2,c3⟩:=nw J D;have ad:=jI S t.aB;rw[xl D]at h2;obtain⟨N,V⟩:∃N,bp S t.aB=N:=⟨_,rfl⟩
    cases z:iq S s c t with
    |true=>
     rw[z,if_pos rfl]at h2;obtain⟨rfl,rfl⟩:q=i/\t=u:=by cases h2;exact⟨rfl,rfl⟩
     have G:=uz.1 z;rw[V]at O G ad;obtain⟨y1,y2,y3,y4⟩:=G;rw[y1]at v;have kt:=GR (S:=S) (C:=t.aB) (K:=c - t.first) c2 c3 Z c1 y3 (by omega);cases s <;>
     repeat'(first
|(with_reducible first|apply aa.seq|apply aa.block)
|((with_reducible apply aa.text);(try case hm=>exact rfl))
|(with_reducible first|apply aa.skip|apply aa.ret|apply ai|apply ay|apply aO)
|((with_reducible apply aa.am);(case hc=>exact rfl))
|((with_reducible apply ab.ao);(case hp=>exact ae))
|((with_reducible apply ab.bh);(case hp=>exact ae))
|(with_reducible apply ab.af)
|((with_reducible apply ab.au);(case hW=>exact rfl);(case hx=>first
|(exact aj O)
|exact ac))
|((with_reducible apply ab.u0);(case hx=>first
|(exact aj v)
|(exact dy kt)
|exact ac))
|fail)
     all_goals exact⟨.inr rfl,rfl⟩
    |false=>
     rw[z]at h2;have y:¬(bz t.kind=s/\0<=c/\0<=c - t.first/\c - t.first <bp S t.aB):=fun h=>by rw[uz.2 h]at z;cases z
     rw[V]at O y;by_cases hs:bz t.kind=s
     ·
      rw[hs]at v;by_cases h0:0<=c
      ·
       cases s <;>
       repeat'(first
|(with_reducible first|apply aa.seq|apply aa.block)
|((with_reducible apply aa.text);(try case hm=>exact rfl))
|(with_reducible first|apply aa.skip|apply ai|apply aG)
|((with_reducible apply aa.am);(case hc=>exact rfl))
|((with_reducible apply aa.ak);(case hc=>exact rfl))
|((with_reducible apply ab.ao);(case hp=>exact ae))
|((with_reducible apply ab.bh);(case hp=>exact ae))
|((with_reducible apply ab.a_)<;>intro Q)
|(with_reducible apply ab.af)
|((with_reducible apply ab.gf);(case hW=>exact rfl))
|((with_reducible apply ab.au);(case hW=>exact rfl);(case hx=>first
|(exact aj O)
|exact ac))
|((with_reducible apply ab.u0);(case hx=>first
|(exact aj v)
|exact ac))
|fail)
       all_goals first
        |exact⟨q+1,rfl,rfl,⟨by omega,h2⟩,by omega⟩
        |(exfalso;apply y;exact⟨hs,by omega,by omega,by omega⟩)
      ·
       cases s <;>
       repeat'(first
|(with_reducible first|apply aa.seq|apply aa.block)
|((with_reducible apply aa.text);(try case hm=>exact rfl))
|(with_reducible first|apply aa.skip|apply ai|apply aG)
|((with_reducible apply aa.am);(case hc=>exact rfl))
|((with_reducible apply aa.ak);(case hc=>exact rfl))
|((with_reducible apply ab.ao);(case hp=>exact ae))
|((with_reducible apply ab.aV);(case hp=>exact ae))
|(with_reducible apply ab.af)
|((with_reducible apply ab.gf);(case hW=>exact rfl))
|((with_reducible apply ab.au);(case hW=>exact rfl);(case hx=>exact ac))
|((with_reducible apply ab.u0);(case hx=>first
|((with_reducible apply ah.r_);(case hx|hy=>exact rfl))
|(exact aj v)
|exact ac))
|fail)
       all_goals exact⟨q+1,rfl,rfl,⟨by omega,h2⟩,by omega⟩
     ·
      have I:bz t.kind=!s:=by cases s <;>simp_all
      rw[I]at v;cases s <;>
      repeat'(first
|(with_reducible first|apply aa.seq|apply aa.block)
|((with_reducible apply aa.text);(try case hm=>exact rfl))
|(with_reducible first|apply aa.skip|apply ai|apply aG)
|((with_reducible apply aa.am);(case hc=>exact rfl))
|((with_reducible apply aa.ak);(case hc=>exact rfl))
|((with_reducible apply ab.ao);(case hp=>exact ae))
|(with_reducible apply ab.af)
|((with_reducible apply ab.gf);(case hW=>exact rfl))
|((with_reducible apply ab.u0);(case hx=>first
|((with_reducible apply ah.r_);(case hx|hy=>exact rfl))
|(exact aj v)
|exact ac))
|fail)
      all_goals exact⟨q+1,rfl,rfl,⟨by omega,h2⟩,by omega⟩
   ·
    exfalso;rw[DD h3]at h2;cases h2
end Go.Proofs.YtgbfedgghjcdcaaGreatDoor
