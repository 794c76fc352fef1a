/- The tree evaluator: a law's contract on trees gives what. No condition. -/
import Derived.Test.YtcgdbhlnkificaaGreatDoorTD
set_option linter.all false
namespace Go.Proofs.YtcgdbhlnkificaaGreatDoor
open Go.RowKit Go.ChangeShapes Go.WideShapes Go.Deep
section
variable {H:Type} {enc:TypeId×Value->H} {P:Program} {W:World}
theorem RY:∀(y:List TypeId) (vs:List Value) (ds:List (DataW H)) (J:List MemPlace),DataW.TrodAll enc P W 0 (fun _=>true) true y vs ds J->∀(j:Nat) (t:TypeId) (v:Value),y[j]?=some t->vs[j]?=some v->∃d q,ds[j]?=some d/\DataW.Trod enc P W 0 (fun _=>true) true t v d q
 |[],_,_,_,_,j,t,v,h,_=>by simp at h
 |t::y,vs,ds,J,h,j,u,v,D,G=>by
  obtain⟨Z,I,d,z,p,q,rfl,rfl,rfl,U,V⟩:=trodAll_cons h
  cases j with
  |zero=>
   simp at D G;subst D G;exact⟨d,p,rfl,U⟩
  |succ j=>exact RY y I z q V j u v (by simpa using D) (by simpa using G)
def Sf{e t:TypeId}{v:Value}{d:DataW H}{ps:List MemPlace}{l:List (List AV)}(J:P.underlying t=some (.slice e))(h:DataW.Trod enc P W 0 (fun _=>true) true t v d ps)(hs:fj (d.weights P t))(hv:VR (fun _=>True) W (.arr l) v):l.length*P.bytesOf e<=140737488351232:=by
 obtain⟨z,Z⟩:=h;rcases open_slice J Z with⟨u,_⟩|⟨a,len,cap,m,k,D,Pl,u,_,hl,_,I,U,hi⟩
 ·cases hv with
  |bS A c=>simp
  |arr b o c sz V us y=>simp[Value.cells]at u
 ·simp only[if_true]at I;subst I;simp only[Prod.mk.injEq]at U;rw[U.1]at hs;rw[DataW.weights]at hs;simp only[J]at hs;have h1:=hs _ (List.mem_cons_self);simp only[List.length_map,List.length_range]at h1;have h3:len+(m - len)=m:=by omega
  rw[h3]at h1
  have G:l.length=len:=by
   cases hv with
   |bS A c=>
    simp[Value.cells]at u;simp[u]
   |arr b o c sz V us y=>
    simp[Value.cells]at u;exact u.2.1
  have h2:l.length*P.bytesOf e<=m*P.bytesOf e:=Nat.mul_le_mul_right _ (by omega);unfold reachBytes at h1;omega
set_option maxRecDepth 100000 in
theorem Sd {m b0:Nat} {g:Cfg} {γ:Glob} (hP:g.P=Tryz.prog) (ag:Wf g γ) {F:FuncId} {f:Func} {s:ChangeSpec} {args:Array Value} {ds gs:List (DataW H)} {u:List MemPlace} {ts:List TypeId} (y:s.vars=[]) (ao:f.resultTypes=#[4])
  (J:(f.params.toList.all fun t=>Tryz.prog.readableRec t && decide (t < Tryz.prog.types.size))=true) (ap:(f.params.toList.all fun t=>l5 Tryz.prog m t)=true) (al:∀ ds:List (DataW H),ds.length=f.params.toList.length->s.fn H ds={ results:=[.lit (.bool true)],args:=ds })
  (Z:∀ (j:Nat) t v,f.params[j]?=some t->args[j]?=some v->Value.okWide Tryz.prog W .any b0 t v)
  (hW:DataW.Whole enc Tryz.prog f.params.toList s.vars false W args.toList ds gs u) (U:(DataW.weightsEach Tryz.prog (f.params.toList++ts) (ds++gs)).all (·<=reachBytes)=true)
  (hG:γ.G W) (hn:γ.n<=W.heap.size) (I:∀ xs,rY Tryz.prog m f.params.toList xs->(∀ (j:Nat) (t e:TypeId) (l:List (List AV)),xs[j]?=some (.arr l)->f.params[j]?=some t->Tryz.prog.underlying t=some (.slice e)->l.length * Tryz.prog.bytesOf e<=140737488351232)->Cl g F (xs.map .t) [] (.t (.bool true)) []) :
  Calls Tryz.prog F args W fun e W'=>∃ v,e=.returned v/\s.post enc Tryz.prog f false true false false W args v W':=by
 have ad:=hW;obtain ⟨p,q,ab,hV,rfl,au,av⟩:=hW;have hA:DataW.TrodAll enc Tryz.prog W 0 (fun _=>true) true f.params.toList args.toList ds p:=ab;obtain ⟨hl,xs,hx,z⟩:=Bj f.params.toList args.toList ds p ap (fun j t v h1 h2=>Z j t v (by simpa using h1) (by simpa using h2)) hA (Pm U);refine KH y ao J (al ds hl) ad ?_;rw [<- hP];refine KI ag (I xs hx fun j t e l hj ht hu=>?_) hG hn z
 have an:j < args.toList.length:=by
  have h1:=aC hj;have h2:=z.1;omega
 have D:=List.getElem?_eq_getElem an;have hr:=z.2 j _ _ hj D;have V:f.params.toList[j]?=some t:=by simpa using ht
 obtain ⟨d,q,hd,h0⟩:=RY _ _ _ _ hA j t _ V D;exact Sf hu h0 (F6 (Pm U) j t d V hd) hr
end
end Go.Proofs.YtcgdbhlnkificaaGreatDoor
