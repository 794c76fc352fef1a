/- Tokens as the code reads them: the first token of a word,and names. Plain Lean. No condition. -/
import Derived.Test.YtcpgmmlaimkojaaGreatDoorTS
set_option linter.unusedSimpArgs false
set_option linter.unusedVariables false
set_option linter.unusedSectionVars false
namespace Go.Proofs.YtcpgmmlaimkojaaGreatDoor
def nlB (b:UInt8):Bool:=!decide (b.toNat=10)
theorem skip_com:∀ (l:List UInt8),skipL true l=runL nlB l+skipL false (l.drop (runL nlB l))
 | []=>rfl
 | b::r=>by
  by_cases h:b.toNat=10
  ·have e1:skipL true (b::r)=skipL false r+1:=by rw [skipL,if_pos h]
   have e2:runL nlB (b::r)=0:=by unfold runL;rw [if_neg (by simp [nlB,h])]
   have e3:skipL false (b::r)=skipL false r+1:=by rw [skipL,if_pos (by simp [whiB,h])]
   rw [e1,e2,List.drop_zero,e3];omega
  ·have e1:skipL true (b::r)=skipL true r+1:=by rw [skipL,if_neg h]
   have e2:runL nlB (b::r)=runL nlB r+1:=by rw [runL,if_pos (by simp [nlB,h])]
   rw [e1,e2,List.drop_succ_cons,skip_com r];omega
theorem skip_hash {b:UInt8} {r:List UInt8} (h1:whiB b=false) (h:b.toNat=35):skipL false (b::r)=runL nlB (b::r)+skipL false ((b::r).drop (runL nlB (b::r))):=by
 have e1:skipL false (b::r)=skipL true r+1:=by rw [skipL,if_neg (by simp [h1]),if_pos h]
 have e2:runL nlB (b::r)=runL nlB r+1:=by rw [runL,if_pos (by simp [nlB,h])]
 rw [e1,e2,List.drop_succ_cons,skip_com r];omega
def sy2:List (List UInt8):=[[61,61],[33,61],[60,61],[62,61],[46,46]]
def sy1:List UInt8:=[60,62,61,43,45,42,40,41,123,125,44,58,59]
def hasPre (s t:List UInt8):Bool:=decide (s.length≤t.length) && decide (t.take s.length=s)
def symC (t:List UInt8):Nat:=if sy2.any (fun s=>hasPre s t)=true then 2 else match t with
 | []=>0
 | b::_=>if b∈sy1 then 1 else 0
theorem symG_two:∀ (S:List (List UInt8)) (T:List (List UInt8)) (t:List UInt8),(∀ s∈S,s.length=2)→symG (S++T) t=if S.any (fun s=>hasPre s t)=true then 2 else symG T t
 | [],T,t,_=>by simp
 | s::S,T,t,h=>by
  rw [List.cons_append,symG,symG_two S T t fun x hx=>h x (by simp [hx]),List.any_cons]
  have hs:=h s (by simp)
  by_cases hp:s.length≤t.length∧t.take s.length=s
  ·rw [if_pos hp]
   have:hasPre s t=true:=by unfold hasPre;simp [hp]
   rw [this,Bool.true_or,if_pos rfl,hs]
  ·rw [if_neg hp]
   have:hasPre s t=false:=by
    unfold hasPre
    rw [← Bool.not_eq_true,Bool.and_eq_true,decide_eq_true_eq,decide_eq_true_eq]
    exact hp
   rw [this,Bool.false_or]
theorem symG_one:∀ (S:List UInt8) (b:UInt8) (r:List UInt8),symG (S.map fun c=>[c]) (b::r)=if b∈S then 1 else 0
 | [],b,r=>by simp [symG]
 | c::S,b,r=>by
  rw [List.map_cons,symG,symG_one S b r]
  by_cases h:b=c
  ·rw [if_pos ⟨by simp,by simp [h]⟩,if_pos (by simp [h])];rfl
  ·rw [if_neg (by rintro ⟨_,h2⟩;simp at h2;exact h h2)]
   simp only [List.mem_cons,h,false_or]
theorem symG_nil:∀ (S:List UInt8),symG (S.map fun c=>[c]) []=0
 | []=>rfl
 | c::S=>by rw [List.map_cons,symG,if_neg (by simp),symG_nil S]
theorem sym_eq (t:List UInt8):symC t=symL t:=by
 have e:syL=sy2++sy1.map fun c=>[c]:=by decide
 unfold symL symC
 rw [e,symG_two _ _ _ (by decide)]
 cases t with
 | nil=>simp only [symG_nil]
 | cons b r=>simp only [symG_one]
def begB (b:UInt8) (r:List UInt8):Bool:=letB b || (isDig b || decide (0 < symC (b::r)))
def wrC:List UInt8→Nat
 | []=>0
 | b::r=>if (!whiB b && (!decide (b.toNat=35) && !begB b r))=true then wrC r+1 else 0
def tokC:List UInt8→Int×Nat
 | []=>(0,0)
 | b::r=>
  if letB b=true then (if (b::r).take (runL prtB (b::r))∈kwL then 2 else 1,runL prtB (b::r))
  else if isDig b=true then (3,runL isDig (b::r))
  else if 0 < symC (b::r) then (4,symC (b::r))
  else (5,1+wrC r)
def kindC (l:List UInt8):Int:=if l.length=0∨4096 < l.length then 0 else
 if skipL false l=0∧skipL false l+(tokC (l.drop (skipL false l))).2=l.length then (tokC (l.drop (skipL false l))).1 else 0
theorem wr_eq:∀ (l:List UInt8),wrC l=wrL l
 | []=>rfl
 | b::r=>by
  rw [wrC,wrL,wr_eq r,← sym_eq]
  have:(!whiB b && (!decide (b.toNat=35) && !begB b r))=true↔(whiB b=false∧b.toNat≠35)∧(letB b=false∧isDig b=false∧symC (b::r)=0):=by
   unfold begB
   simp only [Bool.and_eq_true,Bool.not_eq_true',Bool.or_eq_false_iff,decide_eq_false_iff_not]
   constructor
   ·rintro ⟨h1,h2,h3,h4,h5⟩;exact ⟨⟨h1,h2⟩,h3,h4,by omega⟩
   ·rintro ⟨⟨h1,h2⟩,h3,h4,h5⟩;exact ⟨h1,h2,h3,h4,by omega⟩
  by_cases h:(!whiB b && (!decide (b.toNat=35) && !begB b r))=true
  ·rw [if_pos h,if_pos (this.1 h)]
  ·rw [if_neg h,if_neg fun h'=>h (this.2 h')]
theorem tok_eq {b:UInt8} {r:List UInt8} (h1:whiB b=false) (h2:b.toNat≠35):tokC (b::r)=tokL (b::r):=by
 rw [tokL_cons,tokC,sym_eq]
 split
 ·rfl
 ·rename_i h3
  split
  ·rfl
  ·rename_i h4
   split
   ·rfl
   ·rename_i h5
    rw [wrL,if_pos ⟨⟨h1,h2⟩,by simpa using h3,by simpa using h4,by omega⟩,wr_eq]
    rw [Nat.add_comm]
theorem kind_eq (l:List UInt8):kindC l=kindL l:=by
 unfold kindC kindL
 by_cases h1:4096 < l.length
 ·rw [if_pos (.inr h1),if_pos h1]
 ·rw [if_neg h1]
  by_cases h0:l.length=0
  ·have:l=[]:=List.length_eq_zero_iff.1 h0
   subst this
   rfl
  ·rw [if_neg (by omega)]
   unfold scanA scanL
   rw [Nat.zero_add,List.drop_zero]
   by_cases hs:skipL false l=0
   ·have hpos:0 < l.length:=by omega
    rw [hs]
    simp only [Nat.zero_add,true_and,List.drop_zero,if_pos hpos]
    cases l with
    | nil=>exact absurd rfl h0
    | cons b r=>
     obtain ⟨a1,a2⟩:=skip_stop (b::r) b r (by rw [hs];rfl)
     rw [tok_eq a1 a2]
     by_cases he:(tokL (b::r)).2=(b::r).length
     ·rw [if_pos he]
      have:scanL (b::r) (b::r).length (tokL (b::r)).2=[⟨0,(b::r).length,(b::r).length,(b::r).length⟩]:=by
       rw [he,List.length_cons,scanL,if_neg (by simp)]
       rfl
      rw [this]
      simp only [he,and_self,if_true]
     ·rw [if_neg he]
      split
      ·rename_i t x e
       rw [List.cons.injEq] at e
       rw [← e.1]
       simp only [he,and_false,if_false]
      ·rfl
   ·rw [if_neg (by simp [hs])]
    split
    ·rename_i t x e
     split at e
     ·rw [List.cons.injEq] at e
      rw [← e.1]
      simp only [hs,false_and,if_false]
     ·cases e
    ·rfl
end Go.Proofs.YtcpgmmlaimkojaaGreatDoor
namespace Go.Proofs.YtcpgmmlaimkojaaGreatDoor
structure Scn where
 e:Int
 f:Int
 hold:Bool
 idx:Int
 st:List Int
structure Esc where
 con:Int
 s:Scn
structure Mem where
 act:Int
 s:Scn
structure Lck where
 a:Int
 b:Int
 pa:Int
 pb:Int
 mem:List Mem
structure Pln where
 esc:List Esc
 locks:List Lck
 places:List Mem
 need:List Int
def zScn:Scn:=⟨0,0,false,0,[]⟩
def zLck:Lck:=⟨0,0,0,0,[]⟩
section
variable (m:Md)
def opAt (k:Int):Int:=(m.acts.getD k.toNat zActn).op
def opnAt (o:Int):Opn:=m.ops.getD o.toNat zOpn
def inActs (k:Int):Bool:=decide (0≤k) && decide (k < m.acts.length)
def riseB {α:Type} (f:α→Int) (l:List α):Bool:=allI (fun i x=>decide (i=0) || match l[i - 1]? with|some y=>decide (f y < f x)|none=>false) l
def memsB (fit:Int→Bool) (l:List Mem):Bool:=riseB Mem.act l && l.all fun x=>inActs m x.act && fit (opAt m x.act)
def sortP (o k:Int):Int:=if 0≤k∧k < (opnAt m o).sorts.length then (opnAt m o).sorts.getD k.toNat 0 else -1
def paramsB (L:Lck):Bool:=(decide (L.pa = -1) && decide (L.pb = -1)) || (decide (0≤sortP m L.a L.pa) && (decide (sortP m L.a L.pa=sortP m L.b L.pb) && (!decide (L.a=L.b) || decide (L.pa=L.pb))))
def lockB (L:Lck):Bool:=(decide (0≤L.a) && (decide (L.a≤L.b) && decide (L.b < m.ops.length))) && (paramsB m L && memsB m (fun o=>decide (o=L.a) || decide (o=L.b)) L.mem)
def escB (l:List Esc):Bool:=riseB Esc.con l && l.all fun x=>(decide (0≤x.con) && decide (x.con < m.cons.length)) && decide ((m.cons.getD x.con.toNat zCn).kind=0)
def ordB (o:Int):Bool:=(decide (0≤o) && decide (o < m.ops.length)) && (opnAt m o).ord
def lockN (L:Lck):Int:=L.a * 8+L.b
def needB (p:Pln):Bool:=riseB id p.need && p.need.all fun o=>ordB m o && !p.places.any fun x=>decide (opAt m x.act=o)
def planB (p:Pln):Bool:=(modelB m && decide (p.locks.length≤64)) && ((escB m p.esc && (p.locks.all (lockB m) && riseB lockN p.locks)) && (memsB m (ordB m) p.places && needB m p))
def partB (L:Lck) (k:Int):Bool:=L.mem.any fun x=>decide (x.act=k)
def placedB (p:Pln) (k:Int):Bool:=p.places.any fun x=>decide (x.act=k)
def writeB (L:Lck) (k:Int):Bool:=decide (opAt m k=L.b)
def argAt (k i:Int):Int:=(m.acts.getD k.toNat zActn).args.getD i.toNat 0
def elemL (L:Lck) (k:Int):Int:=if L.pa < 0 then 0 else if opAt m k=L.a then argAt m k L.pa else argAt m k L.pb
def elemsL (L:Lck):Int:=if L.pa < 0 then 1 else m.sorts.getD (sortP m L.a L.pa).toNat 0
def lckAt (p:Pln) (i:Int):Lck:=p.locks.getD i.toNat zLck
def inLocks (p:Pln) (i:Int):Bool:=decide (0≤i) && decide (i < p.locks.length)
def addAt (l:List Chg) (c:Int):Int:=match l.find? fun d=>decide (d.cell=c) with
 | some d=>d.add
 | none=>0
def chgR (l:List Chg) (r:Rw):Int:=r.terms.foldl (fun n t=>n+t.factor * addAt l t.cell) 0
def chgA (k:Int) (r:Rw):Int:=chgR (m.acts.getD k.toNat zActn).eff.delta r
def rowOf (x:Esc):Rw:=(m.cons.getD x.con.toNat zCn).row
structure Ned where
 k:Int
 i:Int
 el:Int
 n:Int
deriving DecidableEq
def chgsL (k sg:Int):Nat→List Esc→List Ned
 | _,[]=>[]
 | i,x::l=>if 0 < sg * chgA m k (rowOf m x) then ⟨0,i,0,sg * chgA m k (rowOf m x)⟩::chgsL k sg (i+1) l else chgsL k sg (i+1) l
def shrsL (k r:Int):Nat→List Lck→List Ned
 | _,[]=>[]
 | i,L::l=>if partB L k=true then ⟨1,i,elemL m L k,if writeB m L k=true then r else 1⟩::shrsL k r (i+1) l else shrsL k r (i+1) l
def needsL (p:Pln) (k r:Int):List Ned:=chgsL m k 1 0 p.esc++shrsL m k r 0 p.locks
def slackR (s:List Int) (r:Rw):Int:=r.terms.foldl (fun n t=>n - t.factor * s.getD t.cell.toNat 0) r.bound
def slackL (p:Pln) (s:List Int):List Int:=p.esc.map fun x=>slackR s (rowOf m x)
def exclL (e f:Int) (L:Lck):Bool:=(partB L e && partB L f) && (decide (elemL m L e=elemL m L f) && (writeB m L e || writeB m L f))
def exclB (p:Pln) (e f:Int):Bool:=(placedB p e && placedB p f) || p.locks.any (exclL m e f)
end
end Go.Proofs.YtcpgmmlaimkojaaGreatDoor
namespace Go.Proofs.YtcpgmmlaimkojaaGreatDoor
theorem rise_iff {α:Type} {f:α→Int} {l:List α}:riseB f l=true↔l.Pairwise fun y x=>f y < f x:=by
 have h0:riseB f l=true↔∀ (i:Nat) (y x:α),l[i]?=some y→l[i+1]?=some x→f y < f x:=by
  unfold riseB
  rw [allI_iff]
  constructor
  ·intro h i y x hy hx
   have:=h (i+1) x hx
   simp only [Nat.add_sub_cancel,hy] at this
   simpa using this
  ·intro h k x hx
   cases k with
   | zero=>simp
   | succ k=>
    have hlt:k+1 < l.length:=(List.getElem?_eq_some_iff.1 hx).1
    have hy:l[k]?=some l[k]:=List.getElem?_eq_getElem (by omega)
    simp only [Nat.add_sub_cancel,hy]
    have:=h k _ x hy hx
    simpa using this
 rw [h0,List.pairwise_iff_getElem]
 constructor
 ·intro h
  have key:∀ (d i:Nat) (y x:α),l[i]?=some y→l[i+(d+1)]?=some x→f y < f x:=by
   intro d
   induction d with
   | zero=>exact fun i y x hy hx=>h i y x hy hx
   | succ d ih=>
    intro i y x hy hx
    have hlt:i+(d+1+1) < l.length:=(List.getElem?_eq_some_iff.1 hx).1
    have hz:l[i+(d+1)]?=some l[i+(d+1)]:=List.getElem?_eq_getElem (by omega)
    exact Int.lt_trans (ih i y _ hy hz) (h (i+(d+1)) _ x hz hx)
  intro i j hi hj hij
  exact key (j - i - 1) i _ _ (List.getElem?_eq_getElem hi) (by rw [show i+(j - i - 1+1)=j by omega];exact List.getElem?_eq_getElem hj)
 ·intro h i y x hy hx
  obtain ⟨hi,rfl⟩:=List.getElem?_eq_some_iff.1 hy
  obtain ⟨hj,rfl⟩:=List.getElem?_eq_some_iff.1 hx
  exact h i (i+1) hi hj (by omega)
theorem rise_sub {α:Type} {f:α→Int} {l l':List α} (hs:l'.Sublist l) (h:riseB f l=true):riseB f l'=true:=rise_iff.2 ((rise_iff.1 h).sublist hs)
theorem any_sub {α:Type} {f:α→Bool} {l l':List α} (hs:l'.Sublist l) (h:l'.any f=true):l.any f=true:=by
 obtain ⟨x,hx,hf⟩:=List.any_eq_true.1 h
 exact List.any_eq_true.2 ⟨x,hs.subset hx,hf⟩
section
variable {m:Md} {p:Pln} {e f k R:Int} {L:Lck}
structure PlanOk (m:Md) (p:Pln):Prop where
 model:modelB m=true
 few:p.locks.length≤64
 escR:riseB Esc.con p.esc=true
 esc:∀ x∈p.esc,(0≤x.con∧x.con < m.cons.length)∧(m.cons.getD x.con.toNat zCn).kind=0
 lock:∀ L∈p.locks,lockB m L=true
 lockR:riseB lockN p.locks=true
 placeR:riseB Mem.act p.places=true
 place:∀ x∈p.places,inActs m x.act=true∧ordB m (opAt m x.act)=true
 needR:riseB id p.need=true
 need:∀ o∈p.need,ordB m o=true∧∀ x∈p.places,opAt m x.act≠o
theorem plan_iff:planB m p=true↔PlanOk m p:=by
 unfold planB escB memsB needB
 simp only [Bool.and_eq_true,decide_eq_true_eq,List.all_eq_true,Bool.not_eq_true',← Bool.not_eq_true,List.any_eq_true,not_exists,not_and]
 constructor
 ·rintro ⟨⟨h1,h2⟩,⟨⟨h3,h4⟩,h5,h6⟩,⟨h7,h8⟩,h9,h10⟩
  exact ⟨h1,h2,h3,h4,h5,h6,h7,h8,h9,h10⟩
 ·rintro ⟨h1,h2,h3,h4,h5,h6,h7,h8,h9,h10⟩
  exact ⟨⟨h1,h2⟩,⟨⟨h3,h4⟩,h5,h6⟩,⟨h7,h8⟩,h9,h10⟩
structure LockOk (m:Md) (L:Lck):Prop where
 a0:0≤L.a
 ab:L.a≤L.b
 b:L.b < m.ops.length
 par:paramsB m L=true
 memR:riseB Mem.act L.mem=true
 mem:∀ x∈L.mem,inActs m x.act=true∧(opAt m x.act=L.a∨opAt m x.act=L.b)
theorem lock_iff:lockB m L=true↔LockOk m L:=by
 unfold lockB memsB
 simp only [Bool.and_eq_true,decide_eq_true_eq,List.all_eq_true,Bool.or_eq_true]
 constructor
 ·rintro ⟨⟨h1,h2,h3⟩,h4,h5,h6⟩
  exact ⟨h1,h2,h3,h4,h5,h6⟩
 ·rintro ⟨h1,h2,h3,h4,h5,h6⟩
  exact ⟨⟨h1,h2,h3⟩,h4,h5,h6⟩
theorem part_iff:partB L k=true↔∃ x∈L.mem,x.act=k:=by
 unfold partB
 simp only [List.any_eq_true,decide_eq_true_eq]
theorem placed_iff:placedB p k=true↔∃ x∈p.places,x.act=k:=by
 unfold placedB
 simp only [List.any_eq_true,decide_eq_true_eq]
theorem LockOk.part (h:LockOk m L) (hp:partB L k=true):inActs m k=true∧(opAt m k=L.a∨opAt m k=L.b):=by
 obtain ⟨x,hx,rfl⟩:=part_iff.1 hp
 exact h.mem x hx
theorem PlanOk.placed (h:PlanOk m p) (hp:placedB p k=true):inActs m k=true∧ordB m (opAt m k)=true:=by
 obtain ⟨x,hx,rfl⟩:=placed_iff.1 hp
 exact h.place x hx
theorem LockOk.write (h:LockOk m L) (hp:partB L k=true):(decide (L.a=L.b) || decide (opAt m k=L.b))=writeB m L k:=by
 have:=(h.part hp).2
 unfold writeB
 by_cases h1:L.a=L.b
 ·have:opAt m k=L.b:=by omega
  simp [this]
 ·simp [h1]
theorem LockOk.par_cases (h:LockOk m L):(L.pa = -1∧L.pb = -1)∨((0≤L.pa∧L.pa < (opnAt m L.a).sorts.length)∧(0≤L.pb∧L.pb < (opnAt m L.b).sorts.length)∧(opnAt m L.a).sorts.getD L.pa.toNat 0=(opnAt m L.b).sorts.getD L.pb.toNat 0∧0≤(opnAt m L.a).sorts.getD L.pa.toNat 0∧sortP m L.a L.pa=(opnAt m L.a).sorts.getD L.pa.toNat 0):=by
 have hp:=h.par
 unfold paramsB at hp
 simp only [Bool.or_eq_true,Bool.and_eq_true,decide_eq_true_eq] at hp
 rcases hp with hp|⟨h1,h2,_⟩
 ·exact .inl hp
 ·right
  unfold sortP at h1 h2 ⊢
  split at h1
  ·rename_i hA
   rw [if_pos hA] at h2 ⊢
   split at h2
   ·rename_i hB
    exact ⟨hA,hB,h2,h1,rfl⟩
   ·omega
  ·omega
theorem LockOk.elem (h:LockOk m L):elemL m L k=(if (if opAt m k=L.a then L.pa else L.pb) < 0 then 0 else argAt m k (if opAt m k=L.a then L.pa else L.pb)):=by
 unfold elemL
 rcases h.par_cases with ⟨h1,h2⟩|⟨⟨h1,_⟩,⟨h2,_⟩,_⟩
 ·rw [h1,h2];simp
 ·have n1:¬ L.pa < 0:=by omega
  have n2:¬ L.pb < 0:=by omega
  by_cases ho:opAt m k=L.a
  ·simp only [ho,if_true,n1,if_false]
  ·simp only [ho,if_false,n1,n2]
theorem acts_ok (h:modelB m=true) {a:Actn} {i:Nat} (ha:m.acts[i]?=some a):actOk m (rngs m.sorts m.tables true).length i a=true:=by
 unfold modelB actsB at h
 simp only [Bool.and_eq_true] at h
 exact allI_iff.1 h.2.2.1.2 i a ha
theorem inActs_iff:inActs m k=true↔0≤k∧k < m.acts.length:=by
 unfold inActs
 simp only [Bool.and_eq_true,decide_eq_true_eq]
theorem getD_some {α:Type} {l:List α} {i:Nat} {z:α} (h:i < l.length):l[i]?=some (l.getD i z):=by
 rw [List.getD_eq_getElem?_getD,List.getElem?_eq_getElem h];rfl
theorem act_at (h:inActs m k=true):m.acts[k.toNat]?=some (m.acts.getD k.toNat zActn):=getD_some (by have:=inActs_iff.1 h;omega)
theorem arg_ok (h:modelB m=true) (hk:inActs m k=true) {i:Int} (hi:0≤i) (hl:i < (opnAt m (opAt m k)).sorts.length) (hs:0≤(opnAt m (opAt m k)).sorts.getD i.toNat 0):0≤argAt m k i∧argAt m k i < m.sorts.getD ((opnAt m (opAt m k)).sorts.getD i.toNat 0).toNat 0:=by
 have ha:=acts_ok h (act_at hk)
 unfold actOk at ha
 simp only [Bool.and_eq_true,decide_eq_true_eq] at ha
 have hlen:=ha.1.1.2
 have harg:=allI_iff.1 ha.1.2 i.toNat (argAt m k i) (by
  unfold argAt
  exact getD_some (by unfold opnAt opAt at hl;omega))
 unfold argOk at harg
 have e:(m.ops.getD (m.acts.getD k.toNat zActn).op.toNat zOpn).sorts.getD i.toNat 0=(opnAt m (opAt m k)).sorts.getD i.toNat 0:=rfl
 rw [e,if_neg (by omega)] at harg
 simpa using harg
theorem elem_in (h:modelB m=true) (hL:LockOk m L) (hp:partB L k=true):0≤elemL m L k∧elemL m L k < elemsL m L:=by
 obtain ⟨hk,ho⟩:=hL.part hp
 unfold elemL elemsL
 rcases hL.par_cases with ⟨h1,h2⟩|⟨⟨h1,h1'⟩,⟨h2,h2'⟩,h3,h4,h5⟩
 ·have n1:L.pa < 0:=by omega
  simp only [n1,if_true];omega
 ·have n1:¬ L.pa < 0:=by omega
  simp only [n1,if_false]
  rw [h5]
  split
  ·rename_i e
   have:=arg_ok h hk h1 (by rw [e];exact h1') (by rw [e];exact h4)
   rw [e] at this
   exact this
  ·rename_i e
   have e:opAt m k=L.b:=by omega
   have:=arg_ok h hk h2 (by rw [e];exact h2') (by rw [e,← h3];exact h4)
   rw [e,← h3] at this
   exact this
theorem mem_shrs:∀ {l:List Lck} {i:Nat} {x:Ned},x∈shrsL m k R i l↔∃ (j:Nat) (L:Lck),l[j]?=some L∧partB L k=true∧x=⟨1,((i+j:Nat):Int),elemL m L k,if writeB m L k=true then R else 1⟩
 | [],i,x=>by simp [shrsL]
 | L::l,i,x=>by
  have e:x∈shrsL m k R i (L::l)↔(partB L k=true∧x=⟨1,(i:Int),elemL m L k,if writeB m L k=true then R else 1⟩)∨x∈shrsL m k R (i+1) l:=by
   rw [shrsL]
   split <;> simp [*]
  rw [e,mem_shrs (l:=l) (i:=i+1)]
  constructor
  ·rintro (⟨h1,h2⟩|⟨j,M,h1,h2,h3⟩)
   ·exact ⟨0,L,rfl,h1,h2⟩
   ·exact ⟨j+1,M,by simpa using h1,h2,by rw [h3,show i+1+j=i+(j+1) by omega]⟩
  ·rintro ⟨j,M,h1,h2,h3⟩
   cases j with
   | zero=>cases h1;exact .inl ⟨h2,h3⟩
   | succ j=>exact .inr ⟨j,M,by simpa using h1,h2,by rw [h3,show i+1+j=i+(j+1) by omega]⟩
theorem mem_chgs {s:Int}:∀ {l:List Esc} {i:Nat} {x:Ned},x∈chgsL m k s i l↔∃ (j:Nat) (y:Esc),l[j]?=some y∧0 < s * chgA m k (rowOf m y)∧x=⟨0,((i+j:Nat):Int),0,s * chgA m k (rowOf m y)⟩
 | [],i,x=>by simp [chgsL]
 | y::l,i,x=>by
  have e:x∈chgsL m k s i (y::l)↔(0 < s * chgA m k (rowOf m y)∧x=⟨0,(i:Int),0,s * chgA m k (rowOf m y)⟩)∨x∈chgsL m k s (i+1) l:=by
   rw [chgsL]
   split <;> simp [*]
  rw [e,mem_chgs (l:=l) (i:=i+1)]
  constructor
  ·rintro (⟨h1,h2⟩|⟨j,z,h1,h2,h3⟩)
   ·exact ⟨0,y,rfl,h1,h2⟩
   ·exact ⟨j+1,z,by simpa using h1,h2,by rw [h3,show i+1+j=i+(j+1) by omega]⟩
  ·rintro ⟨j,z,h1,h2,h3⟩
   cases j with
   | zero=>cases h1;exact .inl ⟨h2,h3⟩
   | succ j=>exact .inr ⟨j,z,by simpa using h1,h2,by rw [h3,show i+1+j=i+(j+1) by omega]⟩
theorem PlanOk.share (h:PlanOk m p) (hR:2≤R) {x:Ned} (hx:x∈needsL m p e R) (hk:x.k=1):∃ (j:Nat) (L:Lck),p.locks[j]?=some L∧x.i=(j:Int)∧partB L e=true∧writeB m L e=decide (x.n=R)∧x.el=elemL m L e∧0≤x.el∧x.el < elemsL m L:=by
 unfold needsL at hx
 rcases List.mem_append.1 hx with hx|hx
 ·obtain ⟨j,z,_,_,rfl⟩:=mem_chgs.1 hx
  cases hk
 ·obtain ⟨j,L,hL,hp,rfl⟩:=mem_shrs.1 hx
  have hl:=lock_iff.1 (h.lock L (List.mem_of_getElem? hL))
  have:=elem_in h.model hl hp
  refine ⟨j,L,hL,by simp,hp,?_,rfl,this.1,this.2⟩
  show writeB m L e=decide ((if writeB m L e=true then R else 1)=R)
  cases writeB m L e with
  | true=>simp
  | false=>simp;omega
end
end Go.Proofs.YtcpgmmlaimkojaaGreatDoor
namespace Go.Proofs.YtcpgmmlaimkojaaGreatDoor
theorem addAt_cons (x:Chg) (d:List Chg) (c:Int):addAt (x::d) c=if x.cell=c then x.add else addAt d c:=by
 unfold addAt
 rw [List.find?_cons]
 by_cases h:x.cell=c <;> simp [h]
theorem addAt_or (d:List Chg) (c:Int):addAt d c=0∨∃ x∈d,x.cell=c∧addAt d c=x.add:=by
 unfold addAt
 cases hf:d.find? (fun x=>decide (x.cell=c)) with
 | none=>exact .inl rfl
 | some x=>exact .inr ⟨x,List.mem_of_find?_eq_some hf,by simpa using List.find?_some hf,rfl⟩
section
variable {m:Md} {p:Pln} {e f k R:Int} {L:Lck}
theorem delta_ok (h:modelB m=true) (hk:inActs m k=true):allI (chgOk (rngs m.sorts m.tables true).length (m.acts.getD k.toNat zActn).eff.delta) (m.acts.getD k.toNat zActn).eff.delta=true:=by
 have ha:=acts_ok h (act_at hk)
 unfold actOk effB at ha
 simp only [Bool.and_eq_true] at ha
 exact ha.2.2.1.1
theorem term_rise {n:Int} {l:List Tm} (h:allI (termOk n l) l=true):l.Pairwise fun y x=>y.cell < x.cell:=by
 refine (rise_iff (f:=Tm.cell)).1 ?_
 unfold riseB
 rw [allI_iff] at h ⊢
 intro i x hx
 have:=h i x hx
 unfold termOk at this
 simp only [Bool.and_eq_true,Bool.or_eq_true,decide_eq_true_eq] at this
 cases i with
 | zero=>simp
 | succ i=>
  have hlt:i+1 < l.length:=(List.getElem?_eq_some_iff.1 hx).1
  have hy:l[i]?=some (l.getD i ⟨0,0⟩):=getD_some (by omega)
  rw [Nat.add_sub_cancel,hy]
  have h2:=this.2.1
  rw [Nat.add_sub_cancel] at h2
  rcases h2 with h2|h2
  ·omega
  ·simpa using h2
theorem term_of {n:Int} {l:List Tm} (h:allI (termOk n l) l=true) {t:Tm} (ht:t∈l):(0≤t.cell∧t.cell < n)∧(-1000≤t.factor∧t.factor≤1000):=by
 obtain ⟨i,hi⟩:=List.mem_iff_getElem?.1 ht
 have:=allI_iff.1 h i t hi
 unfold termOk btw at this
 simp only [Bool.and_eq_true,decide_eq_true_eq] at this
 exact ⟨this.1,this.2.2.2⟩
theorem chg_of {n:Int} {l:List Chg} (h:allI (chgOk n l) l=true) {t:Chg} (ht:t∈l):(0≤t.cell∧t.cell < n)∧(-1000000000≤t.add∧t.add≤1000000000):=by
 obtain ⟨i,hi⟩:=List.mem_iff_getElem?.1 ht
 have:=allI_iff.1 h i t hi
 unfold chgOk btw at this
 simp only [Bool.and_eq_true,decide_eq_true_eq] at this
 exact ⟨this.1,this.2.2.2⟩
theorem add_bnd {n:Int} {d:List Chg} (h:allI (chgOk n d) d=true) (c:Int) : -1000000000≤addAt d c∧addAt d c≤1000000000:=by
 rcases addAt_or d c with h1|⟨x,hx,_,h1⟩
 ·omega
 ·rw [h1];exact (chg_of h hx).2
theorem term_len {n:Nat} {l:List Tm} (h:allI (termOk n l) l=true):l.length≤n:=by
 have:=nodup_le n (l.map Tm.cell) (by
  have:=term_rise h
  rw [List.Nodup,List.pairwise_map]
  exact this.imp fun h=>Int.ne_of_lt h) (by
  intro x hx
  obtain ⟨t,ht,rfl⟩:=List.mem_map.1 hx
  exact (term_of h ht).1)
 simpa using this
theorem PlanOk.row (h:PlanOk m p) {x:Esc} (hx:x∈p.esc):rowB (rngs m.sorts m.tables true).length (rowOf m x)=true:=by
 obtain ⟨⟨h1,h2⟩,h3⟩:=h.esc x hx
 have hm:=h.model
 unfold modelB consB at hm
 simp only [Bool.and_eq_true] at hm
 have:=allI_iff.1 hm.2.1.2.2 x.con.toNat _ (getD_some (z:=zCn) (by omega))
 unfold conOk at this
 simp only [Bool.and_eq_true,Bool.or_eq_true,decide_eq_true_eq] at this
 rcases this.2 with h4|h4
 ·exact h4.2.2.2
 ·omega
theorem row_terms {n:Int} {r:Rw} (h:rowB n r=true):allI (termOk n r.terms) r.terms=true:=by
 unfold rowB at h
 simp only [Bool.and_eq_true] at h
 exact h.1
theorem row_bound {n:Int} {r:Rw} (h:rowB n r=true) : -1000000000≤r.bound∧r.bound≤1000000000:=by
 unfold rowB btw at h
 simp only [Bool.and_eq_true,decide_eq_true_eq] at h
 exact h.2
theorem mul_bnd {a b A B:Int} (ha : -A≤a∧a≤A) (hb : -B≤b∧b≤B) : -(A * B)≤a * b∧a * b≤A * B:=by
 have hA:0≤A:=by omega
 have hB:0≤B:=by omega
 have h:(a * b).natAbs≤(A * B).natAbs:=by
  rw [Int.natAbs_mul,Int.natAbs_mul]
  exact Nat.mul_le_mul (by omega) (by omega)
 have:0≤A * B:=Int.mul_nonneg hA hB
 omega
theorem sumF_bnd {α:Type} {g:Int→α→Int} {B:Int} (hB:0≤B) {l:List α} (hg:∀ n,∀ x∈l,n - B≤g n x∧g n x≤n+B) (a:Int):a - B * l.length≤l.foldl g a∧l.foldl g a≤a+B * l.length:=by
 induction l generalizing a with
 | nil=>simp
 | cons x l ih=>
  have h1:=hg a x (by simp)
  have h2:=ih (fun n y hy=>hg n y (by simp [hy])) (g a x)
  rw [List.foldl_cons,List.length_cons]
  have e:B * ((l.length+1:Nat):Int)=B * l.length+B:=by
   rw [Int.natCast_add,Int.mul_add];simp
  rw [e]
  omega
theorem chgs_len {s:Int}:∀ (l:List Esc) (i:Nat),(chgsL m k s i l).length=l.countP fun y=>decide (0 < s * chgA m k (rowOf m y))
 | [],_=>rfl
 | y::l,i=>by
  rw [chgsL,List.countP_cons]
  split
  ·rename_i h;rw [List.length_cons,chgs_len l (i+1)];simp [h]
  ·rename_i h;rw [chgs_len l (i+1)];simp [h]
theorem shrs_len:∀ (l:List Lck) (i:Nat),(shrsL m k R i l).length=l.countP fun L=>partB L k
 | [],_=>rfl
 | L::l,i=>by
  rw [shrsL,List.countP_cons]
  split
  ·rename_i h;rw [List.length_cons,shrs_len l (i+1)]
  ·rename_i h;rw [shrs_len l (i+1)];simp [h]
structure Less (q p:Pln):Prop where
 esc:q.esc.Sublist p.esc
 locks:q.locks.Sublist p.locks
 places:q.places.Sublist p.places
 need:q.need=p.need
theorem Less.ok {q:Pln} (hq:Less q p) (h:PlanOk m p):PlanOk m q where
 model:=h.model
 few:=Nat.le_trans hq.locks.length_le h.few
 escR:=rise_sub hq.esc h.escR
 esc:=fun x hx=>h.esc x (hq.esc.subset hx)
 lock:=fun L hL=>h.lock L (hq.locks.subset hL)
 lockR:=rise_sub hq.locks h.lockR
 placeR:=rise_sub hq.places h.placeR
 place:=fun x hx=>h.place x (hq.places.subset hx)
 needR:=by rw [hq.need];exact h.needR
 need:=fun o ho=>by rw [hq.need] at ho;exact ⟨(h.need o ho).1,fun x hx=>(h.need o ho).2 x (hq.places.subset hx)⟩
theorem Less.needs {q:Pln} (hq:Less q p):(needsL m q k R).length≤(needsL m p k R).length:=by
 unfold needsL
 rw [List.length_append,List.length_append,chgs_len,chgs_len,shrs_len,shrs_len]
 exact Nat.add_le_add (hq.esc.countP_le) (hq.locks.countP_le)
theorem Less.placed {q:Pln} (hq:Less q p) (h:placedB q k=true):placedB p k=true:=any_sub hq.places h
theorem Less.excl {q:Pln} (hq:Less q p) (h:exclB m q e f=true):exclB m p e f=true:=by
 unfold exclB at h ⊢
 simp only [Bool.or_eq_true,Bool.and_eq_true] at h ⊢
 rcases h with ⟨h1,h2⟩|h1
 ·exact .inl ⟨hq.placed h1,hq.placed h2⟩
 ·exact .inr (any_sub hq.locks h1)
theorem less_esc (d:Nat):Less { p with esc:=p.esc.eraseIdx d } p:=⟨List.eraseIdx_sublist ..,List.Sublist.refl _,List.Sublist.refl _,rfl⟩
theorem less_locks (d:Nat):Less { p with locks:=p.locks.eraseIdx d } p:=⟨List.Sublist.refl _,List.eraseIdx_sublist ..,List.Sublist.refl _,rfl⟩
theorem less_places (d:Nat):Less { p with places:=p.places.eraseIdx d } p:=⟨List.Sublist.refl _,List.Sublist.refl _,List.eraseIdx_sublist ..,rfl⟩
end
end Go.Proofs.YtcpgmmlaimkojaaGreatDoor
namespace Go.Proofs.YtcpgmmlaimkojaaGreatDoor
def prevV {α:Type} (f:α→Int) (l:List α):Nat→Int
 | 0 => -1
 | i+1=>match l[i]? with
  | some y=>f y
  | none => -1
theorem last_rise {α:Type} {f:α→Int} {g:α→Bool} {l:List α}:allI (fun i x=>decide (prevV f l i < f x) && g x) l=(riseB f l && l.all fun x=>decide (0≤f x) && g x):=by
 rw [Bool.eq_iff_iff,Bool.and_eq_true,allI_iff]
 unfold riseB
 rw [allI_iff,List.all_eq_true]
 constructor
 ·intro h
  have h1:∀ (i:Nat) (x:α),l[i]?=some x→0≤f x:=by
   intro i
   induction i with
   | zero=>
    intro x hx
    have:=h 0 x hx
    rw [Bool.and_eq_true,decide_eq_true_eq] at this
    have h2:(-1:Int) < f x:=this.1
    omega
   | succ i ih=>
    intro x hx
    have hlt:i+1 < l.length:=(List.getElem?_eq_some_iff.1 hx).1
    have hy:l[i]?=some l[i]:=List.getElem?_eq_getElem (by omega)
    have:=h (i+1) x hx
    rw [Bool.and_eq_true,decide_eq_true_eq] at this
    have h2:=this.1
    simp only [prevV,hy] at h2
    have:=ih _ hy
    omega
  refine ⟨fun i x hx=>?_,fun x hx=>?_⟩
  ·cases i with
   | zero=>rfl
   | succ i=>
    have hlt:i+1 < l.length:=(List.getElem?_eq_some_iff.1 hx).1
    have hy:l[i]?=some l[i]:=List.getElem?_eq_getElem (by omega)
    have:=h (i+1) x hx
    rw [Bool.and_eq_true,decide_eq_true_eq] at this
    have h2:=this.1
    simp only [prevV,hy] at h2
    rw [Nat.add_sub_cancel,hy]
    simp [h2]
  ·obtain ⟨i,hi⟩:=List.mem_iff_getElem?.1 hx
   have:=h i x hi
   rw [Bool.and_eq_true] at this ⊢
   exact ⟨decide_eq_true (h1 i x hi),this.2⟩
 ·rintro ⟨h1,h2⟩ i x hx
  have h3:=h2 x (List.mem_of_getElem? hx)
  rw [Bool.and_eq_true,decide_eq_true_eq] at h3 ⊢
  refine ⟨?_,h3.2⟩
  cases i with
  | zero=>show (-1:Int) < f x;omega
  | succ i=>
   have hlt:i+1 < l.length:=(List.getElem?_eq_some_iff.1 hx).1
   have hy:l[i]?=some l[i]:=List.getElem?_eq_getElem (by omega)
   have:=h1 (i+1) x hx
   rw [Nat.add_sub_cancel,hy] at this
   simp only [prevV,hy]
   simpa using this
section
variable {m:Md} {p:Pln}
def escR (m:Md) (l:List Esc):Bool:=allI (fun (i:Nat) (x:Esc)=>decide (prevV Esc.con l i < x.con) && (decide (x.con < m.cons.length) && decide ((m.cons.getD x.con.toNat zCn).kind=0))) l
theorem escR_eq (l:List Esc):escR m l=escB m l:=by
 unfold escR escB
 rw [last_rise (f:=Esc.con) (g:=fun x=>decide (x.con < m.cons.length) && decide ((m.cons.getD x.con.toNat zCn).kind=0))]
 simp only [Bool.and_assoc]
def memsR (m:Md) (fit:Int→Bool) (l:List Mem):Bool:=allI (fun (i:Nat) (x:Mem)=>decide (prevV Mem.act l i < x.act) && (decide (x.act < m.acts.length) && fit (opAt m x.act))) l
theorem memsR_eq (fit:Int→Bool) (l:List Mem):memsR m fit l=memsB m fit l:=by
 unfold memsR memsB inActs
 rw [last_rise (f:=Mem.act) (g:=fun x=>decide (x.act < m.acts.length) && fit (opAt m x.act))]
 simp only [Bool.and_assoc]
def lexL (a b:Lck):Bool:=decide (a.a < b.a) || (decide (a.a=b.a) && decide (a.b < b.b))
theorem lex_eq (hm:m.ops.length≤8) {a b:Lck} (ha:LockOk m a) (hb:LockOk m b):lexL a b=decide (lockN a < lockN b):=by
 have:=ha.a0;have:=ha.ab;have:=ha.b;have:=hb.a0;have:=hb.ab;have:=hb.b
 unfold lexL lockN
 rw [Bool.eq_iff_iff]
 simp only [Bool.or_eq_true,Bool.and_eq_true,decide_eq_true_eq]
 omega
theorem ops_len (h:modelB m=true):m.ops.length≤8:=by
 unfold modelB actsB at h
 simp only [Bool.and_eq_true,decide_eq_true_eq] at h
 exact h.2.2.1.1.2.1
def locksR (m:Md) (l:List Lck):Bool:=allI (fun i L=>lockB m L && (decide (i=0) || match l[i - 1]? with|some y=>lexL y L|none=>false)) l
theorem locksR_eq (hm:m.ops.length≤8) (l:List Lck):locksR m l=(l.all (lockB m) && riseB lockN l):=by
 unfold locksR riseB
 rw [Bool.eq_iff_iff,Bool.and_eq_true,allI_iff,allI_iff,List.all_eq_true]
 constructor
 ·intro h
  have h1:∀ L∈l,lockB m L=true:=fun L hL=>by
   obtain ⟨i,hi⟩:=List.mem_iff_getElem?.1 hL
   have:=h i L hi
   rw [Bool.and_eq_true] at this
   exact this.1
  refine ⟨h1,fun i L hL=>?_⟩
  have:=h i L hL
  rw [Bool.and_eq_true] at this
  have h2:=this.2
  cases hy:l[i - 1]? with
  | none=>rw [hy] at h2;exact h2
  | some y=>
   rw [hy] at h2
   show (decide (i=0) || decide (lockN y < lockN L))=true
   rw [← lex_eq hm (lock_iff.1 (h1 y (List.mem_of_getElem? hy))) (lock_iff.1 (h1 L (List.mem_of_getElem? hL)))]
   exact h2
 ·rintro ⟨h1,h2⟩ i L hL
  rw [Bool.and_eq_true]
  refine ⟨h1 L (List.mem_of_getElem? hL),?_⟩
  have h3:=h2 i L hL
  cases hy:l[i - 1]? with
  | none=>rw [hy] at h3;exact h3
  | some y=>
   rw [hy] at h3
   show (decide (i=0) || lexL y L)=true
   rw [lex_eq hm (lock_iff.1 (h1 y (List.mem_of_getElem? hy))) (lock_iff.1 (h1 L (List.mem_of_getElem? hL)))]
   exact h3
def needO (m:Md) (p:Pln) (o:Int):Bool:=!m.acts.zipIdx.any fun a=>decide (a.1.op=o) && placedB p (a.2:Int)
theorem needO_eq (hp:∀ x∈p.places,inActs m x.act=true) (o:Int):needO m p o=!p.places.any fun x=>decide (opAt m x.act=o):=by
 unfold needO
 congr 1
 rw [Bool.eq_iff_iff,List.any_eq_true,List.any_eq_true]
 constructor
 ·rintro ⟨⟨a,k⟩,ha,hb⟩
  rw [Bool.and_eq_true,decide_eq_true_eq] at hb
  obtain ⟨x,hx,hk⟩:=placed_iff.1 hb.2
  have hk:x.act=(k:Int):=hk
  have ha:=List.mem_zipIdx_iff_getElem?.1 ha
  refine ⟨x,hx,decide_eq_true ?_⟩
  unfold opAt
  rw [hk,show ((k:Int)).toNat=k by omega,List.getD_eq_getElem?_getD]
  have ha:m.acts[k]?=some a:=ha
  rw [ha]
  exact hb.1
 ·rintro ⟨x,hx,ho⟩
  have h1:=act_at (hp x hx)
  have h2:=inActs_iff.1 (hp x hx)
  refine ⟨(_,x.act.toNat),List.mem_zipIdx_iff_getElem?.2 h1,?_⟩
  rw [Bool.and_eq_true]
  refine ⟨ho,placed_iff.2 ⟨x,hx,?_⟩⟩
  show x.act=((x.act.toNat:Nat):Int)
  omega
def needR (m:Md) (p:Pln):Bool:=allI (fun (i:Nat) (o:Int)=>decide (prevV id p.need i < o) && ((decide (o < m.ops.length) && (opnAt m o).ord) && needO m p o)) p.need
theorem needR_eq (hp:∀ x∈p.places,inActs m x.act=true):needR m p=needB m p:=by
 unfold needR needB ordB
 have:=last_rise (f:=(id:Int→Int)) (g:=fun o=>(decide (o < m.ops.length) && (opnAt m o).ord) && needO m p o) (l:=p.need)
 simp only [id] at this ⊢
 rw [this]
 simp only [needO_eq hp,Bool.and_assoc]
def planR (m:Md) (p:Pln):Bool:=(modelB m && decide (p.locks.length≤64)) && (escR m p.esc && (locksR m p.locks && (memsR m (ordB m) p.places && needR m p)))
theorem planR_eq:planR m p=planB m p:=by
 unfold planR planB
 rw [escR_eq,memsR_eq]
 cases hm:modelB m with
 | false=>rfl
 | true=>
  rw [locksR_eq (ops_len hm)]
  cases hp:memsB m (ordB m) p.places with
  | false=>simp only [Bool.false_and,Bool.and_false]
  | true=>
   have hin:∀ x∈p.places,inActs m x.act=true:=fun x hx=>by
    unfold memsB at hp
    rw [Bool.and_eq_true] at hp
    have:=List.all_eq_true.1 hp.2 x hx
    rw [Bool.and_eq_true] at this
    exact this.1
   rw [needR_eq hin]
   cases decide (p.locks.length≤64) <;> cases escB m p.esc <;> cases p.locks.all (lockB m) <;> cases riseB lockN p.locks <;> rfl
end
end Go.Proofs.YtcpgmmlaimkojaaGreatDoor
namespace Go.Proofs.YtcpgmmlaimkojaaGreatDoor
def conC (m:Md) (l:List (Int×Int)) (i:Nat) (c:Cn):Bool:=
 (decide (0≤c.fam) && decide (c.fam < m.fams.length)) && ((if c.kind=0 then decide (c.first=0) && (decide (c.size=0) && rowB l.length c.row) else decide (c.kind=1) && graphB m c) &&
  (match l[i / 2]? with|some r=>decide (c.kind=0) && decide (c.row=if i % 2=0 then rowLo (i / 2) r else rowHi (i / 2) r)|none=>true))
def consC (m:Md) (l:List (Int×Int)):Bool:=(decide (m.cons.length≤512) && decide (2 * l.length≤m.cons.length)) && allI (conC m l) m.cons
theorem getD_at {α:Type} {l:List α} {i:Nat} {x z:α} (h:l[i]?=some x):l.getD i z=x:=by rw [List.getD_eq_getElem?_getD,h];rfl
theorem cons_eq (m:Md) (l:List (Int×Int)):consC m l=consB m l:=by
 unfold consC consB
 rw [Bool.and_comm (decide (m.cons.length≤512))]
 by_cases hl:2 * l.length≤m.cons.length
 ·by_cases hm:m.cons.length≤512
  ·simp only [hl,hm,decide_true,Bool.true_and]
   rw [Bool.eq_iff_iff,Bool.and_eq_true,allI_iff,allI_iff,allI_iff]
   constructor
   ·intro h
    refine ⟨fun i r hr=>?_,fun i c hc=>?_⟩
    ·have hi:i < l.length:=(List.getElem?_eq_some_iff.1 hr).1
     obtain ⟨c,hc⟩:∃ c,m.cons[2 * i]?=some c:=⟨_,List.getElem?_eq_getElem (by omega)⟩
     obtain ⟨d,hd⟩:∃ d,m.cons[2 * i+1]?=some d:=⟨_,List.getElem?_eq_getElem (by omega)⟩
     have h1:=h _ c hc
     have h2:=h _ d hd
     unfold conC at h1 h2
     rw [show 2 * i / 2=i by omega,show 2 * i % 2=0 by omega,hr] at h1
     rw [show (2 * i+1) / 2=i by omega,show (2 * i+1) % 2=1 by omega,hr] at h2
     simp only [Bool.and_eq_true,decide_eq_true_eq,if_true] at h1 h2
     unfold pairOk
     rw [getD_at hc,getD_at hd,h1.2.2.2,h2.2.2.2]
     simp
    ·have h1:=h i c hc
     unfold conC at h1
     unfold conOk
     rw [Bool.and_eq_true] at h1 ⊢
     refine ⟨h1.1,?_⟩
     have h2:=h1.2
     rw [Bool.and_eq_true] at h2
     by_cases hk:c.kind=0
     ·rw [if_pos hk] at h2
      rw [h2.1,hk];simp
     ·rw [if_neg hk] at h2
      have:2 * l.length≤i:=by
       rcases Nat.lt_or_ge i (2 * l.length) with hlt|hge
       ·have hx:=h2.2
        rw [List.getElem?_eq_getElem (show i / 2 < l.length by omega)] at hx
        simp [hk] at hx
       ·exact hge
      simp only [this,decide_true,Bool.true_and,h2.1,Bool.or_true]
   ·rintro ⟨hp,ho⟩ i c hc
    have h1:=ho i c hc
    unfold conOk at h1
    unfold conC
    rw [Bool.and_eq_true] at h1 ⊢
    refine ⟨h1.1,?_⟩
    have h2:=h1.2
    simp only [Bool.or_eq_true,Bool.and_eq_true,decide_eq_true_eq] at h2
    rw [Bool.and_eq_true]
    constructor
    ·rcases h2 with ⟨h3,h4⟩|⟨h3,h4,h5⟩
     ·rw [if_pos h3];simp only [Bool.and_eq_true,decide_eq_true_eq];exact h4
     ·rw [if_neg (by omega),h5,h4];rfl
    ·cases hr:l[i / 2]? with
     | none=>rfl
     | some r=>
      have hi:i / 2 < l.length:=(List.getElem?_eq_some_iff.1 hr).1
      have h6:=hp _ r hr
      unfold pairOk at h6
      rw [Bool.and_eq_true,decide_eq_true_eq,decide_eq_true_eq] at h6
      have hk:c.kind=0:=by
       rcases h2 with ⟨h3,_⟩|⟨h3,_⟩
       ·exact h3
       ·omega
      simp only [hk,decide_true,Bool.true_and,decide_eq_true_eq]
      by_cases he:i % 2=0
      ·rw [if_pos he,← h6.1,show 2 * (i / 2)=i by omega,getD_at hc]
      ·rw [if_neg he,← h6.2,show 2 * (i / 2)+1=i by omega,getD_at hc]
  ·simp only [hm,decide_false,Bool.and_false,Bool.false_and]
 ·simp only [hl,decide_false,Bool.false_and]
def cmpL:List Int→List Int→Int
 | x::a,y::b=>if x < y then -1 else if y < x then 1 else cmpL a b
 | [],[]=>0
 | [],_::_ => -1
 | _::_,[]=>1
theorem cmp_less:∀ (a b:List Int),decide (cmpL a b < 0)=lessL a b
 | [],[]=>rfl
 | [],_::_=>rfl
 | _::_,[]=>rfl
 | x::a,y::b=>by
  unfold cmpL lessL
  by_cases h1:x < y
  ·rw [if_pos h1,if_neg (by omega)];simp [h1]
  ·rw [if_neg h1]
   by_cases h2:y < x
   ·rw [if_pos h2,if_neg (by omega)];simp [h1]
   ·rw [if_neg h2,if_pos (by omega)];exact cmp_less a b
end Go.Proofs.YtcpgmmlaimkojaaGreatDoor
namespace Go.Proofs.YtcpgmmlaimkojaaGreatDoor
def colmB (sizes cols:List Int):Bool:=decide (cols.length≤3) && cols.all (colOk sizes)
def rngC (t:Tb):Bool:=if t.kind=1∨t.kind=4∨t.kind=5 then decide (t.lo≤t.hi) && (decide (-9999≤t.lo) && decide (t.hi≤9999)) else decide (t.lo=0) && decide (t.hi=1)
def tabC (sizes:List Int) (l:List Tb) (i:Nat) (t:Tb):Bool:=
 (nmB t.name && (!((l.take i).any fun u=>decide (u.name=t.name)) && ((decide (0≤t.kind) && decide (t.kind≤5)) && (colmB sizes t.cols && rngC t)))) && decide (t.first=cntOf sizes (strictK t.kind) (l.take i))
theorem num_prodC {sizes cols:List Int} (hs:soundB sizes=true) (hc:colmB sizes cols=true):numberS sizes cols=prodC sizes cols:=by
 unfold colmB at hc
 unfold numberS
 rw [Bool.and_eq_true] at hc
 rw [if_pos (by rw [hs,hc.1,hc.2];rfl)]
theorem num_zero {sizes cols:List Int} (hs:soundB sizes=true):(!decide (numberS sizes cols=0))=colmB sizes cols:=by
 cases hc:colmB sizes cols with
 | true=>
  rw [num_prodC hs hc]
  unfold colmB at hc
  rw [Bool.and_eq_true,decide_eq_true_eq] at hc
  have:=(prodC_bnd hs hc.2 (by omega)).1
  simp;omega
 | false=>
  unfold numberS
  unfold colmB at hc
  rw [if_neg]
  ·rfl
  ·rw [Bool.and_eq_true,Bool.and_eq_true]
   rintro ⟨⟨h1,_⟩,h2⟩
   rw [h1,h2] at hc
   cases hc
theorem rng_eq {t:Tb} (h0:0≤t.kind) (h5:t.kind≤5):rngC t=rngOk t:=by
 have:t.kind=0∨t.kind=1∨t.kind=2∨t.kind=3∨t.kind=4∨t.kind=5:=by omega
 unfold rngC rngOk
 rw [Bool.eq_iff_iff]
 rcases this with e|e|e|e|e|e <;> rw [e] <;> simp <;> omega
theorem tab_eq {sizes:List Int} {l:List Tb} {i:Nat} {t:Tb} (hs:soundB sizes=true):tabC sizes l i t=tabOk sizes l i t:=by
 unfold tabC tabOk
 rw [num_zero hs]
 by_cases hk:0≤t.kind∧t.kind≤5
 ·rw [rng_eq hk.1 hk.2]
  cases nmB t.name <;> cases (!(l.take i).any fun u=>decide (u.name=t.name)) <;> cases (decide (0≤t.kind) && decide (t.kind≤5)) <;> cases colmB sizes t.cols <;> cases rngOk t <;> cases decide (t.first=cntOf sizes (strictK t.kind) (l.take i)) <;> rfl
 ·have:(decide (0≤t.kind) && decide (t.kind≤5))=false:=by
   rw [← Bool.not_eq_true,Bool.and_eq_true,decide_eq_true_eq,decide_eq_true_eq];exact hk
  rw [this]
  cases nmB t.name <;> cases (!(l.take i).any fun u=>decide (u.name=t.name)) <;> rfl
theorem allI_eq {α:Type} {p q:Nat→α→Bool} {l:List α} (h:∀ i x,p i x=q i x):allI p l=allI q l:=by
 have:p=q:=funext fun i=>funext fun x=>h i x
 rw [this]
def layC (sizes:List Int) (l:List Tb):Bool:=(decide (sizes.length≤4) && (decide (l.length≤12) && soundB sizes)) && (allI (tabC sizes l) l && (decide (cntOf sizes true l≤128) && decide (cntOf sizes false l≤64)))
theorem lay_eq (sizes:List Int) (l:List Tb):layC sizes l=layB sizes l:=by
 unfold layC layB
 cases hs:soundB sizes with
 | true=>
  rw [allI_eq (p:=tabC sizes l) (q:=tabOk sizes l) fun i x=>tab_eq hs]
  cases decide (sizes.length≤4) <;> cases decide (l.length≤12) <;> rfl
 | false=>cases decide (sizes.length≤4) <;> cases decide (l.length≤12) <;> rfl
theorem cnt_next {sizes:List Int} {l:List Tb} {q:Nat} {t:Tb} {s:Bool} (hs:soundB sizes=true) (hc:colmB sizes t.cols=true) (h:l[q]?=some t):cntOf sizes s (l.take (q+1))=if strictK t.kind=s then cntOf sizes s (l.take q)+prodC sizes t.cols else cntOf sizes s (l.take q):=by
 rw [cnt_snoc s h,num_prodC hs hc]
def modelC (m:Md):Bool:=(layC m.sorts m.tables && (decide (m.fams.length≤24) && distB m.fams)) &&
 (consC m (rngs m.sorts m.tables true) && (((decide ((m.ops.map (·.name)).length≤8) && distB (m.ops.map (·.name))) && m.ops.all (opOk m)) && ((decide (m.acts.length≤256) && allI (actOk m (rngs m.sorts m.tables true).length) m.acts) && hidesB m)))
theorem model_eq (m:Md):modelC m=modelB m:=by
 unfold modelC modelB actsB
 rw [lay_eq,cons_eq,List.length_map]
 cases layB m.sorts m.tables <;> cases decide (m.fams.length≤24) <;> cases distB m.fams <;> cases consB m (rngs m.sorts m.tables true) <;> cases m.ops.all (opOk m) <;> cases decide (m.ops.length≤8) <;> cases distB (m.ops.map (·.name)) <;> cases decide (m.acts.length≤256) <;> rfl
end Go.Proofs.YtcpgmmlaimkojaaGreatDoor
namespace Go.Proofs.YtcpgmmlaimkojaaGreatDoor
theorem prev_eq {α:Type} {f:α→Int} {z:α} {g:α→Bool} {l:List α}:allI (fun i x=>(decide (0≤f x) && (decide (i=0) || decide (f (l.getD (i - 1) z) < f x))) && g x) l=allI (fun i x=>decide (prevV f l i < f x) && g x) l:=by
 rw [last_rise]
 rw [Bool.eq_iff_iff,Bool.and_eq_true,allI_iff]
 unfold riseB
 rw [allI_iff,List.all_eq_true]
 have key:∀ (i:Nat) (x:α),l[i]?=some x→(decide (i=0) || decide (f (l.getD (i - 1) z) < f x))=(decide (i=0) || match l[i - 1]? with|some y=>decide (f y < f x)|none=>false):=by
  intro i x hx
  cases i with
  | zero=>rfl
  | succ i=>
   have hlt:i+1 < l.length:=(List.getElem?_eq_some_iff.1 hx).1
   have hy:l[i]?=some l[i]:=List.getElem?_eq_getElem (by omega)
   rw [Nat.add_sub_cancel,List.getD_eq_getElem?_getD,hy]
   rfl
 constructor
 ·intro h
  refine ⟨fun i x hx=>?_,fun x hx=>?_⟩
  ·have h1:=h i x hx
   simp only [Bool.and_eq_true] at h1
   have h2:=key i x hx
   show (decide (i=0) || match l[i - 1]? with|some y=>decide (f y < f x)|none=>false)=true
   rw [← h2]
   exact h1.1.2
  ·obtain ⟨i,hi⟩:=List.mem_iff_getElem?.1 hx
   have h1:=h i x hi
   simp only [Bool.and_eq_true] at h1
   rw [Bool.and_eq_true]
   exact ⟨h1.1.1,h1.2⟩
 ·rintro ⟨h1,h2⟩ i x hx
  have h3:=h2 x (List.mem_of_getElem? hx)
  rw [Bool.and_eq_true] at h3
  show ((decide (0≤f x) && (decide (i=0) || decide (f (l.getD (i - 1) z) < f x))) && g x)=true
  rw [Bool.and_eq_true,Bool.and_eq_true]
  exact ⟨⟨h3.1,by rw [key i x hx];exact h1 i x hx⟩,h3.2⟩
def termC (n:Int) (l:List Tm) (i:Nat) (t:Tm):Bool:=decide (prevV Tm.cell l i < t.cell) && (decide (t.cell < n) && (!decide (t.factor=0) && btw t.factor 1000))
theorem term_eqC (n:Int) (l:List Tm):allI (termC n l) l=allI (termOk n l) l:=by
 have:=prev_eq (f:=Tm.cell) (z:=⟨0,0⟩) (g:=fun t=>decide (t.cell < n) && (!decide (t.factor=0) && btw t.factor 1000)) (l:=l)
 show allI (fun i t=>decide (prevV Tm.cell l i < t.cell) && (decide (t.cell < n) && (!decide (t.factor=0) && btw t.factor 1000))) l=_
 rw [← this]
 refine allI_eq fun i t=>?_
 unfold termOk
 cases decide (0≤t.cell) <;> cases decide (t.cell < n) <;> cases (decide (i=0) || decide ((l.getD (i - 1) ⟨0,0⟩).cell < t.cell)) <;> rfl
def chgCd (n:Int) (l:List Chg) (i:Nat) (t:Chg):Bool:=decide (prevV Chg.cell l i < t.cell) && (decide (t.cell < n) && (!decide (t.add=0) && btw t.add 1000000000))
theorem chg_eqC (n:Int) (l:List Chg):allI (chgCd n l) l=allI (chgOk n l) l:=by
 have:=prev_eq (f:=Chg.cell) (z:=⟨0,0⟩) (g:=fun t=>decide (t.cell < n) && (!decide (t.add=0) && btw t.add 1000000000)) (l:=l)
 show allI (fun i t=>decide (prevV Chg.cell l i < t.cell) && (decide (t.cell < n) && (!decide (t.add=0) && btw t.add 1000000000))) l=_
 rw [← this]
 refine allI_eq fun i t=>?_
 unfold chgOk
 cases decide (0≤t.cell) <;> cases decide (t.cell < n) <;> cases (decide (i=0) || decide ((l.getD (i - 1) ⟨0,0⟩).cell < t.cell)) <;> rfl
def updB (m:Md) (u:Upd):Bool:=match tabAt m.sorts m.tables false u.cell with
 | some (_,t)=>updT u t
 | none=>false
theorem find_p {f:Tb→Bool}:∀ {i:Nat} {l:List Tb} {r:Nat×Tb},findG f i l=some r→f r.2=true
 | _,[],_,h=>by cases h
 | i,t::l,r,h=>by
  unfold findG at h
  split at h
  ·cases h;assumption
  ·exact find_p h
theorem tab_pos {S:List Int} {L:List Tb} {s:Bool} {c:Int} {r:Nat×Tb} (h:tabAt S L s c=some r):0≤c:=by
 unfold tabAt at h
 split at h
 ·have:=find_p h
  unfold inT at this
  simp only [Bool.and_eq_true,decide_eq_true_eq] at this
  exact this.2.1
 ·cases h
def updC (m:Md) (l:List Upd) (i:Nat) (u:Upd):Bool:=decide (prevV Upd.cell l i < u.cell) && updB m u
theorem upd_eqC (m:Md) (l:List Upd):allI (updC m l) l=allI (updOk m l) l:=by
 have:=prev_eq (f:=Upd.cell) (z:=⟨0,0,0⟩) (g:=updB m) (l:=l)
 show allI (fun i u=>decide (prevV Upd.cell l i < u.cell) && updB m u) l=_
 rw [← this]
 refine allI_eq fun i u=>?_
 unfold updOk updB
 cases h:tabAt m.sorts m.tables false u.cell with
 | none=>simp only [Bool.and_false]
 | some r=>
  have h0:=tab_pos h
  rw [decide_eq_true h0,Bool.true_and]
def effC (m:Md) (n:Int) (x:Eff):Bool:=allI (chgCd n x.delta) x.delta && (allI (updC m x.ups) x.ups && (decide (x.hold.length≤8) && (decide (x.ups.length≤32) && x.hold.all (rowB n))))
theorem eff_eqC (m:Md) (n:Int) (x:Eff):effC m n x=effB m n x:=by
 unfold effC effB
 rw [chg_eqC,upd_eqC]
 cases allI (chgOk n x.delta) x.delta <;> cases allI (updOk m x.ups) x.ups <;> cases decide (x.hold.length≤8) <;> cases decide (x.ups.length≤32) <;> cases x.hold.all (rowB n) <;> rfl
end Go.Proofs.YtcpgmmlaimkojaaGreatDoor
