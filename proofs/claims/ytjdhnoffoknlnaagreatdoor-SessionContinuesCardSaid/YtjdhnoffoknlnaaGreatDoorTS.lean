/- The plain functions that the clocks' texts compute,with no program in sight. No condition. -/
import Derived.Test.YtjdhnoffoknlnaaGreatDoorBase5
import Derived.Lib.ItoaNum
import Derived.Lib.Join
import Derived.Lib.AtoiTie
import Derived.Lib.SplitLaws
import Derived.Lib.Split
import Derived.Lib.Strings
import Derived.Lib.IndexLaws
import Derived.IntWalk
set_option linter.unusedSimpArgs false
set_option linter.unusedVariables false
set_option linter.unusedSectionVars false
namespace Go.Proofs.YtjdhnoffoknlnaaGreatDoor
def ok1 (n:Int):Bool:=decide (0≤n) && decide (n≤1024)
def validB (xs:List Int):Bool:=xs.all ok1 && decide (1≤xs.length) && decide (xs.length≤5)
def le2 (p:Int×Int):Bool:=decide (p.1≤p.2)
def insideB (a b:List Int):Bool:=(a.zip b).all le2
def al1 (n:Nat) (c:List Int):Bool:=validB c && decide (c.length=n)
def alikeB (l:List (List Int)):Bool:=l.all (al1 (l.headD []).length) && decide (0 < l.length)
def compareS (a b:List Int):Int×Int:=if alikeB [a,b] then (if insideB a b then (if insideB b a then (0,0) else (1,0)) else (if insideB b a then (2,0) else (3,0))) else (0,1)
theorem alike_len {a b:List Int} (h:alikeB [a,b]=true):a.length=b.length:=by
 simp [alikeB,al1] at h;omega
theorem headD_of {α:Type} {l:List α} {x d:α} (h:l[0]?=some x):l.headD d=x:=by
 cases l with
 | nil=>simp at h
 | cons y t=>simpa using h
theorem zip_get {α β:Type} {a:List α} {b:List β} {k:Nat} {x:α} {y:β} (hx:a[k]?=some x) (hy:b[k]?=some y):(a.zip b)[k]?=some (x,y):=by
 rw [List.getElem?_zip_eq_some];exact ⟨hx,hy⟩
end Go.Proofs.YtjdhnoffoknlnaaGreatDoor
namespace Go.Proofs.YtjdhnoffoknlnaaGreatDoor
def sumL (xs:List Int):Int:=xs.foldl (·+·) 0
def countS (xs:List Int):Int:=if validB xs then sumL xs else 0
def hasS (c:List Int) (r n:Int):Bool:=validB c && (decide (0≤r) && (decide (r < c.length) && (decide (1≤n) && decide (n≤c.getD r.toNat 0))))
theorem ok1_of {n:Int} (h:ok1 n=true):0≤n∧n≤1024:=by simp [ok1] at h;omega
theorem ok1_at {xs:List Int} (h:validB xs=true) {k:Nat} {n:Int} (hn:xs[k]?=some n):0≤n∧n≤1024:=by
 simp only [validB,Bool.and_eq_true,List.all_eq_true] at h
 exact ok1_of (h.1.1 n (List.mem_of_getElem? hn))
structure Sp where
 r:Int
 f:Int
 t:Int
deriving DecidableEq
theorem getD_get {xs:List Int} {k:Nat} {n:Int} (h:xs[k]?=some n):xs.getD k 0=n:=by rw [List.getD_eq_getElem?_getD,h];rfl
end Go.Proofs.YtjdhnoffoknlnaaGreatDoor
namespace Go.Proofs.YtjdhnoffoknlnaaGreatDoor
def betB (n l h:Int):Bool:=decide (l≤n) && decide (n≤h)
def headOk (e:Ev):Bool:=validB e.past && (betB e.r 0 ((e.past.length:Int) - 1) && (decide (e.n=e.past.getD e.r.toNat 0+1) && (decide (e.n≤1024) && betB e.t 1 1073741824)))
def giveZ (e:Ev):Bool:=decide (e.gk=0) && (decide (e.gi=0) && (decide (e.ge=0) && (decide (e.ga=0) && decide (e.to=0))))
def actF (e:Ev):Bool:=betB e.a 0 255 && betB e.pl 0 1024 && betB e.se 1 1048576
def noteF (e:Ev):Bool:=betB e.pl 1 1024 && betB e.se 1 1048576
def giveF (e:Ev):Bool:=betB e.gk 0 1 && betB e.ge 0 (if e.gk=1 then 5 else 0) && betB e.gi 0 1023 && betB e.ga 1 1000000 && betB e.to 0 ((e.past.length:Int) - 1) && decide (e.to≠e.r)
def formB (e:Ev):Bool:=headOk e && (if e.k=0 then actF e && giveZ e else if e.k=1 then giveF e && (decide (e.a=0) && (decide (e.pl=0) && decide (e.se=0))) else if e.k=2 then noteF e && (decide (e.a=0) && giveZ e) else false)
end Go.Proofs.YtjdhnoffoknlnaaGreatDoor
namespace Go.Proofs.YtjdhnoffoknlnaaGreatDoor
open Go
def numsT (xs:List Int):List UInt8:=Lib.join (xs.map Lib.itoa) [32]
def fmtS (xs:List Int):List UInt8:=if validB xs then 91::(numsT xs++[93]) else []
theorem nDigits_le:∀ (k u:Nat),1≤k→u < 10 ^ k→Lib.nDigits u≤k
 | 0,_,h,_=>by omega
 | k+1,u,_,h=>by
  by_cases hu:u < 10
  ·rw [Lib.nDigits_small hu];omega
  ·rw [Lib.nDigits_big hu]
   cases k with
   | zero=>simp at h;omega
   | succ k=>
    have:=nDigits_le (k+1) (u / 10) (by omega) (by rw [Nat.pow_succ] at h;omega)
    omega
theorem itoa_len {n:Int} (h0:0≤n) (h1:n≤1024):(Lib.itoa n).length≤4:=by
 rw [Lib.itoa,if_neg (by omega),Lib.decDigits_length]
 exact nDigits_le 4 _ (by omega) (by omega)
theorem lens_le:∀ (l:List (List UInt8)),(∀ x∈l,x.length≤4)→Lib.lens l≤4 * l.length
 | [],_=>by simp [Lib.lens]
 | x::l,h=>by
  have h1:=lens_le l (fun y hy=>h y (by simp [hy]))
  have h2:=h x (by simp)
  simp only [Lib.lens,List.map_cons,List.sum_cons,List.length_cons] at h1 ⊢
  omega
theorem numsT_len {xs:List Int} (h:xs.all ok1=true):(numsT xs).length≤5 * xs.length:=by
 cases xs with
 | nil=>simp [numsT,Lib.join_nil]
 | cons x t=>
  have hl:∀ y∈(x::t).map Lib.itoa,y.length≤4:=by
   intro y hy;rw [List.mem_map] at hy;obtain ⟨n,hn,rfl⟩:=hy
   rw [List.all_eq_true] at h
   exact itoa_len (ok1_of (h n hn)).1 (ok1_of (h n hn)).2
  have h2:=lens_le _ hl
  rw [numsT,List.map_cons,Lib.join_length]
  simp only [List.map_cons,List.length_cons,List.length_map,List.length_nil] at h2 ⊢
  omega
end Go.Proofs.YtjdhnoffoknlnaaGreatDoor
namespace Go.Proofs.YtjdhnoffoknlnaaGreatDoor
open Go
def isDig (b:UInt8):Bool:=decide (48≤b.toNat) && decide (b.toNat≤57)
def dvF (a:Nat) (l:List UInt8):Nat:=l.foldl (fun a b=>10 * a+(b.toNat - 48)) a
def dv (l:List UInt8):Nat:=dvF 0 l
theorem dvF_append (a:Nat) (x y:List UInt8):dvF a (x++y)=dvF (dvF a x) y:=by simp [dvF,List.foldl_append]
theorem dig_byte {d:Nat} (h:d < 10):(UInt8.ofNat (48+d)).toNat=48+d:=by
 simp [UInt8.toNat_ofNat'];omega
theorem isDig_byte {d:Nat} (h:d < 10):isDig (UInt8.ofNat (48+d))=true:=by
 simp only [isDig,dig_byte h,Bool.and_eq_true,decide_eq_true_eq];omega
theorem dec_digs:∀ (k u:Nat),u < 10 ^ k→(Lib.decDigits u).all isDig=true∧dv (Lib.decDigits u)=u
 | 0,u,h=>by
  obtain rfl:u=0:=by simpa using h
  rw [Lib.decDigits_one (by omega)]
  exact ⟨by simp [isDig],by simp [dv,dvF]⟩
 | k+1,u,h=>by
  by_cases hu:u < 10
  ·rw [Lib.decDigits_one hu]
   refine ⟨by rw [List.all_cons,isDig_byte hu];rfl,?_⟩
   simp only [dv,dvF,List.foldl_cons,List.foldl_nil,dig_byte hu];omega
  ·rw [Lib.decDigits,dif_neg hu]
   have ⟨h1,h2⟩:=dec_digs k (u / 10) (by rw [Nat.pow_succ] at h;omega)
   have h10:u % 10 < 10:=by omega
   refine ⟨by rw [List.all_append,h1,List.all_cons,isDig_byte h10];rfl,?_⟩
   unfold dv at h2 ⊢
   rw [dvF_append,h2]
   simp only [dvF,List.foldl_cons,List.foldl_nil,dig_byte h10];omega
theorem itoa_dec {n:Int} (h:0≤n):Lib.itoa n=Lib.decDigits n.toNat:=by rw [Lib.itoa,if_neg (by omega)]
theorem itoa_digs {n:Int} (h:0≤n):(Lib.itoa n).all isDig=true∧(dv (Lib.itoa n):Int)=n∧Lib.itoa n≠[]:=by
 rw [itoa_dec h]
 have ⟨h1,h2⟩:=dec_digs n.toNat n.toNat (Nat.lt_pow_self (by omega))
 refine ⟨h1,by rw [h2];omega,?_⟩
 intro h0
 have:=Lib.decDigits_length n.toNat
 have hp:=Lib.nDigits_pos n.toNat
 rw [h0] at this;simp at this;omega
theorem numsT_cons2 (n m:Int) (t:List Int):numsT (n::m::t)=Lib.itoa n++32::numsT (m::t):=by
 simp [numsT,Lib.join_cons,Lib.joinTail]
theorem numsT_one (n:Int):numsT [n]=Lib.itoa n:=by simp [numsT,Lib.join_one]
def atois:List (List UInt8)→Option (List Int)
 | []=>some []
 | x::r=>match Lib.atoiAll x with
  | .ok v=>(atois r).map (v::·)
  | _=>none
def bodyOf (t:List UInt8):List UInt8:=Lib.trimSuffix (Lib.trimPrefix t [91]) [93]
def wordsOf (b:List UInt8):List (List UInt8):=Lib.splitK [32] 0 (Lib.count b [32]) b
def clkP (t:List UInt8):Option (List Int):=
 if Lib.hasPrefix t [91]=true∧Lib.hasSuffix (Lib.trimPrefix t [91]) [93]=true then
  match atois (wordsOf (bodyOf t)) with
  | none=>none
  | some c=>if fmtS c=t then some c else none
 else none
theorem occ_none {x:List UInt8} (h:x.all isDig=true):Lib.index x [32] = -1:=by
 refine Lib.index_none fun j hj=>?_
 cases ho:Lib.occAt x [32] j with
 | false=>rfl
 | true=>
  have h1:=Lib.occAt_head rfl ho
  have:=List.all_eq_true.1 h 32 (List.mem_of_getElem? h1)
  simp [isDig] at this
theorem occ_word {x r:List UInt8} (h:x.all isDig=true):Lib.index (x++32::r) [32]=x.length:=by
 refine Lib.index_first (by simp) ?_ fun j hj=>?_
 ·simp [Lib.occAt]
 ·cases ho:Lib.occAt (x++32::r) [32] j with
  | false=>rfl
  | true=>
   have h1:=Lib.occAt_head rfl ho
   rw [List.getElem?_append_left hj] at h1
   have:=List.all_eq_true.1 h 32 (List.mem_of_getElem? h1)
   simp [isDig] at this
theorem words_nums:∀ (n:Int) (t:List Int),(n::t).all ok1=true→wordsOf (numsT (n::t))=(n::t).map Lib.itoa
 | n,[],h=>by
  simp only [List.all_cons,Bool.and_eq_true] at h
  have hd:=(itoa_digs (ok1_of h.1).1).1
  rw [numsT_one,wordsOf,Lib.count_miss (occ_none hd)]
  rfl
 | n,m::t,h=>by
  have h':=h
  rw [List.all_cons,Bool.and_eq_true] at h
  have hd:=(itoa_digs (ok1_of h.1).1).1
  have ih:=words_nums m t h.2
  rw [numsT_cons2]
  unfold wordsOf at ih ⊢
  rw [Lib.count_hit (by simp) (occ_word hd)]
  have hdr:List.drop ((Lib.itoa n).length+[(32:UInt8)].length) (Lib.itoa n++32::numsT (m::t))=numsT (m::t):=by
   rw [List.drop_append];simp
  rw [hdr,Nat.add_comm 1,Lib.splitK]
  simp only [occ_word hd]
  rw [if_neg (by simp)]
  have hdr':=hdr
  simp only [Int.toNat_natCast,Nat.add_zero,List.take_left'] at hdr' ⊢
  rw [hdr',ih]
  rfl
theorem decFrom_dv:∀ (x:List UInt8) (a:Nat),x.all isDig=true→Lib.decFrom a x=some (dvF a x)
 | [],a,_=>rfl
 | b::x,a,h=>by
  simp only [List.all_cons,Bool.and_eq_true,isDig,decide_eq_true_eq] at h
  have hd:Lib.digitVal b=some (b.toNat - 48):=by rw [Lib.digitVal,if_pos h.1]
  rw [Lib.decFrom,hd]
  show Lib.decFrom _ x=_
  rw [decFrom_dv x _ (by simp only [List.all_eq_true,isDig,Bool.and_eq_true,decide_eq_true_eq] at h ⊢;exact h.2)]
  simp [dvF,Nat.mul_comm]
theorem atoiAll_itoa {n:Int} (h:ok1 n=true):Lib.atoiAll (Lib.itoa n)=.ok n:=by
 have ⟨h0,h1⟩:=ok1_of h
 have ⟨hd,hv,hne⟩:=itoa_digs h0
 have h4:=itoa_len h0 h1
 rw [Lib.atoiAll_short _ (by omega)]
 have hf:=decFrom_dv _ 0 hd
 cases hx:Lib.itoa n with
 | nil=>exact absurd hx hne
 | cons b r=>
  rw [hx] at hd hv hf
  have hb:isDig b=true:=by simp only [List.all_cons,Bool.and_eq_true] at hd;exact hd.1
  simp only [isDig,Bool.and_eq_true,decide_eq_true_eq] at hb
  have e1:(b == 45)=false:=by rw [beq_eq_false_iff_ne];rintro rfl;simp at hb
  have e2:(b == 43)=false:=by rw [beq_eq_false_iff_ne];rintro rfl;simp at hb
  simp only [Lib.atoi,e1,e2,Lib.decNat,List.isEmpty_cons]
  simp only [Bool.false_eq_true,if_false]
  rw [hf]
  unfold dv at hv
  show Lib.NumEnd.ok ((dvF 0 (b::r):Nat):Int)=_
  exact congrArg _ hv
theorem atois_itoa:∀ (c:List Int),c.all ok1=true→atois (c.map Lib.itoa)=some c
 | [],_=>rfl
 | n::t,h=>by
  rw [List.all_cons,Bool.and_eq_true] at h
  rw [List.map_cons,atois,atoiAll_itoa h.1,atois_itoa t h.2]
  rfl
theorem clkP_iff (s:List UInt8) (c:List Int):clkP s=some c↔validB c=true∧fmtS c=s:=by
 constructor
 ·intro h
  unfold clkP at h
  split at h
  ·rename_i hc
   split at h
   ·cases h
   ·split at h
    ·rename_i c' _ hf
     cases h
     refine ⟨?_,hf⟩
     cases hv:validB c with
     | true=>rfl
     | false=>
      have h0:s=[]:=by rw [← hf,fmtS,hv];rfl
      rw [h0] at hc
      simp [Lib.hasPrefix] at hc
    ·cases h
  ·cases h
 ·rintro ⟨hv,rfl⟩
  cases c with
  | nil=>simp [validB] at hv
  | cons n t=>
   have hok:(n::t).all ok1=true:=by simp only [validB,Bool.and_eq_true] at hv;exact hv.1.1
   have hf:fmtS (n::t)=91::(numsT (n::t)++[93]):=by simp [fmtS,hv]
   have hp:Lib.hasPrefix (91::(numsT (n::t)++[93])) [91]=true:=by simp [Lib.hasPrefix]
   have ht:Lib.trimPrefix (91::(numsT (n::t)++[93])) [91]=numsT (n::t)++[93]:=by rw [Lib.trimPrefix,if_pos hp];rfl
   have hs:Lib.hasSuffix (numsT (n::t)++[93]) [93]=true:=by
    rw [Lib.hasSuffix,List.isSuffixOf_iff_suffix];exact List.suffix_append _ _
   have hb:bodyOf (91::(numsT (n::t)++[93]))=numsT (n::t):=by
    rw [bodyOf,ht,Lib.trimSuffix,if_pos hs];simp
   rw [clkP,hf,if_pos ⟨hp,by rw [ht];exact hs⟩,hb,words_nums _ _ hok,atois_itoa _ hok]
   simp only [hf]
   exact if_pos trivial
end Go.Proofs.YtjdhnoffoknlnaaGreatDoor
namespace Go.Proofs.YtjdhnoffoknlnaaGreatDoor
open Go
def atoiV (w:List UInt8):Int:=match Lib.atoiAll w with
 | .ok v=>v
 | .range=>Lib.atoiSat w
 | _=>0
structure Rng (e:Ev):Prop where
 vp:validB e.past=true
 r0:0≤e.r
 r1:e.r≤9999
 n0:0≤e.n
 n1:e.n≤9999
 t0:0≤e.t
 t1:e.t≤9999999999
 k:e.k=0∨e.k=1∨e.k=2
 k0:e.k=0→(0≤e.a∧e.a≤255∧0≤e.pl∧e.pl≤1024∧0≤e.se∧e.se≤1048576)∧e.gk=0∧e.gi=0∧e.ge=0∧e.ga=0∧e.to=0
 k2:e.k=2→(0≤e.pl∧e.pl≤1024∧0≤e.se∧e.se≤1048576)∧e.a=0∧e.gk=0∧e.gi=0∧e.ge=0∧e.ga=0∧e.to=0
 k1:e.k=1→((e.gk=0∨e.gk=1)∧0≤e.gi∧e.gi≤1023∧0≤e.ge∧e.ge≤5∧0≤e.ga∧e.ga≤1000000∧0≤e.to∧e.to≤9999)∧e.a=0∧e.pl=0∧e.se=0
def at0 (l:List Int) (k:Nat):Int:=l.getD k 0
end Go.Proofs.YtjdhnoffoknlnaaGreatDoor
namespace Go.Proofs.YtjdhnoffoknlnaaGreatDoor
open Go
def pos (c:UInt8) (s:List UInt8):Nat:=(s.takeWhile fun b=>b != c).length
end Go.Proofs.YtjdhnoffoknlnaaGreatDoor
namespace Go.Proofs.YtjdhnoffoknlnaaGreatDoor
structure Tok where
 kind:Int
 frm:Nat
 at_:Nat
 end_:Nat
section
variable {α:Type} {l:List α} {q:Nat} {x:α}
end
section
variable {l:List UInt8} {q:Nat} {b:UInt8}
end
section
variable {S:List (List UInt8)} {k:Nat} {s t:List UInt8}
end
end Go.Proofs.YtjdhnoffoknlnaaGreatDoor
namespace Go.Proofs.YtjdhnoffoknlnaaGreatDoor
structure Tb where
 name:ByteArray
 kind:Int
 cols:List Int
 lo:Int
 hi:Int
 first:Int
structure Tm where
 cell:Int
 factor:Int
deriving DecidableEq
structure Rw where
 terms:List Tm
 bound:Int
deriving DecidableEq
structure Cn where
 kind:Int
 fam:Int
 row:Rw
 first:Int
 size:Int
structure Opn where
 name:ByteArray
 ord:Bool
 sorts:List Int
structure Chg where
 cell:Int
 add:Int
structure Upd where
 kind:Int
 cell:Int
 value:Int
structure Eff where
 delta:List Chg
 hold:List Rw
 ups:List Upd
structure Actn where
 op:Int
 args:List Int
 eff:Eff
structure Hde where
 table:Int
 col:Int
 to:Int
structure Md where
 sorts:List Int
 tables:List Tb
 fams:List ByteArray
 cons:List Cn
 ops:List Opn
 acts:List Actn
 hides:List Hde
section
variable {α:Type} {p:Nat→α→Bool} {l:List α} {q:Nat} {x:α}
end
def leadsB (l:List Hde):Nat→Int→Int→Bool
 | 0,a,b=>decide (a=b)
 | n+1,a,b=>decide (a=b) || l.any fun h=>decide (h.table=a) && leadsB l n h.to b
section
variable {S C:List Int}
end
end Go.Proofs.YtjdhnoffoknlnaaGreatDoor
namespace Go.Proofs.YtjdhnoffoknlnaaGreatDoor
end Go.Proofs.YtjdhnoffoknlnaaGreatDoor
namespace Go.Proofs.YtjdhnoffoknlnaaGreatDoor
section
variable {α:Type}
structure Ordr (lt:α→α→Bool):Prop where
 asym:∀ a b,lt a b=true→lt b a=false
 ntr:∀ a b c,lt a b=false→lt b c=false→lt a c=false
variable (lt:α→α→Bool)
variable {lt}
end
end Go.Proofs.YtjdhnoffoknlnaaGreatDoor
namespace Go.Proofs.YtjdhnoffoknlnaaGreatDoor
section
variable {α:Type} (lt:α→α→Bool)
end
section
variable {α:Type}
end
end Go.Proofs.YtjdhnoffoknlnaaGreatDoor
namespace Go.Proofs.YtjdhnoffoknlnaaGreatDoor
def nm (e:Ev):Int×Int:=(e.r,e.n)
def befB (a b:Ev):Bool:=formB a && (formB b && hasS b.past a.r a.n)
structure ClosedP (l:List Ev):Prop where
 few:l.length≤1024
 form:∀ e∈l,formB e=true
 alike:∀ e∈l,∀ x∈l,e.past.length=x.past.length
 names:(l.map nm).Nodup
 down:∀ e∈l,∀ r n,hasS e.past r n=true→∃ x∈l,nm x=(r,n)∧insideB x.past e.past=true∧x.t < e.t
open Classical in
section
open Classical
end
section
variable {α:Type} [DecidableEq α]
end
def nIn (l:List Ev) (e:Ev):Nat:=l.countP fun x=>befB x e
structure ClosedR (l:List Ev) (e:Ev):Prop where
 inside:∀ x∈l,befB x e=true→insideB x.past e.past=true∧x.t < e.t
 count:(nIn l e:Int)=countS e.past
end Go.Proofs.YtjdhnoffoknlnaaGreatDoor
namespace Go.Proofs.YtjdhnoffoknlnaaGreatDoor
section
variable {α:Type} {lt:α→α→Bool}
end
section
variable {l:List Ev} (h:ClosedP l)
include h
end
end Go.Proofs.YtjdhnoffoknlnaaGreatDoor
namespace Go.Proofs.YtjdhnoffoknlnaaGreatDoor
theorem getD_set_ne {l:List Int} {i j:Nat} {x:Int} (h:i≠j):(l.set i x).getD j 0=l.getD j 0:=by
 rw [List.getD_eq_getElem?_getD,List.getD_eq_getElem?_getD,List.getElem?_set_ne h]
structure Wr where
 e:Ev
 u:Upd
section
variable {W:List Wr} {w:Wr} (h1:∀ x∈W,hasS w.e.past x.e.r x.e.n=true) (h2:∀ x∈W,hasS x.e.past w.e.r w.e.n=false) (h3:hasS w.e.past w.e.r w.e.n=false) (h4:∀ x∈W,x.e.t < w.e.t)
include h2 h3 in
end
end Go.Proofs.YtjdhnoffoknlnaaGreatDoor
namespace Go.Proofs.YtjdhnoffoknlnaaGreatDoor
def sinkB (l:List Hde) (O:List Int) (t:Int):Bool:=!l.any fun h=>decide (h.table=t) && decide (h.to∈O)
theorem sinkB_iff {l:List Hde} {O:List Int} {t:Int}:sinkB l O t=true↔∀ h∈l,h.table=t→h.to ∉ O:=by
 unfold sinkB
 rw [Bool.not_eq_true',← Bool.not_eq_true,List.any_eq_true]
 constructor
 ·intro h x hx ht ho
  exact h ⟨x,hx,by simp [ht,ho]⟩
 ·rintro h ⟨x,hx,hb⟩
  simp only [Bool.and_eq_true,decide_eq_true_eq] at hb
  exact h x hx hb.1 hb.2
theorem leads_0 {l:List Hde} {a b:Int}:leadsB l 0 a b=true↔a=b:=by simp [leadsB]
theorem leads_s {l:List Hde} {n:Nat} {a b:Int}:leadsB l (n+1) a b=true↔a=b∨∃ h∈l,h.table=a∧leadsB l n h.to b=true:=by
 show (decide (a=b) || l.any fun h=>decide (h.table=a) && leadsB l n h.to b)=true↔_
 rw [Bool.or_eq_true,decide_eq_true_eq,List.any_eq_true]
 simp only [Bool.and_eq_true,decide_eq_true_eq]
theorem leads_refl {l:List Hde} (n:Nat) (a:Int):leadsB l n a a=true:=by
 cases n with
 | zero=>exact leads_0.2 rfl
 | succ n=>exact leads_s.2 (.inl rfl)
theorem leads_app {l:List Hde} {h:Hde} (hh:h∈l):∀ {n:Nat} {a:Int},leadsB l n a h.table=true→leadsB l (n+1) a h.to=true
 | 0,a,hl=>by
  have:=leads_0.1 hl
  exact leads_s.2 (.inr ⟨h,hh,this.symm,leads_refl _ _⟩)
 | n+1,a,hl=>by
  rcases leads_s.1 hl with rfl|⟨x,hx,ht,hl'⟩
  ·exact leads_s.2 (.inr ⟨h,hh,rfl,leads_refl _ _⟩)
  ·exact leads_s.2 (.inr ⟨x,hx,ht,leads_app hh hl'⟩)
def onC (l:List Hde) (h:Hde) (x:Int):Prop:=(∃ i,leadsB l i h.to x=true)∧∃ j,leadsB l j x h.table=true
theorem onC_next {l:List Hde} {h:Hde} {n:Nat} (hh:h∈l) (hc:leadsB l n h.to h.table=true) {x:Int} (hx:onC l h x):∃ g∈l,g.table=x∧onC l h g.to:=by
 obtain ⟨⟨i,hi⟩,j,hj⟩:=hx
 cases j with
 | zero=>
  have:=leads_0.1 hj
  exact ⟨h,hh,this.symm,⟨0,leads_refl _ _⟩,n,hc⟩
 | succ j=>
  rcases leads_s.1 hj with rfl|⟨g,hg,hgt,hgl⟩
  ·exact ⟨h,hh,rfl,⟨0,leads_refl _ _⟩,n,hc⟩
  ·exact ⟨g,hg,hgt,⟨i+1,leads_app hg (by rw [hgt];exact hi)⟩,j,hgl⟩
theorem onC_keep {l:List Hde} {h:Hde} {n:Nat} (hh:h∈l) (hc:leadsB l n h.to h.table=true) {O:List Int} (hO:∀ x,onC l h x→x∈O) {t:Int} (ht:onC l h t):sinkB l O t=false:=by
 rw [← Bool.not_eq_true,sinkB_iff]
 intro hs
 obtain ⟨g,hg,hgt,hgc⟩:=onC_next hh hc ht
 exact hs g hg hgt (hO _ hgc)
theorem onC_self {l:List Hde} {h:Hde} {n:Nat} (hc:leadsB l n h.to h.table=true):onC l h h.table:=⟨⟨n,hc⟩,0,leads_refl _ _⟩
def Cyc (l:List Hde) (n:Nat) (O:List Int):Prop:=∀ h∈l,leadsB l n h.to h.table=true→∀ x,onC l h x→x∈O
structure PassI (l:List Hde) (n:Nat) (O seen cur:List Int):Prop where
 sub:cur.Sublist O
 gone:∀ t∈seen,sinkB l O t=true→t ∉ cur
 cyc:Cyc l n O→Cyc l n cur
theorem PassI.start {l:List Hde} {n:Nat} {O:List Int}:PassI l n O [] O:=⟨List.Sublist.refl _,fun _ h=>absurd h (by simp),id⟩
theorem sink_sub {l:List Hde} {O cur:List Int} {t:Int} (h:∀ x∈cur,x∈O) (hs:sinkB l O t=true):sinkB l cur t=true:=by
 rw [sinkB_iff] at hs ⊢
 exact fun g hg hgt hc=>hs g hg hgt (h _ hc)
theorem PassI.keep {l:List Hde} {n:Nat} {O seen cur:List Int} {t:Int} (h:PassI l n O seen cur) (hs:sinkB l cur t=false):PassI l n O (t::seen) cur where
 sub:=h.sub
 gone:=fun x hx hO=>by
  rcases List.mem_cons.1 hx with rfl|hx
  ·exact absurd (sink_sub (fun y hy=>h.sub.subset hy) hO) (by rw [hs];decide)
  ·exact h.gone x hx hO
 cyc:=h.cyc
theorem PassI.drop {l:List Hde} {n:Nat} {O seen cur:List Int} {t:Int} (h:PassI l n O seen cur) (hs:sinkB l cur t=true):PassI l n O (t::seen) (cur.filter fun x=>!decide (x=t)) where
 sub:=(List.filter_sublist).trans h.sub
 gone:=fun x hx hO hm=>by
  obtain ⟨hm1,hm2⟩:=List.mem_filter.1 hm
  rcases List.mem_cons.1 hx with rfl|hx
  ·simp at hm2
  ·exact h.gone x hx hO hm1
 cyc:=fun hO g hg hc x hx=>by
  have hcur:=h.cyc hO
  refine List.mem_filter.2 ⟨hcur g hg hc x hx,?_⟩
  have:x≠t:=by
   rintro rfl
   rw [onC_keep hg hc (hcur g hg hc) hx] at hs
   cases hs
  simpa using this
structure InvH (l:List Hde) (n k:Nat) (O:List Int):Prop where
 dif:O.Nodup
 rng:∀ t∈O,0≤t∧t < n
 few:(∀ h∈l,leadsB l n h.to h.table=false)→O.length≤l.length - k
 cyc:Cyc l n O
theorem InvH.done {l:List Hde} {n:Nat} {O:List Int} (h:InvH l n l.length O):decide (O.length=0)=l.all fun g=>!leadsB l n g.to g.table:=by
 cases hb:l.all fun g=>!leadsB l n g.to g.table with
 | true=>
  have hac:∀ g∈l,leadsB l n g.to g.table=false:=fun g hg=>by simpa using List.all_eq_true.1 hb g hg
  have:=h.few hac
  exact decide_eq_true (by omega)
 | false=>
  rw [← Bool.not_eq_true,List.all_eq_true] at hb
  have:∃ g∈l,leadsB l n g.to g.table=true:=by
   apply Classical.byContradiction
   intro hn
   apply hb
   intro g hg
   cases hc:leadsB l n g.to g.table with
   | false=>rfl
   | true=>exact absurd ⟨g,hg,hc⟩ hn
  obtain ⟨g,hg,hc⟩:=this
  have hm:=h.cyc g hg hc _ (onC_self hc)
  have:O.length≠0:=by intro h0;rw [List.length_eq_zero_iff.1 h0] at hm;cases hm
  simpa using this
end Go.Proofs.YtjdhnoffoknlnaaGreatDoor
