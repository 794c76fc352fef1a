/- The plain functions that the clocks' texts compute,with no program in sight. No condition. -/
import Derived.Test.YtcpgmmlaimkojaaGreatDoorBase5
import Derived.Lib.ItoaNum
import Derived.Lib.Join
import Derived.Lib.AtoiTie
import Derived.Lib.SplitLaws
import Derived.Lib.Split
import Derived.Lib.Strings
import Derived.Lib.IndexLaws
import Derived.IntWalk
set_option linter.unusedSimpArgs false
set_option linter.unusedVariables false
set_option linter.unusedSectionVars false
namespace Go.Proofs.YtcpgmmlaimkojaaGreatDoor
def ok1 (n:Int):Bool:=decide (0≤n) && decide (n≤1024)
def validB (xs:List Int):Bool:=xs.all ok1 && decide (1≤xs.length) && decide (xs.length≤5)
def le2 (p:Int×Int):Bool:=decide (p.1≤p.2)
def insideB (a b:List Int):Bool:=(a.zip b).all le2
theorem foldl_snoc {α β:Type} (g:β→α→β) (b:β) {l:List α} {k:Nat} {x:α} (h:l[k]?=some x):(l.take (k+1)).foldl g b=g ((l.take k).foldl g b) x:=by
 rw [List.take_add_one,h];simp [List.foldl_append]
end Go.Proofs.YtcpgmmlaimkojaaGreatDoor
namespace Go.Proofs.YtcpgmmlaimkojaaGreatDoor
def sumL (xs:List Int):Int:=xs.foldl (·+·) 0
def countS (xs:List Int):Int:=if validB xs then sumL xs else 0
def hasS (c:List Int) (r n:Int):Bool:=validB c && (decide (0≤r) && (decide (r < c.length) && (decide (1≤n) && decide (n≤c.getD r.toNat 0))))
structure Sp where
 r:Int
 f:Int
 t:Int
deriving DecidableEq
theorem getD_get {xs:List Int} {k:Nat} {n:Int} (h:xs[k]?=some n):xs.getD k 0=n:=by rw [List.getD_eq_getElem?_getD,h];rfl
end Go.Proofs.YtcpgmmlaimkojaaGreatDoor
namespace Go.Proofs.YtcpgmmlaimkojaaGreatDoor
def betB (n l h:Int):Bool:=decide (l≤n) && decide (n≤h)
def headOk (e:Ev):Bool:=validB e.past && (betB e.r 0 ((e.past.length:Int) - 1) && (decide (e.n=e.past.getD e.r.toNat 0+1) && (decide (e.n≤1024) && betB e.t 1 1073741824)))
def giveZ (e:Ev):Bool:=decide (e.gk=0) && (decide (e.gi=0) && (decide (e.ge=0) && (decide (e.ga=0) && decide (e.to=0))))
def actF (e:Ev):Bool:=betB e.a 0 255 && betB e.pl 0 1024 && betB e.se 1 1048576
def noteF (e:Ev):Bool:=betB e.pl 1 1024 && betB e.se 1 1048576
def giveF (e:Ev):Bool:=betB e.gk 0 1 && betB e.ge 0 (if e.gk=1 then 5 else 0) && betB e.gi 0 1023 && betB e.ga 1 1000000 && betB e.to 0 ((e.past.length:Int) - 1) && decide (e.to≠e.r)
def formB (e:Ev):Bool:=headOk e && (if e.k=0 then actF e && giveZ e else if e.k=1 then giveF e && (decide (e.a=0) && (decide (e.pl=0) && decide (e.se=0))) else if e.k=2 then noteF e && (decide (e.a=0) && giveZ e) else false)
end Go.Proofs.YtcpgmmlaimkojaaGreatDoor
namespace Go.Proofs.YtcpgmmlaimkojaaGreatDoor
open Go
end Go.Proofs.YtcpgmmlaimkojaaGreatDoor
namespace Go.Proofs.YtcpgmmlaimkojaaGreatDoor
open Go
def isDig (b:UInt8):Bool:=decide (48≤b.toNat) && decide (b.toNat≤57)
def dvF (a:Nat) (l:List UInt8):Nat:=l.foldl (fun a b=>10 * a+(b.toNat - 48)) a
def dv (l:List UInt8):Nat:=dvF 0 l
end Go.Proofs.YtcpgmmlaimkojaaGreatDoor
namespace Go.Proofs.YtcpgmmlaimkojaaGreatDoor
open Go
structure Rng (e:Ev):Prop where
 vp:validB e.past=true
 r0:0≤e.r
 r1:e.r≤9999
 n0:0≤e.n
 n1:e.n≤9999
 t0:0≤e.t
 t1:e.t≤9999999999
 k:e.k=0∨e.k=1∨e.k=2
 k0:e.k=0→(0≤e.a∧e.a≤255∧0≤e.pl∧e.pl≤1024∧0≤e.se∧e.se≤1048576)∧e.gk=0∧e.gi=0∧e.ge=0∧e.ga=0∧e.to=0
 k2:e.k=2→(0≤e.pl∧e.pl≤1024∧0≤e.se∧e.se≤1048576)∧e.a=0∧e.gk=0∧e.gi=0∧e.ge=0∧e.ga=0∧e.to=0
 k1:e.k=1→((e.gk=0∨e.gk=1)∧0≤e.gi∧e.gi≤1023∧0≤e.ge∧e.ge≤5∧0≤e.ga∧e.ga≤1000000∧0≤e.to∧e.to≤9999)∧e.a=0∧e.pl=0∧e.se=0
def at0 (l:List Int) (k:Nat):Int:=l.getD k 0
end Go.Proofs.YtcpgmmlaimkojaaGreatDoor
namespace Go.Proofs.YtcpgmmlaimkojaaGreatDoor
open Go
def pos (c:UInt8) (s:List UInt8):Nat:=(s.takeWhile fun b=>b != c).length
end Go.Proofs.YtcpgmmlaimkojaaGreatDoor
namespace Go.Proofs.YtcpgmmlaimkojaaGreatDoor
def letB (b:UInt8):Bool:=decide (97≤b.toNat) && decide (b.toNat≤122)
def whiB (b:UInt8):Bool:=(decide (b.toNat=9) || decide (b.toNat=10)) || (decide (b.toNat=13) || decide (b.toNat=32))
def prtB (b:UInt8):Bool:=letB b || (isDig b || decide (b.toNat=95))
def skipL:Bool→List UInt8→Nat
 | _,[]=>0
 | true,b::r=>if b.toNat=10 then skipL false r+1 else skipL true r+1
 | false,b::r=>if whiB b=true then skipL false r+1 else if b.toNat=35 then skipL true r+1 else 0
def runL (p:UInt8→Bool):List UInt8→Nat
 | []=>0
 | b::r=>if p b=true then runL p r+1 else 0
def kwL:List (List UInt8):=[[115,111,114,116],[114,101,108,97,116,105,111,110],[99,111,117,110,116,101,114],[115,101,116],[114,101,103,105,115,116,101,114],[105,110,118,97,114,105,97,110,116],[111,112,101,114,97,116,105,111,110],[107,101,121],[114,101,102,101,114,101,110,99,101],[116,111],[99,111,117,110,116],[97,99,121,99,108,105,99],[97,108,108],[115,117,109],[105,110],[97,100,100,119,105,110,115],[114,101,109,111,118,101,119,105,110,115],[108,97,115,116],[109,117,108,116,105],[104,105,100,101],[111,114,100,101,114,101,100],[114,101,113,117,105,114,101],[104,111,108,100],[105,110,115,101,114,116],[100,101,108,101,116,101],[97,100,100],[102,114,111,109],[112,117,116],[100,114,111,112],[97,115,115,105,103,110],[102,111,114],[119,104,101,114,101],[97,110,100],[111,114],[110,111,116]]
def syL:List (List UInt8):=[[61,61],[33,61],[60,61],[62,61],[46,46],[60],[62],[61],[43],[45],[42],[40],[41],[123],[125],[44],[58],[59]]
def symG:List (List UInt8)→List UInt8→Nat
 | [],_=>0
 | s::r,t=>if s.length≤t.length∧t.take s.length=s then s.length else symG r t
def symL (t:List UInt8):Nat:=symG syL t
def wrL:List UInt8→Nat
 | []=>0
 | b::r=>if (whiB b=false∧b.toNat≠35)∧(letB b=false∧isDig b=false∧symL (b::r)=0) then wrL r+1 else 0
def tokL:List UInt8→Int×Nat
 | []=>(0,0)
 | b::r=>
  if letB b=true then (if (b::r).take (runL prtB (b::r))∈kwL then 2 else 1,runL prtB (b::r))
  else if isDig b=true then (3,runL isDig (b::r))
  else if 0 < symL (b::r) then (4,symL (b::r))
  else (5,wrL (b::r))
structure Tok where
 kind:Int
 frm:Nat
 at_:Nat
 end_:Nat
def scanL (l:List UInt8):Nat→Nat→List Tok
 | 0,_=>[]
 | f+1,q=>if q+skipL false (l.drop q) < l.length then ⟨(tokL (l.drop (q+skipL false (l.drop q)))).1,q,q+skipL false (l.drop q),q+skipL false (l.drop q)+(tokL (l.drop (q+skipL false (l.drop q)))).2⟩::scanL l f (q+skipL false (l.drop q)+(tokL (l.drop (q+skipL false (l.drop q)))).2) else [⟨0,q,l.length,l.length⟩]
def scanA (l:List UInt8):List Tok:=scanL l (l.length+1) 0
def kindL (l:List UInt8):Int:=if 4096 < l.length then 0 else match scanA l with
 | [t,_]=>if t.at_=0∧t.end_=l.length then t.kind else 0
 | _=>0
def nameL (l:List UInt8):Bool:=decide (kindL l=1) && decide (l.length≤16)
theorem skipL_le:∀ (c:Bool) (l:List UInt8),skipL c l≤l.length
 | _,[]=>by simp [skipL]
 | true,b::r=>by
  unfold skipL
  have h1:=skipL_le false r
  have h2:=skipL_le true r
  split <;> simp <;> omega
 | false,b::r=>by
  unfold skipL
  have h1:=skipL_le false r
  have h2:=skipL_le true r
  split
  ·simp;omega
  ·split <;> simp;omega
theorem runL_le (p:UInt8→Bool):∀ (l:List UInt8),runL p l≤l.length
 | []=>by simp [runL]
 | b::r=>by
  unfold runL
  have h1:=runL_le p r
  split <;> simp;omega
theorem symG_le:∀ (S:List (List UInt8)) (t:List UInt8),symG S t≤t.length
 | [],_=>by simp [symG]
 | s::r,t=>by
  unfold symG
  split
  ·rename_i h;exact h.1
  ·exact symG_le r t
theorem wrL_le:∀ (l:List UInt8),wrL l≤l.length
 | []=>by simp [wrL]
 | b::r=>by
  unfold wrL
  have h1:=wrL_le r
  split <;> simp;omega
theorem tokL_cons (b:UInt8) (r:List UInt8):tokL (b::r)=if letB b=true then (if (b::r).take (runL prtB (b::r))∈kwL then 2 else 1,runL prtB (b::r)) else if isDig b=true then (3,runL isDig (b::r)) else if 0 < symL (b::r) then (4,symL (b::r)) else (5,wrL (b::r)):=by rw [tokL]
theorem tokL_le (l:List UInt8):(tokL l).2≤l.length:=by
 cases l with
 | nil=>simp [tokL]
 | cons b r=>
  rw [tokL_cons]
  split
  ·exact runL_le _ (b::r)
  ·split
   ·exact runL_le _ (b::r)
   ·split
    ·exact symG_le _ (b::r)
    ·exact wrL_le (b::r)
theorem skip_stop:∀ (l:List UInt8),∀ b r,l.drop (skipL false l)=b::r→whiB b=false∧b.toNat≠35
 | l=>by
  suffices H:∀ (l:List UInt8) (c:Bool) b r,l.drop (skipL c l)=b::r→whiB b=false∧b.toNat≠35 from H l false
  intro l
  induction l with
  | nil=>intro c b r h;simp [skipL] at h
  | cons x l ih=>
   intro c b r h
   cases c with
   | true=>
    unfold skipL at h
    split at h
    ·exact ih false b r (by simpa using h)
    ·exact ih true b r (by simpa using h)
   | false=>
    unfold skipL at h
    split at h
    ·exact ih false b r (by simpa using h)
    ·split at h
     ·exact ih true b r (by simpa using h)
     ·rename_i h1 h2
      rw [List.drop_zero,List.cons.injEq] at h
      obtain ⟨rfl,_⟩:=h
      exact ⟨by simpa using h1,h2⟩
theorem tok_pos {b:UInt8} {r:List UInt8} (h1:whiB b=false) (h2:b.toNat≠35):0 < (tokL (b::r)).2:=by
 rw [tokL_cons]
 split
 ·rename_i h
  have:prtB b=true:=by simp [prtB,h]
  simp [runL,this]
 ·split
  ·rename_i h
   simp [runL,h]
  ·split
   ·rename_i h;exact h
   ·rename_i h3 h4 h5
    have h3:letB b=false:=by simpa using h3
    have h4:isDig b=false:=by simpa using h4
    show 0 < wrL (b::r)
    unfold wrL
    rw [if_pos ⟨⟨h1,h2⟩,h3,h4,by omega⟩]
    omega
section
variable {α:Type} {l:List α} {q:Nat} {x:α}
theorem drop_get (h:l[q]?=some x):l.drop q=x::l.drop (q+1):=by
 obtain ⟨hl,rfl⟩:=List.getElem?_eq_some_iff.1 h
 exact List.drop_eq_getElem_cons hl
theorem drop_end (h:l.length≤q):l.drop q=[]:=List.drop_of_length_le h
end
section
variable {l:List UInt8} {q:Nat} {b:UInt8}
theorem skip_w (h:l[q]?=some b) (hw:whiB b=true):skipL false (l.drop q)=skipL false (l.drop (q+1))+1:=by
 rw [drop_get h,skipL,if_pos hw]
theorem skip_c (h:l[q]?=some b) (hw:whiB b=false) (h35:b.toNat=35):skipL false (l.drop q)=skipL true (l.drop (q+1))+1:=by
 rw [drop_get h,skipL,if_neg (by simp [hw]),if_pos h35]
theorem skip_n (h:l[q]?=some b) (hw:whiB b=false) (h35:¬ b.toNat=35):skipL false (l.drop q)=0:=by
 rw [drop_get h,skipL,if_neg (by simp [hw]),if_neg h35]
theorem skip_e (c:Bool) (h:l.length≤q):skipL c (l.drop q)=0:=by
 rw [drop_end h,skipL]
theorem skip_ct (h:l[q]?=some b) (h10:¬ b.toNat=10):skipL true (l.drop q)=skipL true (l.drop (q+1))+1:=by
 rw [drop_get h,skipL,if_neg h10]
theorem skip_cn (h:l[q]?=some b) (h10:b.toNat=10):skipL true (l.drop q)=skipL false (l.drop q):=by
 rw [drop_get h,skipL,skipL,if_pos h10,if_pos (by simp [whiB,h10])]
theorem skip_35 (h:l[q]?=some b) (h35:b.toNat=35):skipL true (l.drop q)=skipL false (l.drop q):=by
 rw [skip_ct h (by omega),skip_c h (by simp [whiB,h35]) h35]
theorem run_t {p:UInt8→Bool} (h:l[q]?=some b) (hp:p b=true):runL p (l.drop q)=runL p (l.drop (q+1))+1:=by
 rw [drop_get h,runL,if_pos hp]
theorem run_f {p:UInt8→Bool} (h:l[q]?=some b) (hp:p b=false):runL p (l.drop q)=0:=by
 rw [drop_get h,runL,if_neg (by simp [hp])]
theorem run_e {p:UInt8→Bool} (h:l.length≤q):runL p (l.drop q)=0:=by
 rw [drop_end h,runL]
def wrgB (l:List UInt8) (q:Nat) (b:UInt8):Bool:=(!whiB b && !decide (b.toNat=35)) && (!letB b && (!isDig b && decide (symL (l.drop q)=0)))
theorem wr_t (h:l[q]?=some b) (hp:wrgB l q b=true):wrL (l.drop q)=wrL (l.drop (q+1))+1:=by
 simp only [wrgB,drop_get h,Bool.and_eq_true,Bool.not_eq_true',decide_eq_false_iff_not,decide_eq_true_eq] at hp
 rw [drop_get h,wrL,if_pos ⟨hp.1,hp.2.1,hp.2.2.1,hp.2.2.2⟩]
theorem wr_f (h:l[q]?=some b) (hp:wrgB l q b=false):wrL (l.drop q)=0:=by
 rw [drop_get h,wrL,if_neg]
 rintro ⟨h1,h2,h3,h4⟩
 rw [← Bool.not_eq_true] at hp
 apply hp
 simp only [wrgB,drop_get h,Bool.and_eq_true,Bool.not_eq_true',decide_eq_false_iff_not,decide_eq_true_eq]
 exact ⟨h1,h2,h3,h4⟩
theorem wr_e (h:l.length≤q):wrL (l.drop q)=0:=by rw [drop_end h,wrL]
theorem tok_at (h:l[q]?=some b):tokL (l.drop q)=if letB b=true then (if (l.drop q).take (runL prtB (l.drop q))∈kwL then 2 else 1,runL prtB (l.drop q)) else if isDig b=true then (3,runL isDig (l.drop q)) else if 0 < symL (l.drop q) then (4,symL (l.drop q)) else (5,wrL (l.drop q)):=by
 rw [drop_get h,tokL_cons]
end
def atL (l:List UInt8) (q:Nat):Nat:=q+skipL false (l.drop q)
def endL (l:List UInt8) (q:Nat):Nat:=atL l q+(tokL (l.drop (atL l q))).2
theorem atL_le {l:List UInt8} {q:Nat} (h:q≤l.length):q≤atL l q∧atL l q≤l.length:=by
 have:=skipL_le false (l.drop q)
 simp at this
 unfold atL
 omega
theorem endL_gt {l:List UInt8} {q:Nat} (h:atL l q < l.length):atL l q < endL l q∧endL l q≤l.length:=by
 have h1:=tokL_le (l.drop (atL l q))
 simp at h1
 obtain ⟨b,hb⟩:∃ b,l[atL l q]?=some b:=⟨_,List.getElem?_eq_getElem h⟩
 have h2:(l.drop q).drop (skipL false (l.drop q))=b::l.drop (atL l q+1):=by
  rw [List.drop_drop,← drop_get hb];rfl
 obtain ⟨h3,h4⟩:=skip_stop (l.drop q) _ _ h2
 have h5:=tok_pos (r:=l.drop (atL l q+1)) h3 h4
 rw [← drop_get hb] at h5
 unfold endL
 omega
theorem scanL_s {l:List UInt8} {f q:Nat} (h:atL l q < l.length):scanL l (f+1) q=⟨(tokL (l.drop (atL l q))).1,q,atL l q,endL l q⟩::scanL l f (endL l q):=by
 rw [scanL,if_pos (by exact h)];rfl
theorem scanL_e {l:List UInt8} {f q:Nat} (h:¬ atL l q < l.length):scanL l (f+1) q=[⟨0,q,l.length,l.length⟩]:=by
 rw [scanL,if_neg (by exact h)]
theorem scanL_fuel {l:List UInt8}:∀ {f g q:Nat},q≤l.length→l.length < f+q→l.length < g+q→scanL l f q=scanL l g q
 | 0,_,q,h,hf,_=>by omega
 | _,0,q,h,_,hg=>by omega
 | f+1,g+1,q,h,hf,hg=>by
  by_cases ha:atL l q < l.length
  ·have h1:=endL_gt ha
   have h2:=(atL_le h).1
   rw [scanL_s ha,scanL_s ha,scanL_fuel (f:=f) (g:=g) h1.2 (by omega) (by omega)]
  ·rw [scanL_e ha,scanL_e ha]
def scanF (l:List UInt8) (q:Nat):List Tok:=scanL l (l.length+1 - q) q
theorem scanF_s {l:List UInt8} {q:Nat} (hq:q≤l.length) (h:atL l q < l.length):scanF l q=⟨(tokL (l.drop (atL l q))).1,q,atL l q,endL l q⟩::scanF l (endL l q):=by
 have h1:=endL_gt h
 have h2:=(atL_le hq).1
 unfold scanF
 rw [show l.length+1 - q=(l.length - q)+1 by omega,scanL_s h,scanL_fuel (f:=l.length - q) (g:=l.length+1 - endL l q) h1.2 (by omega) (by omega)]
theorem scanF_e {l:List UInt8} {q:Nat} (hq:q≤l.length) (h:¬ atL l q < l.length):scanF l q=[⟨0,q,l.length,l.length⟩]:=by
 unfold scanF
 rw [show l.length+1 - q=(l.length - q)+1 by omega,scanL_e h]
section
variable {S:List (List UInt8)} {k:Nat} {s t:List UInt8}
theorem sym_t (h:S[k]?=some s) (hp:s.length≤t.length∧t.take s.length=s):symG (S.drop k) t=s.length:=by
 rw [drop_get h,symG,if_pos hp]
theorem sym_f (h:S[k]?=some s) (hp:¬ (s.length≤t.length∧t.take s.length=s)):symG (S.drop k) t=symG (S.drop (k+1)) t:=by
 rw [drop_get h,symG,if_neg hp]
theorem sym_e (h:S.length≤k):symG (S.drop k) t=0:=by rw [drop_end h,symG]
end
end Go.Proofs.YtcpgmmlaimkojaaGreatDoor
namespace Go.Proofs.YtcpgmmlaimkojaaGreatDoor
structure Tb where
 name:ByteArray
 kind:Int
 cols:List Int
 lo:Int
 hi:Int
 first:Int
structure Tm where
 cell:Int
 factor:Int
deriving DecidableEq
structure Rw where
 terms:List Tm
 bound:Int
deriving DecidableEq
structure Cn where
 kind:Int
 fam:Int
 row:Rw
 first:Int
 size:Int
structure Opn where
 name:ByteArray
 ord:Bool
 sorts:List Int
structure Chg where
 cell:Int
 add:Int
structure Upd where
 kind:Int
 cell:Int
 value:Int
structure Eff where
 delta:List Chg
 hold:List Rw
 ups:List Upd
structure Actn where
 op:Int
 args:List Int
 eff:Eff
structure Hde where
 table:Int
 col:Int
 to:Int
structure Md where
 sorts:List Int
 tables:List Tb
 fams:List ByteArray
 cons:List Cn
 ops:List Opn
 acts:List Actn
 hides:List Hde
section
variable {α:Type} {p:Nat→α→Bool} {l:List α} {q:Nat} {x:α}
def allG (p:Nat→α→Bool):Nat→List α→Bool
 | _,[]=>true
 | i,x::r=>p i x && allG p (i+1) r
def allI (p:Nat→α→Bool) (l:List α):Bool:=allG p 0 l
theorem allG_hit (h:l[q]?=some x):allG p q (l.drop q)=(p q x && allG p (q+1) (l.drop (q+1))):=by rw [drop_get h];rfl
theorem allG_end (h:l.length≤q):allG p q (l.drop q)=true:=by rw [drop_end h];rfl
theorem allG_iff:∀ {l:List α} {q:Nat},allG p q l=true↔∀ k x,l[k]?=some x→p (q+k) x=true
 | [],q=>by simp [allG]
 | y::r,q=>by
  unfold allG
  rw [Bool.and_eq_true,allG_iff (l:=r) (q:=q+1)]
  constructor
  ·rintro ⟨h1,h2⟩ k x hx
   cases k with
   | zero=>cases hx;exact h1
   | succ k=>have:=h2 k x (by simpa using hx);rwa [show q+1+k=q+(k+1) by omega] at this
  ·intro h
   exact ⟨h 0 y rfl,fun k x hx=>by have:=h (k+1) x (by simpa using hx);rwa [show q+1+k=q+(k+1) by omega]⟩
theorem allI_iff:allI p l=true↔∀ k x,l[k]?=some x→p k x=true:=by
 unfold allI
 rw [allG_iff]
 simp
theorem any_hit (f:α→Bool) (h:l[q]?=some x):(l.drop q).any f=(f x || (l.drop (q+1)).any f):=by rw [drop_get h];rfl
theorem any_end (f:α→Bool) (h:l.length≤q):(l.drop q).any f=false:=by rw [drop_end h];rfl
theorem all_hit (f:α→Bool) (h:l[q]?=some x):(l.drop q).all f=(f x && (l.drop (q+1)).all f):=by rw [drop_get h];rfl
theorem alle (f:α→Bool) (h:l.length≤q):(l.drop q).all f=true:=by rw [drop_end h];rfl
end
def nmB (s:ByteArray):Bool:=nameL s.data.toList
def soundB (l:List Int):Bool:=l.all fun n=>decide (1≤n) && decide (n≤6)
def colOk (sizes:List Int) (c:Int):Bool:=decide (0≤c) && decide (c < sizes.length)
def prodC (sizes cols:List Int):Int:=cols.foldl (fun n c=>n * sizes.getD c.toNat 0) 1
def numberS (sizes cols:List Int):Int:=if (decide (cols.length≤3) && soundB sizes) && cols.all (colOk sizes) then prodC sizes cols else 0
def strictK (k:Int):Bool:=decide (k=0) || decide (k=1)
def rngOk (t:Tb):Bool:=(decide (t.lo≤t.hi) && (decide (-9999≤t.lo) && decide (t.hi≤9999))) && (!(decide (t.kind=0) || (decide (t.kind=2) || decide (t.kind=3))) || (decide (t.lo=0) && decide (t.hi=1)))
def cntOf (sizes:List Int) (s:Bool) (l:List Tb):Int:=l.foldl (fun n t=>if strictK t.kind=s then n+numberS sizes t.cols else n) 0
def tabOk (sizes:List Int) (l:List Tb) (i:Nat) (t:Tb):Bool:=
 (!(l.take i).any fun u=>decide (u.name=t.name)) && (nmB t.name && ((decide (0≤t.kind) && decide (t.kind≤5)) && (!decide (numberS sizes t.cols=0) && (rngOk t && decide (t.first=cntOf sizes (strictK t.kind) (l.take i))))))
def layB (sizes:List Int) (l:List Tb):Bool:=(decide (sizes.length≤4) && (soundB sizes && decide (l.length≤12))) && (allI (tabOk sizes l) l && (decide (cntOf sizes true l≤128) && decide (cntOf sizes false l≤64)))
def rngsT (sizes:List Int) (s:Bool) (t:Tb):List (Int×Int):=if strictK t.kind=s then List.replicate (numberS sizes t.cols).toNat (t.lo,t.hi) else []
def rngs (sizes:List Int) (l:List Tb) (s:Bool):List (Int×Int):=if layB sizes l then l.flatMap (rngsT sizes s) else []
def inT (sizes:List Int) (s:Bool) (c:Int) (t:Tb):Bool:=decide (strictK t.kind=s) && (decide (0≤c) && (decide (0≤c - t.first) && decide (c - t.first < numberS sizes t.cols)))
def findG (f:Tb→Bool):Nat→List Tb→Option (Nat×Tb)
 | _,[]=>none
 | i,t::r=>if f t=true then some (i,t) else findG f (i+1) r
def tabAt (sizes:List Int) (l:List Tb) (s:Bool) (c:Int):Option (Nat×Tb):=if layB sizes l then findG (inT sizes s c) 0 l else none
theorem findG_hit {f:Tb→Bool} {l:List Tb} {q:Nat} {t:Tb} (h:l[q]?=some t):findG f q (l.drop q)=if f t=true then some (q,t) else findG f (q+1) (l.drop (q+1)):=by rw [drop_get h];rfl
theorem findG_end {f:Tb→Bool} {l:List Tb} {q:Nat} (h:l.length≤q):findG f q (l.drop q)=none:=by rw [drop_end h];rfl
def nthG (sizes cols:List Int):Nat→Int→List Int→List Int
 | 0,_,r=>r
 | i+1,k,r=>nthG sizes cols i (k.tdiv (sizes.getD (cols.getD i 0).toNat 0)) (r.set i (k.tmod (sizes.getD (cols.getD i 0).toNat 0)))
def nthS (sizes cols:List Int) (k:Int):List Int:=nthG sizes cols cols.length k (List.replicate cols.length 0)
def btw (x m:Int):Bool:=decide (-m≤x) && decide (x≤m)
def termOk (n:Int) (l:List Tm) (i:Nat) (t:Tm):Bool:=(decide (0≤t.cell) && decide (t.cell < n)) && ((decide (i=0) || decide ((l.getD (i - 1) ⟨0,0⟩).cell < t.cell)) && (!decide (t.factor=0) && btw t.factor 1000))
def rowB (n:Int) (r:Rw):Bool:=allI (termOk n r.terms) r.terms && btw r.bound 1000000000
def graphT (sorts:List Int) (c:Cn) (t:Tb):Bool:=decide (t.kind=0) && (decide (t.cols.length=2) && (decide (t.cols.getD 0 0=t.cols.getD 1 0) && (decide (t.first=c.first) && decide (sorts.getD (t.cols.getD 0 0).toNat 0=c.size))))
def graphB (m:Md) (c:Cn):Bool:=(decide (c.row.terms.length=0) && decide (c.row.bound=0)) && m.tables.any (graphT m.sorts c)
def rowLo (i:Nat) (r:Int×Int):Rw:=⟨[⟨i,-1⟩],-r.1⟩
def rowHi (i:Nat) (r:Int×Int):Rw:=⟨[⟨i,1⟩],r.2⟩
def zRw:Rw:=⟨[],0⟩
def zCn:Cn:=⟨0,0,zRw,0,0⟩
def pairOk (cs:List Cn) (i:Nat) (r:Int×Int):Bool:=decide ((cs.getD (2 * i) zCn).row=rowLo i r) && decide ((cs.getD (2 * i+1) zCn).row=rowHi i r)
def conOk (m:Md) (n:Nat) (i:Nat) (c:Cn):Bool:=
 (decide (0≤c.fam) && decide (c.fam < m.fams.length)) && ((decide (c.kind=0) && (decide (c.first=0) && (decide (c.size=0) && rowB n c.row))) || (decide (2 * n≤i) && (decide (c.kind=1) && graphB m c)))
def consB (m:Md) (l:List (Int×Int)):Bool:=(decide (2 * l.length≤m.cons.length) && decide (m.cons.length≤512)) && (allI (pairOk m.cons) l && allI (conOk m l.length) m.cons)
def chgOk (n:Int) (l:List Chg) (i:Nat) (t:Chg):Bool:=(decide (0≤t.cell) && decide (t.cell < n)) && ((decide (i=0) || decide ((l.getD (i - 1) ⟨0,0⟩).cell < t.cell)) && (!decide (t.add=0) && btw t.add 1000000000))
def setK (k:Int):Bool:=decide (k=2) || decide (k=3)
def updT (u:Upd) (t:Tb):Bool:=if setK t.kind then ((decide (u.kind=0) || decide (u.kind=1)) && decide (u.value=0)) else (decide (u.kind=2) && (decide (t.lo≤u.value) && decide (u.value≤t.hi)))
def updOk (m:Md) (l:List Upd) (i:Nat) (u:Upd):Bool:=match tabAt m.sorts m.tables false u.cell with
 | some (_,t)=>(decide (i=0) || decide ((l.getD (i - 1) ⟨0,0,0⟩).cell < u.cell)) && updT u t
 | none=>false
def effB (m:Md) (n:Int) (x:Eff):Bool:=(allI (chgOk n x.delta) x.delta && (x.hold.all (rowB n) && allI (updOk m x.ups) x.ups)) && (decide (x.hold.length≤8) && decide (x.ups.length≤32))
def lessL:List Int→List Int→Bool
 | x::a,y::b=>if x=y then lessL a b else decide (x < y)
 | [],_::_=>true
 | _,[]=>false
def argOk (m:Md) (s a:Int):Bool:=if s < 0 then btw a 9999 else decide (0≤a) && decide (a < m.sorts.getD s.toNat 0)
def zOpn:Opn:=⟨⟨#[]⟩,false,[]⟩
def zActn:Actn:=⟨0,[],⟨[],[],[]⟩⟩
def actOk (m:Md) (n:Int) (i:Nat) (a:Actn):Bool:=
 (((decide (0≤a.op) && decide (a.op < m.ops.length)) && decide (a.args.length=(m.ops.getD a.op.toNat zOpn).sorts.length)) && allI (fun k x=>argOk m ((m.ops.getD a.op.toNat zOpn).sorts.getD k 0) x) a.args) &&
 ((decide (i=0) || (decide ((m.acts.getD (i - 1) zActn).op < a.op) || (decide ((m.acts.getD (i - 1) zActn).op=a.op) && lessL (m.acts.getD (i - 1) zActn).args a.args))) && effB m n a.eff)
def opOk (m:Md) (o:Opn):Bool:=(o.sorts.all fun s=>decide (-1≤s) && decide (s < m.sorts.length)) && decide (o.sorts.length≤3)
def distOk (l:List ByteArray) (i:Nat) (s:ByteArray):Bool:=nmB s && !(l.take i).any fun u=>decide (u=s)
def distB (l:List ByteArray):Bool:=allI (distOk l) l
def actsB (m:Md) (n:Int):Bool:=(m.ops.all (opOk m) && (decide (m.ops.length≤8) && (distB (m.ops.map (·.name)) && decide (m.acts.length≤256)))) && allI (actOk m n) m.acts
def zTb:Tb:=⟨⟨#[]⟩,0,[],0,0,0⟩
def idxOk (i:Int) (n:Nat):Bool:=decide (0≤i) && decide (i < n)
def hideOk (m:Md) (h:Hde):Bool:=(idxOk h.table m.tables.length && (idxOk h.to m.tables.length && !decide (h.table=h.to))) &&
 ((decide ((m.tables.getD h.table.toNat zTb).kind=0) && decide ((m.tables.getD h.to.toNat zTb).kind=0)) && (idxOk h.col (m.tables.getD h.table.toNat zTb).cols.length && (decide ((m.tables.getD h.to.toNat zTb).cols.length=1) && decide ((m.tables.getD h.to.toNat zTb).cols.getD 0 0=(m.tables.getD h.table.toNat zTb).cols.getD h.col.toNat 0))))
def leadsB (l:List Hde):Nat→Int→Int→Bool
 | 0,a,b=>decide (a=b)
 | n+1,a,b=>decide (a=b) || l.any fun h=>decide (h.table=a) && leadsB l n h.to b
def hidesB (m:Md):Bool:=decide (m.hides.length≤12) && (m.hides.all (hideOk m) && m.hides.all fun h=>!leadsB m.hides m.tables.length h.to h.table)
def modelB (m:Md):Bool:=((layB m.sorts m.tables && decide (m.fams.length≤24)) && distB m.fams) && (consB m (rngs m.sorts m.tables true) && (actsB m (rngs m.sorts m.tables true).length && hidesB m))
section
variable {S C:List Int}
theorem prodC_snoc {k:Nat} {c:Int} (h:C[k]?=some c):prodC S (C.take (k+1))=prodC S (C.take k) * S.getD c.toNat 0:=foldl_snoc _ _ h
theorem sound_at (hs:soundB S=true) {k:Nat} {n:Int} (h:S[k]?=some n):1≤n∧n≤6:=by
 have:=List.all_eq_true.1 hs n (List.mem_of_getElem? h)
 simpa using this
theorem col_at (hs:soundB S=true) {c:Int} (hc:colOk S c=true):1≤S.getD c.toNat 0∧S.getD c.toNat 0≤6:=by
 simp only [colOk,Bool.and_eq_true,decide_eq_true_eq] at hc
 obtain ⟨n,hn⟩:∃ n,S[c.toNat]?=some n:=⟨_,List.getElem?_eq_getElem (by omega)⟩
 rw [getD_get hn]
 exact sound_at hs hn
theorem prodF_bnd (hs:soundB S=true):∀ (C:List Int) (a b:Int),C.all (colOk S)=true→1≤a→a≤b→a≤C.foldl (fun n c=>n * S.getD c.toNat 0) a∧C.foldl (fun n c=>n * S.getD c.toNat 0) a≤b * 6 ^ C.length
 | [],a,b,_,_,h=>by simp;exact h
 | c::C,a,b,hc,ha,hb=>by
  simp only [List.all_cons,Bool.and_eq_true] at hc
  obtain ⟨h1,h2⟩:=col_at hs hc.1
  have e1:a * 1≤a * S.getD c.toNat 0:=Int.mul_le_mul_of_nonneg_left h1 (by omega)
  have e2:a * S.getD c.toNat 0≤b * 6:=Int.mul_le_mul hb h2 (by omega) (by omega)
  have:=prodF_bnd hs C (a * S.getD c.toNat 0) (b * 6) hc.2 (by omega) e2
  rw [List.foldl_cons,List.length_cons,Int.pow_succ]
  rw [Int.mul_assoc,Int.mul_comm 6] at this
  exact ⟨by omega,this.2⟩
theorem prodC_bnd (hs:soundB S=true) (hc:C.all (colOk S)=true) (hl:C.length≤3):1≤prodC S C∧prodC S C≤216:=by
 have h:=prodF_bnd hs C 1 1 hc (by omega) (by omega)
 refine ⟨h.1,Int.le_trans h.2 ?_⟩
 have:C.length=0∨C.length=1∨C.length=2∨C.length=3:=by omega
 rcases this with e|e|e|e <;> rw [e] <;> decide
theorem numberS_bnd (S C:List Int):0≤numberS S C∧numberS S C≤216:=by
 unfold numberS
 split
 ·rename_i h
  simp only [Bool.and_eq_true,decide_eq_true_eq] at h
  have:=prodC_bnd h.1.2 h.2 (by omega)
  omega
 ·omega
theorem cntF_bnd (s:Bool):∀ (l:List Tb) (a:Int),0≤a→a≤l.foldl (fun n t=>if strictK t.kind=s then n+numberS S t.cols else n) a∧l.foldl (fun n t=>if strictK t.kind=s then n+numberS S t.cols else n) a≤a+216 * l.length
 | [],a,h=>by simp
 | t::l,a,h=>by
  have hb:=numberS_bnd S t.cols
  rw [List.foldl_cons,List.length_cons]
  split
  ·have:=cntF_bnd s l (a+numberS S t.cols) (by omega)
   omega
  ·have:=cntF_bnd s l a h
   omega
theorem cnt_bnd (s:Bool) (l:List Tb):0≤cntOf S s l∧cntOf S s l≤216 * l.length:=by
 have:=cntF_bnd (S:=S) s l 0 (by omega)
 unfold cntOf
 omega
theorem cnt_snoc (s:Bool) {l:List Tb} {k:Nat} {t:Tb} (h:l[k]?=some t):cntOf S s (l.take (k+1))=if strictK t.kind=s then cntOf S s (l.take k)+numberS S t.cols else cntOf S s (l.take k):=foldl_snoc _ _ h
end
end Go.Proofs.YtcpgmmlaimkojaaGreatDoor
namespace Go.Proofs.YtcpgmmlaimkojaaGreatDoor
theorem flat_snoc {α β:Type} {f:α→List β} {l:List α} {q:Nat} {x:α} (h:l[q]?=some x):(l.take (q+1)).flatMap f=(l.take q).flatMap f++f x:=by
 rw [List.take_add_one,h]
 simp
theorem repl_snoc {α:Type} (n:Nat) (x:α):List.replicate (n+1) x=List.replicate n x++[x]:=List.replicate_succ'
theorem rngsT_len (S:List Int) (s:Bool) (t:Tb):(rngsT S s t).length=if strictK t.kind=s then (numberS S t.cols).toNat else 0:=by
 unfold rngsT
 split <;> simp
theorem rngsF_len (S:List Int) (s:Bool):∀ (l:List Tb) (a:Int),a+(l.flatMap (rngsT S s)).length=l.foldl (fun n t=>if strictK t.kind=s then n+numberS S t.cols else n) a
 | [],a=>by simp
 | t::l,a=>by
  have hb:=numberS_bnd S t.cols
  have hl:=rngsT_len S s t
  have ih:=rngsF_len S s l (if strictK t.kind=s then a+numberS S t.cols else a)
  rw [List.flatMap_cons,List.foldl_cons,← ih,List.length_append,hl]
  split <;> omega
theorem rngsC_len (S:List Int) (s:Bool) (l:List Tb):((l.flatMap (rngsT S s)).length:Int)=cntOf S s l:=by
 have:=rngsF_len S s l 0
 unfold cntOf
 omega
theorem rngsT_le (S:List Int) (s:Bool) (l:List Tb):(l.flatMap (rngsT S s)).length≤216 * l.length:=by
 have:=rngsC_len S s l
 have:=cnt_bnd (S:=S) s l
 omega
theorem lay_cnt {S:List Int} {L:List Tb} (h:layB S L=true):cntOf S true L≤128∧cntOf S false L≤64:=by
 simp only [layB,Bool.and_eq_true,decide_eq_true_eq] at h
 exact ⟨h.2.2.1,h.2.2.2⟩
theorem lay_few {S:List Int} {L:List Tb} (h:layB S L=true):S.length≤4∧L.length≤12:=by
 simp only [layB,Bool.and_eq_true,decide_eq_true_eq] at h
 exact ⟨h.1.1,h.1.2.2⟩
theorem lay_sound {S:List Int} {L:List Tb} (h:layB S L=true):soundB S=true:=by
 simp only [layB,Bool.and_eq_true,decide_eq_true_eq] at h
 exact h.1.2.1
theorem lay_tab {S:List Int} {L:List Tb} (h:layB S L=true) {k:Nat} {t:Tb} (ht:L[k]?=some t):tabOk S L k t=true:=by
 simp only [layB,Bool.and_eq_true] at h
 exact allI_iff.1 h.2.1 k t ht
theorem rngs_len (S:List Int) (L:List Tb) (s:Bool):(rngs S L s).length≤128:=by
 unfold rngs
 split
 ·rename_i h
  have h1:=rngsC_len S s L
  have h2:=lay_cnt h
  cases s <;> omega
 ·simp
theorem num_cols {S C:List Int} (h:numberS S C≠0):C.length≤3∧soundB S=true∧C.all (colOk S)=true:=by
 unfold numberS at h
 split at h
 ·rename_i h'
  simpa [Bool.and_eq_true,and_assoc] using h'
 ·exact absurd rfl h
theorem lay_cols {S:List Int} {L:List Tb} (h:layB S L=true) {k:Nat} {t:Tb} (ht:L[k]?=some t):t.cols.length≤3∧soundB S=true∧t.cols.all (colOk S)=true:=by
 have h1:=lay_tab h ht
 simp only [tabOk,Bool.and_eq_true,Bool.not_eq_true',decide_eq_false_iff_not] at h1
 exact num_cols h1.2.2.2.1
theorem lay_rng {S:List Int} {L:List Tb} (h:layB S L=true) {k:Nat} {t:Tb} (ht:L[k]?=some t):t.lo≤t.hi ∧ -9999≤t.lo∧t.hi≤9999:=by
 have h1:=lay_tab h ht
 simp only [tabOk,rngOk,Bool.and_eq_true,Bool.not_eq_true',decide_eq_false_iff_not,decide_eq_true_eq] at h1
 exact h1.2.2.2.2.1.1
theorem rngs_bnd {S:List Int} {L:List Tb} {s:Bool} {r:Int×Int} (hr:r∈rngs S L s):r.1≤r.2 ∧ -9999≤r.1∧r.2≤9999:=by
 unfold rngs at hr
 split at hr
 ·rename_i h
  obtain ⟨t,ht,hm⟩:=List.mem_flatMap.1 hr
  obtain ⟨k,hk,rfl⟩:=List.getElem_of_mem ht
  unfold rngsT at hm
  split at hm
  ·obtain ⟨_,rfl⟩:=List.mem_replicate.1 hm
   exact lay_rng h (List.getElem?_eq_getElem hk)
  ·cases hm
 ·cases hr
theorem tab_some {S:List Int} {s:Bool} {c:Int}:∀ {l:List Tb} {q i:Nat} {t:Tb},findG (inT S s c) q l=some (i,t)→q≤i∧l[i - q]?=some t∧inT S s c t=true
 | [],_,_,_,h=>by cases h
 | u::l,q,i,t,h=>by
  unfold findG at h
  split at h
  ·rename_i hu
   cases h
   exact ⟨Nat.le_refl _,by simp,hu⟩
  ·obtain ⟨h1,h2,h3⟩:=tab_some h
   refine ⟨by omega,?_,h3⟩
   rw [show i - q=(i - (q+1))+1 by omega]
   simpa using h2
theorem tabAt_some {S:List Int} {L:List Tb} {s:Bool} {c:Int} {i:Nat} {t:Tb} (h:tabAt S L s c=some (i,t)):layB S L=true∧L[i]?=some t∧inT S s c t=true:=by
 unfold tabAt at h
 split at h
 ·rename_i hl
  have:=tab_some h
  exact ⟨hl,this.2.1,this.2.2⟩
 ·cases h
end Go.Proofs.YtcpgmmlaimkojaaGreatDoor
namespace Go.Proofs.YtcpgmmlaimkojaaGreatDoor
section
variable {α:Type}
structure Ordr (lt:α→α→Bool):Prop where
 asym:∀ a b,lt a b=true→lt b a=false
 ntr:∀ a b c,lt a b=false→lt b c=false→lt a c=false
variable (lt:α→α→Bool)
variable {lt}
end
end Go.Proofs.YtcpgmmlaimkojaaGreatDoor
namespace Go.Proofs.YtcpgmmlaimkojaaGreatDoor
def sg (a b:Int):Int:=if a < b then -1 else if b < a then 1 else 0
section
variable {α:Type} (lt:α→α→Bool)
end
section
variable {α:Type}
end
end Go.Proofs.YtcpgmmlaimkojaaGreatDoor
namespace Go.Proofs.YtcpgmmlaimkojaaGreatDoor
def nm (e:Ev):Int×Int:=(e.r,e.n)
def befB (a b:Ev):Bool:=formB a && (formB b && hasS b.past a.r a.n)
structure ClosedP (l:List Ev):Prop where
 few:l.length≤1024
 form:∀ e∈l,formB e=true
 alike:∀ e∈l,∀ x∈l,e.past.length=x.past.length
 names:(l.map nm).Nodup
 down:∀ e∈l,∀ r n,hasS e.past r n=true→∃ x∈l,nm x=(r,n)∧insideB x.past e.past=true∧x.t < e.t
open Classical in
section
open Classical
end
section
variable {α:Type} [DecidableEq α]
end
def nIn (l:List Ev) (e:Ev):Nat:=l.countP fun x=>befB x e
structure ClosedR (l:List Ev) (e:Ev):Prop where
 inside:∀ x∈l,befB x e=true→insideB x.past e.past=true∧x.t < e.t
 count:(nIn l e:Int)=countS e.past
end Go.Proofs.YtcpgmmlaimkojaaGreatDoor
namespace Go.Proofs.YtcpgmmlaimkojaaGreatDoor
section
variable {α:Type} {lt:α→α→Bool}
end
section
variable {l:List Ev} (h:ClosedP l)
include h
end
end Go.Proofs.YtcpgmmlaimkojaaGreatDoor
namespace Go.Proofs.YtcpgmmlaimkojaaGreatDoor
theorem getD_set_ne {l:List Int} {i j:Nat} {x:Int} (h:i≠j):(l.set i x).getD j 0=l.getD j 0:=by
 rw [List.getD_eq_getElem?_getD,List.getD_eq_getElem?_getD,List.getElem?_set_ne h]
structure Wr where
 e:Ev
 u:Upd
section
variable {W:List Wr} {w:Wr} (h1:∀ x∈W,hasS w.e.past x.e.r x.e.n=true) (h2:∀ x∈W,hasS x.e.past w.e.r w.e.n=false) (h3:hasS w.e.past w.e.r w.e.n=false) (h4:∀ x∈W,x.e.t < w.e.t)
include h2 h3 in
end
end Go.Proofs.YtcpgmmlaimkojaaGreatDoor
namespace Go.Proofs.YtcpgmmlaimkojaaGreatDoor
def sinkB (l:List Hde) (O:List Int) (t:Int):Bool:=!l.any fun h=>decide (h.table=t) && decide (h.to∈O)
theorem sinkB_iff {l:List Hde} {O:List Int} {t:Int}:sinkB l O t=true↔∀ h∈l,h.table=t→h.to ∉ O:=by
 unfold sinkB
 rw [Bool.not_eq_true',← Bool.not_eq_true,List.any_eq_true]
 constructor
 ·intro h x hx ht ho
  exact h ⟨x,hx,by simp [ht,ho]⟩
 ·rintro h ⟨x,hx,hb⟩
  simp only [Bool.and_eq_true,decide_eq_true_eq] at hb
  exact h x hx hb.1 hb.2
theorem leads_0 {l:List Hde} {a b:Int}:leadsB l 0 a b=true↔a=b:=by simp [leadsB]
theorem leads_s {l:List Hde} {n:Nat} {a b:Int}:leadsB l (n+1) a b=true↔a=b∨∃ h∈l,h.table=a∧leadsB l n h.to b=true:=by
 show (decide (a=b) || l.any fun h=>decide (h.table=a) && leadsB l n h.to b)=true↔_
 rw [Bool.or_eq_true,decide_eq_true_eq,List.any_eq_true]
 simp only [Bool.and_eq_true,decide_eq_true_eq]
theorem leads_refl {l:List Hde} (n:Nat) (a:Int):leadsB l n a a=true:=by
 cases n with
 | zero=>exact leads_0.2 rfl
 | succ n=>exact leads_s.2 (.inl rfl)
theorem leads_app {l:List Hde} {h:Hde} (hh:h∈l):∀ {n:Nat} {a:Int},leadsB l n a h.table=true→leadsB l (n+1) a h.to=true
 | 0,a,hl=>by
  have:=leads_0.1 hl
  exact leads_s.2 (.inr ⟨h,hh,this.symm,leads_refl _ _⟩)
 | n+1,a,hl=>by
  rcases leads_s.1 hl with rfl|⟨x,hx,ht,hl'⟩
  ·exact leads_s.2 (.inr ⟨h,hh,rfl,leads_refl _ _⟩)
  ·exact leads_s.2 (.inr ⟨x,hx,ht,leads_app hh hl'⟩)
def onC (l:List Hde) (h:Hde) (x:Int):Prop:=(∃ i,leadsB l i h.to x=true)∧∃ j,leadsB l j x h.table=true
theorem onC_next {l:List Hde} {h:Hde} {n:Nat} (hh:h∈l) (hc:leadsB l n h.to h.table=true) {x:Int} (hx:onC l h x):∃ g∈l,g.table=x∧onC l h g.to:=by
 obtain ⟨⟨i,hi⟩,j,hj⟩:=hx
 cases j with
 | zero=>
  have:=leads_0.1 hj
  exact ⟨h,hh,this.symm,⟨0,leads_refl _ _⟩,n,hc⟩
 | succ j=>
  rcases leads_s.1 hj with rfl|⟨g,hg,hgt,hgl⟩
  ·exact ⟨h,hh,rfl,⟨0,leads_refl _ _⟩,n,hc⟩
  ·exact ⟨g,hg,hgt,⟨i+1,leads_app hg (by rw [hgt];exact hi)⟩,j,hgl⟩
theorem onC_keep {l:List Hde} {h:Hde} {n:Nat} (hh:h∈l) (hc:leadsB l n h.to h.table=true) {O:List Int} (hO:∀ x,onC l h x→x∈O) {t:Int} (ht:onC l h t):sinkB l O t=false:=by
 rw [← Bool.not_eq_true,sinkB_iff]
 intro hs
 obtain ⟨g,hg,hgt,hgc⟩:=onC_next hh hc ht
 exact hs g hg hgt (hO _ hgc)
theorem onC_self {l:List Hde} {h:Hde} {n:Nat} (hc:leadsB l n h.to h.table=true):onC l h h.table:=⟨⟨n,hc⟩,0,leads_refl _ _⟩
theorem nodup_le:∀ (n:Nat) (l:List Int),l.Nodup→(∀ x∈l,0≤x∧x < (n:Int))→l.length≤n
 | 0,[],_,_=>Nat.le_refl _
 | 0,x::l,_,h=>by have:=h x (by simp);omega
 | n+1,l,hd,h=>by
  have h1:(l.erase (n:Int)).length≤n:=nodup_le n _ (hd.erase _) fun x hx=>by
   have h2:=(hd.mem_erase_iff).1 hx
   have h3:=h x h2.2
   omega
  have h4:=List.length_erase (a:=(n:Int)) (l:=l)
  split at h4 <;> omega
theorem nodup_at:∀ {w:List Int},(∀ (i j:Nat) (x:Int),i < j→w[i]?=some x→w[j]?=some x→False)→w.Nodup
 | [],_=>List.nodup_nil
 | x::w,h=>List.nodup_cons.2 ⟨fun hm=>by
   obtain ⟨j,hj⟩:=List.mem_iff_getElem?.1 hm
   exact h 0 (j+1) x (by omega) rfl (by simpa using hj),nodup_at fun i j y hij hi hj=>h (i+1) (j+1) y (by omega) (by simpa using hi) (by simpa using hj)⟩
theorem walk_on {l:List Hde} {O:List Int} (hno:∀ t∈O,sinkB l O t=false):∀ (k:Nat) (t:Int),t∈O→∃ w:List Int,w.length=k+1∧w.head?=some t∧(∀ x∈w,x∈O)∧∀ i x y,w[i]?=some x→w[i+1]?=some y→∃ g∈l,g.table=x∧g.to=y
 | 0,t,ht=>⟨[t],rfl,rfl,by simpa using ht,fun i x y h1 h2=>by simp at h2⟩
 | k+1,t,ht=>by
  have hs:=hno t ht
  rw [← Bool.not_eq_true,sinkB_iff] at hs
  have:∃ h∈l,h.table=t∧h.to∈O:=by
   apply Classical.byContradiction
   intro hn
   exact hs fun h hh hht hto=>hn ⟨h,hh,hht,hto⟩
  obtain ⟨g,hg,hgt,hgo⟩:=this
  obtain ⟨w,h1,h2,h3,h4⟩:=walk_on hno k g.to hgo
  refine ⟨t::w,by simp [h1],rfl,fun x hx=>?_,fun i x y hx hy=>?_⟩
  ·rcases List.mem_cons.1 hx with rfl|hx
   ·exact ht
   ·exact h3 x hx
  ·cases i with
   | zero=>
    simp at hx hy
    subst hx
    refine ⟨g,hg,hgt,?_⟩
    have:w.head?=some y:=by rw [← hy];cases w <;> rfl
    rw [h2] at this
    exact Option.some.inj this
   | succ i=>exact h4 i x y (by simpa using hx) (by simpa using hy)
theorem walk_leads {l:List Hde} {w:List Int} (h4:∀ i x y,w[i]?=some x→w[i+1]?=some y→∃ g∈l,g.table=x∧g.to=y):∀ (d i:Nat) (x y:Int),w[i]?=some x→w[i+d]?=some y→leadsB l d x y=true
 | 0,i,x,y,hx,hy=>by
  rw [Nat.add_zero,hx] at hy
  cases hy
  exact leads_refl _ _
 | d+1,i,x,y,hx,hy=>by
  have hlt:i+1 < w.length:=by have:=lt_of_get hy;omega
  obtain ⟨z,hz⟩:=get_of_lt hlt
  obtain ⟨g,hg,hgt,hgo⟩:=h4 i x z hx hz
  exact leads_s.2 (.inr ⟨g,hg,hgt,walk_leads h4 d (i+1) g.to y (by rw [hgo];exact hz) (by rw [show i+1+d=i+(d+1) by omega];exact hy)⟩)
theorem leads_mono {l:List Hde}:∀ {n m:Nat} {a b:Int},n≤m→leadsB l n a b=true→leadsB l m a b=true
 | 0,m,a,b,_,h=>by rw [leads_0.1 h];exact leads_refl _ _
 | n+1,0,a,b,h,_=>by omega
 | n+1,m+1,a,b,hm,h=>by
  rcases leads_s.1 h with rfl|⟨g,hg,hgt,hgl⟩
  ·exact leads_refl _ _
  ·exact leads_s.2 (.inr ⟨g,hg,hgt,leads_mono (by omega) hgl⟩)
theorem has_sink {l:List Hde} {n:Nat} (hac:∀ h∈l,leadsB l n h.to h.table=false) {O:List Int} (hO:∀ t∈O,0≤t∧t < n) (hne:O≠[]):∃ t∈O,sinkB l O t=true:=by
 apply Classical.byContradiction
 intro hn
 have hno:∀ t∈O,sinkB l O t=false:=fun t ht=>by
  rw [← Bool.not_eq_true]
  exact fun h=>hn ⟨t,ht,h⟩
 obtain ⟨t,O',rfl⟩:∃ t O',O=t::O':=by
  cases O with
  | nil=>exact absurd rfl hne
  | cons t O'=>exact ⟨t,O',rfl⟩
 obtain ⟨w,h1,_,h3,h4⟩:=walk_on hno n t (by simp)
 have hnd:¬ w.Nodup:=fun hd=>by
  have:=nodup_le n w hd fun x hx=>hO x (h3 x hx)
  omega
 have:∃ (i j:Nat) (x:Int),i < j∧w[i]?=some x∧w[j]?=some x:=by
  apply Classical.byContradiction
  intro hno2
  exact hnd (nodup_at fun i j x hij hi hj=>hno2 ⟨i,j,x,hij,hi,hj⟩)
 obtain ⟨i,j,x,hij,hi,hj⟩:=this
 have hjl:=lt_of_get hj
 obtain ⟨y,hy⟩:=get_of_lt (xs:=w) (k:=i+1) (by omega)
 obtain ⟨g,hg,hgt,hgo⟩:=h4 i x y hi hy
 have hl:=walk_leads h4 (j - (i+1)) (i+1) y x hy (by rw [show i+1+(j - (i+1))=j by omega];exact hj)
 have hl':=leads_mono (m:=n) (by omega) hl
 rw [← hgt,← hgo] at hl'
 rw [hac g hg] at hl'
 cases hl'
def Cyc (l:List Hde) (n:Nat) (O:List Int):Prop:=∀ h∈l,leadsB l n h.to h.table=true→∀ x,onC l h x→x∈O
structure PassI (l:List Hde) (n:Nat) (O seen cur:List Int):Prop where
 sub:cur.Sublist O
 gone:∀ t∈seen,sinkB l O t=true→t ∉ cur
 cyc:Cyc l n O→Cyc l n cur
theorem PassI.start {l:List Hde} {n:Nat} {O:List Int}:PassI l n O [] O:=⟨List.Sublist.refl _,fun _ h=>absurd h (by simp),id⟩
theorem sink_sub {l:List Hde} {O cur:List Int} {t:Int} (h:∀ x∈cur,x∈O) (hs:sinkB l O t=true):sinkB l cur t=true:=by
 rw [sinkB_iff] at hs ⊢
 exact fun g hg hgt hc=>hs g hg hgt (h _ hc)
theorem PassI.keep {l:List Hde} {n:Nat} {O seen cur:List Int} {t:Int} (h:PassI l n O seen cur) (hs:sinkB l cur t=false):PassI l n O (t::seen) cur where
 sub:=h.sub
 gone:=fun x hx hO=>by
  rcases List.mem_cons.1 hx with rfl|hx
  ·exact absurd (sink_sub (fun y hy=>h.sub.subset hy) hO) (by rw [hs];decide)
  ·exact h.gone x hx hO
 cyc:=h.cyc
theorem PassI.drop {l:List Hde} {n:Nat} {O seen cur:List Int} {t:Int} (h:PassI l n O seen cur) (hs:sinkB l cur t=true):PassI l n O (t::seen) (cur.filter fun x=>!decide (x=t)) where
 sub:=(List.filter_sublist).trans h.sub
 gone:=fun x hx hO hm=>by
  obtain ⟨hm1,hm2⟩:=List.mem_filter.1 hm
  rcases List.mem_cons.1 hx with rfl|hx
  ·simp at hm2
  ·exact h.gone x hx hO hm1
 cyc:=fun hO g hg hc x hx=>by
  have hcur:=h.cyc hO
  refine List.mem_filter.2 ⟨hcur g hg hc x hx,?_⟩
  have:x≠t:=by
   rintro rfl
   rw [onC_keep hg hc (hcur g hg hc) hx] at hs
   cases hs
  simpa using this
structure InvH (l:List Hde) (n k:Nat) (O:List Int):Prop where
 dif:O.Nodup
 rng:∀ t∈O,0≤t∧t < n
 few:(∀ h∈l,leadsB l n h.to h.table=false)→O.length≤l.length - k
 cyc:Cyc l n O
theorem InvH.pass {l:List Hde} {n k:Nat} {O seen cur:List Int} (h:InvH l n k O) (hP:PassI l n O seen cur) (hall:∀ t∈cur,t∈seen):InvH l n (k+1) cur where
 dif:=hP.sub.nodup h.dif
 rng:=fun t ht=>h.rng t (hP.sub.subset ht)
 few:=fun hac=>by
  have hle:=h.few hac
  have hsl:=hP.sub.length_le
  rcases Nat.lt_or_ge cur.length O.length with hlt|hge
  ·omega
  ·have he:cur=O:=hP.sub.eq_of_length (by omega)
   by_cases hne:O=[]
   ·rw [he,hne];simp
   ·obtain ⟨t,ht,hs⟩:=has_sink hac h.rng hne
    exact absurd ht (by rw [← he];exact hP.gone t (hall t (by rw [he];exact ht)) hs)
 cyc:=hP.cyc h.cyc
theorem InvH.done {l:List Hde} {n:Nat} {O:List Int} (h:InvH l n l.length O):decide (O.length=0)=l.all fun g=>!leadsB l n g.to g.table:=by
 cases hb:l.all fun g=>!leadsB l n g.to g.table with
 | true=>
  have hac:∀ g∈l,leadsB l n g.to g.table=false:=fun g hg=>by simpa using List.all_eq_true.1 hb g hg
  have:=h.few hac
  exact decide_eq_true (by omega)
 | false=>
  rw [← Bool.not_eq_true,List.all_eq_true] at hb
  have:∃ g∈l,leadsB l n g.to g.table=true:=by
   apply Classical.byContradiction
   intro hn
   apply hb
   intro g hg
   cases hc:leadsB l n g.to g.table with
   | false=>rfl
   | true=>exact absurd ⟨g,hg,hc⟩ hn
  obtain ⟨g,hg,hc⟩:=this
  have hm:=h.cyc g hg hc _ (onC_self hc)
  have:O.length≠0:=by intro h0;rw [List.length_eq_zero_iff.1 h0] at hm;cases hm
  simpa using this
end Go.Proofs.YtcpgmmlaimkojaaGreatDoor
