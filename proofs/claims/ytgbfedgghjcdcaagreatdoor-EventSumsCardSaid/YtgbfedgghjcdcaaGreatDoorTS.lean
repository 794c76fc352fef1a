/- The plain functions that the clocks' texts compute,with no program in sight. No condition. -/
import Derived.Test.YtgbfedgghjcdcaaGreatDoorBase5
import Derived.Lib.ItoaNum
import Derived.Lib.Join
import Derived.Lib.AtoiTie
import Derived.Lib.SplitLaws
import Derived.Lib.Split
import Derived.Lib.Strings
import Derived.Lib.IndexLaws
import Derived.IntWalk
set_option linter.unusedSimpArgs false
set_option linter.unusedVariables false
set_option linter.unusedSectionVars false
namespace Go.Proofs.YtgbfedgghjcdcaaGreatDoor
def ok1 (n:Int):Bool:=decide (0≤n) && decide (n≤1024)
def validB (xs:List Int):Bool:=xs.all ok1 && decide (1≤xs.length) && decide (xs.length≤5)
def le2 (p:Int×Int):Bool:=decide (p.1≤p.2)
def insideB (a b:List Int):Bool:=(a.zip b).all le2
def al1 (n:Nat) (c:List Int):Bool:=validB c && decide (c.length=n)
def alikeB (l:List (List Int)):Bool:=l.all (al1 (l.headD []).length) && decide (0 < l.length)
def compareS (a b:List Int):Int×Int:=if alikeB [a,b] then (if insideB a b then (if insideB b a then (0,0) else (1,0)) else (if insideB b a then (2,0) else (3,0))) else (0,1)
theorem alike_len {a b:List Int} (h:alikeB [a,b]=true):a.length=b.length:=by
 simp [alikeB,al1] at h;omega
theorem headD_of {α:Type} {l:List α} {x d:α} (h:l[0]?=some x):l.headD d=x:=by
 cases l with
 | nil=>simp at h
 | cons y t=>simpa using h
theorem zip_get {α β:Type} {a:List α} {b:List β} {k:Nat} {x:α} {y:β} (hx:a[k]?=some x) (hy:b[k]?=some y):(a.zip b)[k]?=some (x,y):=by
 rw [List.getElem?_zip_eq_some];exact ⟨hx,hy⟩
theorem foldl_snoc {α β:Type} (g:β→α→β) (b:β) {l:List α} {k:Nat} {x:α} (h:l[k]?=some x):(l.take (k+1)).foldl g b=g ((l.take k).foldl g b) x:=by
 rw [List.take_add_one,h];simp [List.foldl_append]
end Go.Proofs.YtgbfedgghjcdcaaGreatDoor
namespace Go.Proofs.YtgbfedgghjcdcaaGreatDoor
def sumL (xs:List Int):Int:=xs.foldl (·+·) 0
def countS (xs:List Int):Int:=if validB xs then sumL xs else 0
def hasS (c:List Int) (r n:Int):Bool:=validB c && (decide (0≤r) && (decide (r < c.length) && (decide (1≤n) && decide (n≤c.getD r.toNat 0))))
theorem ok1_of {n:Int} (h:ok1 n=true):0≤n∧n≤1024:=by simp [ok1] at h;omega
theorem ok1_at {xs:List Int} (h:validB xs=true) {k:Nat} {n:Int} (hn:xs[k]?=some n):0≤n∧n≤1024:=by
 simp only [validB,Bool.and_eq_true,List.all_eq_true] at h
 exact ok1_of (h.1.1 n (List.mem_of_getElem? hn))
structure Sp where
 r:Int
 f:Int
 t:Int
deriving DecidableEq
theorem getD_get {xs:List Int} {k:Nat} {n:Int} (h:xs[k]?=some n):xs.getD k 0=n:=by rw [List.getD_eq_getElem?_getD,h];rfl
end Go.Proofs.YtgbfedgghjcdcaaGreatDoor
namespace Go.Proofs.YtgbfedgghjcdcaaGreatDoor
def betB (n l h:Int):Bool:=decide (l≤n) && decide (n≤h)
def headOk (e:Ev):Bool:=validB e.past && (betB e.r 0 ((e.past.length:Int) - 1) && (decide (e.n=e.past.getD e.r.toNat 0+1) && (decide (e.n≤1024) && betB e.t 1 1073741824)))
def giveZ (e:Ev):Bool:=decide (e.gk=0) && (decide (e.gi=0) && (decide (e.ge=0) && (decide (e.ga=0) && decide (e.to=0))))
def actF (e:Ev):Bool:=betB e.a 0 255 && betB e.pl 0 1024 && betB e.se 1 1048576
def noteF (e:Ev):Bool:=betB e.pl 1 1024 && betB e.se 1 1048576
def giveF (e:Ev):Bool:=betB e.gk 0 1 && betB e.ge 0 (if e.gk=1 then 5 else 0) && betB e.gi 0 1023 && betB e.ga 1 1000000 && betB e.to 0 ((e.past.length:Int) - 1) && decide (e.to≠e.r)
def formB (e:Ev):Bool:=headOk e && (if e.k=0 then actF e && giveZ e else if e.k=1 then giveF e && (decide (e.a=0) && (decide (e.pl=0) && decide (e.se=0))) else if e.k=2 then noteF e && (decide (e.a=0) && giveZ e) else false)
end Go.Proofs.YtgbfedgghjcdcaaGreatDoor
namespace Go.Proofs.YtgbfedgghjcdcaaGreatDoor
open Go
end Go.Proofs.YtgbfedgghjcdcaaGreatDoor
namespace Go.Proofs.YtgbfedgghjcdcaaGreatDoor
open Go
def isDig (b:UInt8):Bool:=decide (48≤b.toNat) && decide (b.toNat≤57)
def dvF (a:Nat) (l:List UInt8):Nat:=l.foldl (fun a b=>10 * a+(b.toNat - 48)) a
def dv (l:List UInt8):Nat:=dvF 0 l
end Go.Proofs.YtgbfedgghjcdcaaGreatDoor
namespace Go.Proofs.YtgbfedgghjcdcaaGreatDoor
open Go
def atoiV (w:List UInt8):Int:=match Lib.atoiAll w with
 | .ok v=>v
 | .range=>Lib.atoiSat w
 | _=>0
structure Rng (e:Ev):Prop where
 vp:validB e.past=true
 r0:0≤e.r
 r1:e.r≤9999
 n0:0≤e.n
 n1:e.n≤9999
 t0:0≤e.t
 t1:e.t≤9999999999
 k:e.k=0∨e.k=1∨e.k=2
 k0:e.k=0→(0≤e.a∧e.a≤255∧0≤e.pl∧e.pl≤1024∧0≤e.se∧e.se≤1048576)∧e.gk=0∧e.gi=0∧e.ge=0∧e.ga=0∧e.to=0
 k2:e.k=2→(0≤e.pl∧e.pl≤1024∧0≤e.se∧e.se≤1048576)∧e.a=0∧e.gk=0∧e.gi=0∧e.ge=0∧e.ga=0∧e.to=0
 k1:e.k=1→((e.gk=0∨e.gk=1)∧0≤e.gi∧e.gi≤1023∧0≤e.ge∧e.ge≤5∧0≤e.ga∧e.ga≤1000000∧0≤e.to∧e.to≤9999)∧e.a=0∧e.pl=0∧e.se=0
def at0 (l:List Int) (k:Nat):Int:=l.getD k 0
end Go.Proofs.YtgbfedgghjcdcaaGreatDoor
namespace Go.Proofs.YtgbfedgghjcdcaaGreatDoor
open Go
def pos (c:UInt8) (s:List UInt8):Nat:=(s.takeWhile fun b=>b != c).length
end Go.Proofs.YtgbfedgghjcdcaaGreatDoor
namespace Go.Proofs.YtgbfedgghjcdcaaGreatDoor
def letB (b:UInt8):Bool:=decide (97≤b.toNat) && decide (b.toNat≤122)
def whiB (b:UInt8):Bool:=(decide (b.toNat=9) || decide (b.toNat=10)) || (decide (b.toNat=13) || decide (b.toNat=32))
def prtB (b:UInt8):Bool:=letB b || (isDig b || decide (b.toNat=95))
def skipL:Bool→List UInt8→Nat
 | _,[]=>0
 | true,b::r=>if b.toNat=10 then skipL false r+1 else skipL true r+1
 | false,b::r=>if whiB b=true then skipL false r+1 else if b.toNat=35 then skipL true r+1 else 0
def runL (p:UInt8→Bool):List UInt8→Nat
 | []=>0
 | b::r=>if p b=true then runL p r+1 else 0
def kwL:List (List UInt8):=[[115,111,114,116],[114,101,108,97,116,105,111,110],[99,111,117,110,116,101,114],[115,101,116],[114,101,103,105,115,116,101,114],[105,110,118,97,114,105,97,110,116],[111,112,101,114,97,116,105,111,110],[107,101,121],[114,101,102,101,114,101,110,99,101],[116,111],[99,111,117,110,116],[97,99,121,99,108,105,99],[97,108,108],[115,117,109],[105,110],[97,100,100,119,105,110,115],[114,101,109,111,118,101,119,105,110,115],[108,97,115,116],[109,117,108,116,105],[104,105,100,101],[111,114,100,101,114,101,100],[114,101,113,117,105,114,101],[104,111,108,100],[105,110,115,101,114,116],[100,101,108,101,116,101],[97,100,100],[102,114,111,109],[112,117,116],[100,114,111,112],[97,115,115,105,103,110],[102,111,114],[119,104,101,114,101],[97,110,100],[111,114],[110,111,116]]
def syL:List (List UInt8):=[[61,61],[33,61],[60,61],[62,61],[46,46],[60],[62],[61],[43],[45],[42],[40],[41],[123],[125],[44],[58],[59]]
def symG:List (List UInt8)→List UInt8→Nat
 | [],_=>0
 | s::r,t=>if s.length≤t.length∧t.take s.length=s then s.length else symG r t
def symL (t:List UInt8):Nat:=symG syL t
def wrL:List UInt8→Nat
 | []=>0
 | b::r=>if (whiB b=false∧b.toNat≠35)∧(letB b=false∧isDig b=false∧symL (b::r)=0) then wrL r+1 else 0
def tokL:List UInt8→Int×Nat
 | []=>(0,0)
 | b::r=>
  if letB b=true then (if (b::r).take (runL prtB (b::r))∈kwL then 2 else 1,runL prtB (b::r))
  else if isDig b=true then (3,runL isDig (b::r))
  else if 0 < symL (b::r) then (4,symL (b::r))
  else (5,wrL (b::r))
structure Tok where
 kind:Int
 frm:Nat
 at_:Nat
 end_:Nat
def scanL (l:List UInt8):Nat→Nat→List Tok
 | 0,_=>[]
 | f+1,q=>if q+skipL false (l.drop q) < l.length then ⟨(tokL (l.drop (q+skipL false (l.drop q)))).1,q,q+skipL false (l.drop q),q+skipL false (l.drop q)+(tokL (l.drop (q+skipL false (l.drop q)))).2⟩::scanL l f (q+skipL false (l.drop q)+(tokL (l.drop (q+skipL false (l.drop q)))).2) else [⟨0,q,l.length,l.length⟩]
def scanA (l:List UInt8):List Tok:=scanL l (l.length+1) 0
def kindL (l:List UInt8):Int:=if 4096 < l.length then 0 else match scanA l with
 | [t,_]=>if t.at_=0∧t.end_=l.length then t.kind else 0
 | _=>0
def nameL (l:List UInt8):Bool:=decide (kindL l=1) && decide (l.length≤16)
theorem skipL_le:∀ (c:Bool) (l:List UInt8),skipL c l≤l.length
 | _,[]=>by simp [skipL]
 | true,b::r=>by
  unfold skipL
  have h1:=skipL_le false r
  have h2:=skipL_le true r
  split <;> simp <;> omega
 | false,b::r=>by
  unfold skipL
  have h1:=skipL_le false r
  have h2:=skipL_le true r
  split
  ·simp;omega
  ·split <;> simp;omega
theorem runL_le (p:UInt8→Bool):∀ (l:List UInt8),runL p l≤l.length
 | []=>by simp [runL]
 | b::r=>by
  unfold runL
  have h1:=runL_le p r
  split <;> simp;omega
theorem symG_le:∀ (S:List (List UInt8)) (t:List UInt8),symG S t≤t.length
 | [],_=>by simp [symG]
 | s::r,t=>by
  unfold symG
  split
  ·rename_i h;exact h.1
  ·exact symG_le r t
theorem wrL_le:∀ (l:List UInt8),wrL l≤l.length
 | []=>by simp [wrL]
 | b::r=>by
  unfold wrL
  have h1:=wrL_le r
  split <;> simp;omega
theorem tokL_cons (b:UInt8) (r:List UInt8):tokL (b::r)=if letB b=true then (if (b::r).take (runL prtB (b::r))∈kwL then 2 else 1,runL prtB (b::r)) else if isDig b=true then (3,runL isDig (b::r)) else if 0 < symL (b::r) then (4,symL (b::r)) else (5,wrL (b::r)):=by rw [tokL]
theorem tokL_le (l:List UInt8):(tokL l).2≤l.length:=by
 cases l with
 | nil=>simp [tokL]
 | cons b r=>
  rw [tokL_cons]
  split
  ·exact runL_le _ (b::r)
  ·split
   ·exact runL_le _ (b::r)
   ·split
    ·exact symG_le _ (b::r)
    ·exact wrL_le (b::r)
theorem skip_stop:∀ (l:List UInt8),∀ b r,l.drop (skipL false l)=b::r→whiB b=false∧b.toNat≠35
 | l=>by
  suffices H:∀ (l:List UInt8) (c:Bool) b r,l.drop (skipL c l)=b::r→whiB b=false∧b.toNat≠35 from H l false
  intro l
  induction l with
  | nil=>intro c b r h;simp [skipL] at h
  | cons x l ih=>
   intro c b r h
   cases c with
   | true=>
    unfold skipL at h
    split at h
    ·exact ih false b r (by simpa using h)
    ·exact ih true b r (by simpa using h)
   | false=>
    unfold skipL at h
    split at h
    ·exact ih false b r (by simpa using h)
    ·split at h
     ·exact ih true b r (by simpa using h)
     ·rename_i h1 h2
      rw [List.drop_zero,List.cons.injEq] at h
      obtain ⟨rfl,_⟩:=h
      exact ⟨by simpa using h1,h2⟩
theorem tok_pos {b:UInt8} {r:List UInt8} (h1:whiB b=false) (h2:b.toNat≠35):0 < (tokL (b::r)).2:=by
 rw [tokL_cons]
 split
 ·rename_i h
  have:prtB b=true:=by simp [prtB,h]
  simp [runL,this]
 ·split
  ·rename_i h
   simp [runL,h]
  ·split
   ·rename_i h;exact h
   ·rename_i h3 h4 h5
    have h3:letB b=false:=by simpa using h3
    have h4:isDig b=false:=by simpa using h4
    show 0 < wrL (b::r)
    unfold wrL
    rw [if_pos ⟨⟨h1,h2⟩,h3,h4,by omega⟩]
    omega
section
variable {α:Type} {l:List α} {q:Nat} {x:α}
theorem drop_get (h:l[q]?=some x):l.drop q=x::l.drop (q+1):=by
 obtain ⟨hl,rfl⟩:=List.getElem?_eq_some_iff.1 h
 exact List.drop_eq_getElem_cons hl
theorem drop_end (h:l.length≤q):l.drop q=[]:=List.drop_of_length_le h
end
section
variable {l:List UInt8} {q:Nat} {b:UInt8}
theorem skip_w (h:l[q]?=some b) (hw:whiB b=true):skipL false (l.drop q)=skipL false (l.drop (q+1))+1:=by
 rw [drop_get h,skipL,if_pos hw]
theorem skip_c (h:l[q]?=some b) (hw:whiB b=false) (h35:b.toNat=35):skipL false (l.drop q)=skipL true (l.drop (q+1))+1:=by
 rw [drop_get h,skipL,if_neg (by simp [hw]),if_pos h35]
theorem skip_n (h:l[q]?=some b) (hw:whiB b=false) (h35:¬ b.toNat=35):skipL false (l.drop q)=0:=by
 rw [drop_get h,skipL,if_neg (by simp [hw]),if_neg h35]
theorem skip_e (c:Bool) (h:l.length≤q):skipL c (l.drop q)=0:=by
 rw [drop_end h,skipL]
theorem skip_ct (h:l[q]?=some b) (h10:¬ b.toNat=10):skipL true (l.drop q)=skipL true (l.drop (q+1))+1:=by
 rw [drop_get h,skipL,if_neg h10]
theorem skip_cn (h:l[q]?=some b) (h10:b.toNat=10):skipL true (l.drop q)=skipL false (l.drop q):=by
 rw [drop_get h,skipL,skipL,if_pos h10,if_pos (by simp [whiB,h10])]
theorem skip_35 (h:l[q]?=some b) (h35:b.toNat=35):skipL true (l.drop q)=skipL false (l.drop q):=by
 rw [skip_ct h (by omega),skip_c h (by simp [whiB,h35]) h35]
theorem run_t {p:UInt8→Bool} (h:l[q]?=some b) (hp:p b=true):runL p (l.drop q)=runL p (l.drop (q+1))+1:=by
 rw [drop_get h,runL,if_pos hp]
theorem run_f {p:UInt8→Bool} (h:l[q]?=some b) (hp:p b=false):runL p (l.drop q)=0:=by
 rw [drop_get h,runL,if_neg (by simp [hp])]
theorem run_e {p:UInt8→Bool} (h:l.length≤q):runL p (l.drop q)=0:=by
 rw [drop_end h,runL]
def wrgB (l:List UInt8) (q:Nat) (b:UInt8):Bool:=(!whiB b && !decide (b.toNat=35)) && (!letB b && (!isDig b && decide (symL (l.drop q)=0)))
theorem wr_t (h:l[q]?=some b) (hp:wrgB l q b=true):wrL (l.drop q)=wrL (l.drop (q+1))+1:=by
 simp only [wrgB,drop_get h,Bool.and_eq_true,Bool.not_eq_true',decide_eq_false_iff_not,decide_eq_true_eq] at hp
 rw [drop_get h,wrL,if_pos ⟨hp.1,hp.2.1,hp.2.2.1,hp.2.2.2⟩]
theorem wr_f (h:l[q]?=some b) (hp:wrgB l q b=false):wrL (l.drop q)=0:=by
 rw [drop_get h,wrL,if_neg]
 rintro ⟨h1,h2,h3,h4⟩
 rw [← Bool.not_eq_true] at hp
 apply hp
 simp only [wrgB,drop_get h,Bool.and_eq_true,Bool.not_eq_true',decide_eq_false_iff_not,decide_eq_true_eq]
 exact ⟨h1,h2,h3,h4⟩
theorem wr_e (h:l.length≤q):wrL (l.drop q)=0:=by rw [drop_end h,wrL]
theorem tok_at (h:l[q]?=some b):tokL (l.drop q)=if letB b=true then (if (l.drop q).take (runL prtB (l.drop q))∈kwL then 2 else 1,runL prtB (l.drop q)) else if isDig b=true then (3,runL isDig (l.drop q)) else if 0 < symL (l.drop q) then (4,symL (l.drop q)) else (5,wrL (l.drop q)):=by
 rw [drop_get h,tokL_cons]
end
def atL (l:List UInt8) (q:Nat):Nat:=q+skipL false (l.drop q)
def endL (l:List UInt8) (q:Nat):Nat:=atL l q+(tokL (l.drop (atL l q))).2
theorem atL_le {l:List UInt8} {q:Nat} (h:q≤l.length):q≤atL l q∧atL l q≤l.length:=by
 have:=skipL_le false (l.drop q)
 simp at this
 unfold atL
 omega
theorem endL_gt {l:List UInt8} {q:Nat} (h:atL l q < l.length):atL l q < endL l q∧endL l q≤l.length:=by
 have h1:=tokL_le (l.drop (atL l q))
 simp at h1
 obtain ⟨b,hb⟩:∃ b,l[atL l q]?=some b:=⟨_,List.getElem?_eq_getElem h⟩
 have h2:(l.drop q).drop (skipL false (l.drop q))=b::l.drop (atL l q+1):=by
  rw [List.drop_drop,← drop_get hb];rfl
 obtain ⟨h3,h4⟩:=skip_stop (l.drop q) _ _ h2
 have h5:=tok_pos (r:=l.drop (atL l q+1)) h3 h4
 rw [← drop_get hb] at h5
 unfold endL
 omega
theorem scanL_s {l:List UInt8} {f q:Nat} (h:atL l q < l.length):scanL l (f+1) q=⟨(tokL (l.drop (atL l q))).1,q,atL l q,endL l q⟩::scanL l f (endL l q):=by
 rw [scanL,if_pos (by exact h)];rfl
theorem scanL_e {l:List UInt8} {f q:Nat} (h:¬ atL l q < l.length):scanL l (f+1) q=[⟨0,q,l.length,l.length⟩]:=by
 rw [scanL,if_neg (by exact h)]
theorem scanL_fuel {l:List UInt8}:∀ {f g q:Nat},q≤l.length→l.length < f+q→l.length < g+q→scanL l f q=scanL l g q
 | 0,_,q,h,hf,_=>by omega
 | _,0,q,h,_,hg=>by omega
 | f+1,g+1,q,h,hf,hg=>by
  by_cases ha:atL l q < l.length
  ·have h1:=endL_gt ha
   have h2:=(atL_le h).1
   rw [scanL_s ha,scanL_s ha,scanL_fuel (f:=f) (g:=g) h1.2 (by omega) (by omega)]
  ·rw [scanL_e ha,scanL_e ha]
def scanF (l:List UInt8) (q:Nat):List Tok:=scanL l (l.length+1 - q) q
theorem scanF_s {l:List UInt8} {q:Nat} (hq:q≤l.length) (h:atL l q < l.length):scanF l q=⟨(tokL (l.drop (atL l q))).1,q,atL l q,endL l q⟩::scanF l (endL l q):=by
 have h1:=endL_gt h
 have h2:=(atL_le hq).1
 unfold scanF
 rw [show l.length+1 - q=(l.length - q)+1 by omega,scanL_s h,scanL_fuel (f:=l.length - q) (g:=l.length+1 - endL l q) h1.2 (by omega) (by omega)]
theorem scanF_e {l:List UInt8} {q:Nat} (hq:q≤l.length) (h:¬ atL l q < l.length):scanF l q=[⟨0,q,l.length,l.length⟩]:=by
 unfold scanF
 rw [show l.length+1 - q=(l.length - q)+1 by omega,scanL_e h]
section
variable {S:List (List UInt8)} {k:Nat} {s t:List UInt8}
theorem sym_t (h:S[k]?=some s) (hp:s.length≤t.length∧t.take s.length=s):symG (S.drop k) t=s.length:=by
 rw [drop_get h,symG,if_pos hp]
theorem sym_f (h:S[k]?=some s) (hp:¬ (s.length≤t.length∧t.take s.length=s)):symG (S.drop k) t=symG (S.drop (k+1)) t:=by
 rw [drop_get h,symG,if_neg hp]
theorem sym_e (h:S.length≤k):symG (S.drop k) t=0:=by rw [drop_end h,symG]
end
end Go.Proofs.YtgbfedgghjcdcaaGreatDoor
namespace Go.Proofs.YtgbfedgghjcdcaaGreatDoor
structure Tb where
 name:ByteArray
 kind:Int
 cols:List Int
 lo:Int
 hi:Int
 first:Int
structure Tm where
 cell:Int
 factor:Int
deriving DecidableEq
structure Rw where
 terms:List Tm
 bound:Int
deriving DecidableEq
structure Cn where
 kind:Int
 fam:Int
 row:Rw
 first:Int
 size:Int
structure Opn where
 name:ByteArray
 ord:Bool
 sorts:List Int
structure Chg where
 cell:Int
 add:Int
structure Upd where
 kind:Int
 cell:Int
 value:Int
structure Eff where
 delta:List Chg
 hold:List Rw
 ups:List Upd
structure Actn where
 op:Int
 args:List Int
 eff:Eff
structure Hde where
 table:Int
 col:Int
 to:Int
structure Md where
 sorts:List Int
 tables:List Tb
 fams:List ByteArray
 cons:List Cn
 ops:List Opn
 acts:List Actn
 hides:List Hde
section
variable {α:Type} {p:Nat→α→Bool} {l:List α} {q:Nat} {x:α}
def allG (p:Nat→α→Bool):Nat→List α→Bool
 | _,[]=>true
 | i,x::r=>p i x && allG p (i+1) r
def allI (p:Nat→α→Bool) (l:List α):Bool:=allG p 0 l
theorem allG_hit (h:l[q]?=some x):allG p q (l.drop q)=(p q x && allG p (q+1) (l.drop (q+1))):=by rw [drop_get h];rfl
theorem allG_end (h:l.length≤q):allG p q (l.drop q)=true:=by rw [drop_end h];rfl
theorem allG_iff:∀ {l:List α} {q:Nat},allG p q l=true↔∀ k x,l[k]?=some x→p (q+k) x=true
 | [],q=>by simp [allG]
 | y::r,q=>by
  unfold allG
  rw [Bool.and_eq_true,allG_iff (l:=r) (q:=q+1)]
  constructor
  ·rintro ⟨h1,h2⟩ k x hx
   cases k with
   | zero=>cases hx;exact h1
   | succ k=>have:=h2 k x (by simpa using hx);rwa [show q+1+k=q+(k+1) by omega] at this
  ·intro h
   exact ⟨h 0 y rfl,fun k x hx=>by have:=h (k+1) x (by simpa using hx);rwa [show q+1+k=q+(k+1) by omega]⟩
theorem allI_iff:allI p l=true↔∀ k x,l[k]?=some x→p k x=true:=by
 unfold allI
 rw [allG_iff]
 simp
theorem any_hit (f:α→Bool) (h:l[q]?=some x):(l.drop q).any f=(f x || (l.drop (q+1)).any f):=by rw [drop_get h];rfl
theorem any_end (f:α→Bool) (h:l.length≤q):(l.drop q).any f=false:=by rw [drop_end h];rfl
theorem all_hit (f:α→Bool) (h:l[q]?=some x):(l.drop q).all f=(f x && (l.drop (q+1)).all f):=by rw [drop_get h];rfl
theorem alle (f:α→Bool) (h:l.length≤q):(l.drop q).all f=true:=by rw [drop_end h];rfl
end
def nmB (s:ByteArray):Bool:=nameL s.data.toList
def soundB (l:List Int):Bool:=l.all fun n=>decide (1≤n) && decide (n≤6)
def colOk (sizes:List Int) (c:Int):Bool:=decide (0≤c) && decide (c < sizes.length)
def prodC (sizes cols:List Int):Int:=cols.foldl (fun n c=>n * sizes.getD c.toNat 0) 1
def numberS (sizes cols:List Int):Int:=if (decide (cols.length≤3) && soundB sizes) && cols.all (colOk sizes) then prodC sizes cols else 0
def strictK (k:Int):Bool:=decide (k=0) || decide (k=1)
def rngOk (t:Tb):Bool:=(decide (t.lo≤t.hi) && (decide (-9999≤t.lo) && decide (t.hi≤9999))) && (!(decide (t.kind=0) || (decide (t.kind=2) || decide (t.kind=3))) || (decide (t.lo=0) && decide (t.hi=1)))
def cntOf (sizes:List Int) (s:Bool) (l:List Tb):Int:=l.foldl (fun n t=>if strictK t.kind=s then n+numberS sizes t.cols else n) 0
def tabOk (sizes:List Int) (l:List Tb) (i:Nat) (t:Tb):Bool:=
 (!(l.take i).any fun u=>decide (u.name=t.name)) && (nmB t.name && ((decide (0≤t.kind) && decide (t.kind≤5)) && (!decide (numberS sizes t.cols=0) && (rngOk t && decide (t.first=cntOf sizes (strictK t.kind) (l.take i))))))
def layB (sizes:List Int) (l:List Tb):Bool:=(decide (sizes.length≤4) && (soundB sizes && decide (l.length≤12))) && (allI (tabOk sizes l) l && (decide (cntOf sizes true l≤128) && decide (cntOf sizes false l≤64)))
def rngsT (sizes:List Int) (s:Bool) (t:Tb):List (Int×Int):=if strictK t.kind=s then List.replicate (numberS sizes t.cols).toNat (t.lo,t.hi) else []
def rngs (sizes:List Int) (l:List Tb) (s:Bool):List (Int×Int):=if layB sizes l then l.flatMap (rngsT sizes s) else []
def inT (sizes:List Int) (s:Bool) (c:Int) (t:Tb):Bool:=decide (strictK t.kind=s) && (decide (0≤c) && (decide (0≤c - t.first) && decide (c - t.first < numberS sizes t.cols)))
def findG (f:Tb→Bool):Nat→List Tb→Option (Nat×Tb)
 | _,[]=>none
 | i,t::r=>if f t=true then some (i,t) else findG f (i+1) r
def tabAt (sizes:List Int) (l:List Tb) (s:Bool) (c:Int):Option (Nat×Tb):=if layB sizes l then findG (inT sizes s c) 0 l else none
theorem findG_hit {f:Tb→Bool} {l:List Tb} {q:Nat} {t:Tb} (h:l[q]?=some t):findG f q (l.drop q)=if f t=true then some (q,t) else findG f (q+1) (l.drop (q+1)):=by rw [drop_get h];rfl
theorem findG_end {f:Tb→Bool} {l:List Tb} {q:Nat} (h:l.length≤q):findG f q (l.drop q)=none:=by rw [drop_end h];rfl
def nthG (sizes cols:List Int):Nat→Int→List Int→List Int
 | 0,_,r=>r
 | i+1,k,r=>nthG sizes cols i (k.tdiv (sizes.getD (cols.getD i 0).toNat 0)) (r.set i (k.tmod (sizes.getD (cols.getD i 0).toNat 0)))
def nthS (sizes cols:List Int) (k:Int):List Int:=nthG sizes cols cols.length k (List.replicate cols.length 0)
def btw (x m:Int):Bool:=decide (-m≤x) && decide (x≤m)
def termOk (n:Int) (l:List Tm) (i:Nat) (t:Tm):Bool:=(decide (0≤t.cell) && decide (t.cell < n)) && ((decide (i=0) || decide ((l.getD (i - 1) ⟨0,0⟩).cell < t.cell)) && (!decide (t.factor=0) && btw t.factor 1000))
def rowB (n:Int) (r:Rw):Bool:=allI (termOk n r.terms) r.terms && btw r.bound 1000000000
def graphT (sorts:List Int) (c:Cn) (t:Tb):Bool:=decide (t.kind=0) && (decide (t.cols.length=2) && (decide (t.cols.getD 0 0=t.cols.getD 1 0) && (decide (t.first=c.first) && decide (sorts.getD (t.cols.getD 0 0).toNat 0=c.size))))
def graphB (m:Md) (c:Cn):Bool:=(decide (c.row.terms.length=0) && decide (c.row.bound=0)) && m.tables.any (graphT m.sorts c)
def rowLo (i:Nat) (r:Int×Int):Rw:=⟨[⟨i,-1⟩],-r.1⟩
def rowHi (i:Nat) (r:Int×Int):Rw:=⟨[⟨i,1⟩],r.2⟩
def zRw:Rw:=⟨[],0⟩
def zCn:Cn:=⟨0,0,zRw,0,0⟩
def pairOk (cs:List Cn) (i:Nat) (r:Int×Int):Bool:=decide ((cs.getD (2 * i) zCn).row=rowLo i r) && decide ((cs.getD (2 * i+1) zCn).row=rowHi i r)
def conOk (m:Md) (n:Nat) (i:Nat) (c:Cn):Bool:=
 (decide (0≤c.fam) && decide (c.fam < m.fams.length)) && ((decide (c.kind=0) && (decide (c.first=0) && (decide (c.size=0) && rowB n c.row))) || (decide (2 * n≤i) && (decide (c.kind=1) && graphB m c)))
def consB (m:Md) (l:List (Int×Int)):Bool:=(decide (2 * l.length≤m.cons.length) && decide (m.cons.length≤512)) && (allI (pairOk m.cons) l && allI (conOk m l.length) m.cons)
def chgOk (n:Int) (l:List Chg) (i:Nat) (t:Chg):Bool:=(decide (0≤t.cell) && decide (t.cell < n)) && ((decide (i=0) || decide ((l.getD (i - 1) ⟨0,0⟩).cell < t.cell)) && (!decide (t.add=0) && btw t.add 1000000000))
def setK (k:Int):Bool:=decide (k=2) || decide (k=3)
def updT (u:Upd) (t:Tb):Bool:=if setK t.kind then ((decide (u.kind=0) || decide (u.kind=1)) && decide (u.value=0)) else (decide (u.kind=2) && (decide (t.lo≤u.value) && decide (u.value≤t.hi)))
def updOk (m:Md) (l:List Upd) (i:Nat) (u:Upd):Bool:=match tabAt m.sorts m.tables false u.cell with
 | some (_,t)=>(decide (i=0) || decide ((l.getD (i - 1) ⟨0,0,0⟩).cell < u.cell)) && updT u t
 | none=>false
def effB (m:Md) (n:Int) (x:Eff):Bool:=(allI (chgOk n x.delta) x.delta && (x.hold.all (rowB n) && allI (updOk m x.ups) x.ups)) && (decide (x.hold.length≤8) && decide (x.ups.length≤32))
def lessL:List Int→List Int→Bool
 | x::a,y::b=>if x=y then lessL a b else decide (x < y)
 | [],_::_=>true
 | _,[]=>false
def argOk (m:Md) (s a:Int):Bool:=if s < 0 then btw a 9999 else decide (0≤a) && decide (a < m.sorts.getD s.toNat 0)
def zOpn:Opn:=⟨⟨#[]⟩,false,[]⟩
def zActn:Actn:=⟨0,[],⟨[],[],[]⟩⟩
def actOk (m:Md) (n:Int) (i:Nat) (a:Actn):Bool:=
 (((decide (0≤a.op) && decide (a.op < m.ops.length)) && decide (a.args.length=(m.ops.getD a.op.toNat zOpn).sorts.length)) && allI (fun k x=>argOk m ((m.ops.getD a.op.toNat zOpn).sorts.getD k 0) x) a.args) &&
 ((decide (i=0) || (decide ((m.acts.getD (i - 1) zActn).op < a.op) || (decide ((m.acts.getD (i - 1) zActn).op=a.op) && lessL (m.acts.getD (i - 1) zActn).args a.args))) && effB m n a.eff)
def opOk (m:Md) (o:Opn):Bool:=(o.sorts.all fun s=>decide (-1≤s) && decide (s < m.sorts.length)) && decide (o.sorts.length≤3)
def distOk (l:List ByteArray) (i:Nat) (s:ByteArray):Bool:=nmB s && !(l.take i).any fun u=>decide (u=s)
def distB (l:List ByteArray):Bool:=allI (distOk l) l
def actsB (m:Md) (n:Int):Bool:=(m.ops.all (opOk m) && (decide (m.ops.length≤8) && (distB (m.ops.map (·.name)) && decide (m.acts.length≤256)))) && allI (actOk m n) m.acts
def zTb:Tb:=⟨⟨#[]⟩,0,[],0,0,0⟩
def idxOk (i:Int) (n:Nat):Bool:=decide (0≤i) && decide (i < n)
def hideOk (m:Md) (h:Hde):Bool:=(idxOk h.table m.tables.length && (idxOk h.to m.tables.length && !decide (h.table=h.to))) &&
 ((decide ((m.tables.getD h.table.toNat zTb).kind=0) && decide ((m.tables.getD h.to.toNat zTb).kind=0)) && (idxOk h.col (m.tables.getD h.table.toNat zTb).cols.length && (decide ((m.tables.getD h.to.toNat zTb).cols.length=1) && decide ((m.tables.getD h.to.toNat zTb).cols.getD 0 0=(m.tables.getD h.table.toNat zTb).cols.getD h.col.toNat 0))))
def leadsB (l:List Hde):Nat→Int→Int→Bool
 | 0,a,b=>decide (a=b)
 | n+1,a,b=>decide (a=b) || l.any fun h=>decide (h.table=a) && leadsB l n h.to b
def hidesB (m:Md):Bool:=decide (m.hides.length≤12) && (m.hides.all (hideOk m) && m.hides.all fun h=>!leadsB m.hides m.tables.length h.to h.table)
def modelB (m:Md):Bool:=((layB m.sorts m.tables && decide (m.fams.length≤24)) && distB m.fams) && (consB m (rngs m.sorts m.tables true) && (actsB m (rngs m.sorts m.tables true).length && hidesB m))
section
variable {S C:List Int}
theorem prodC_snoc {k:Nat} {c:Int} (h:C[k]?=some c):prodC S (C.take (k+1))=prodC S (C.take k) * S.getD c.toNat 0:=foldl_snoc _ _ h
theorem sound_at (hs:soundB S=true) {k:Nat} {n:Int} (h:S[k]?=some n):1≤n∧n≤6:=by
 have:=List.all_eq_true.1 hs n (List.mem_of_getElem? h)
 simpa using this
theorem col_at (hs:soundB S=true) {c:Int} (hc:colOk S c=true):1≤S.getD c.toNat 0∧S.getD c.toNat 0≤6:=by
 simp only [colOk,Bool.and_eq_true,decide_eq_true_eq] at hc
 obtain ⟨n,hn⟩:∃ n,S[c.toNat]?=some n:=⟨_,List.getElem?_eq_getElem (by omega)⟩
 rw [getD_get hn]
 exact sound_at hs hn
theorem prodF_bnd (hs:soundB S=true):∀ (C:List Int) (a b:Int),C.all (colOk S)=true→1≤a→a≤b→a≤C.foldl (fun n c=>n * S.getD c.toNat 0) a∧C.foldl (fun n c=>n * S.getD c.toNat 0) a≤b * 6 ^ C.length
 | [],a,b,_,_,h=>by simp;exact h
 | c::C,a,b,hc,ha,hb=>by
  simp only [List.all_cons,Bool.and_eq_true] at hc
  obtain ⟨h1,h2⟩:=col_at hs hc.1
  have e1:a * 1≤a * S.getD c.toNat 0:=Int.mul_le_mul_of_nonneg_left h1 (by omega)
  have e2:a * S.getD c.toNat 0≤b * 6:=Int.mul_le_mul hb h2 (by omega) (by omega)
  have:=prodF_bnd hs C (a * S.getD c.toNat 0) (b * 6) hc.2 (by omega) e2
  rw [List.foldl_cons,List.length_cons,Int.pow_succ]
  rw [Int.mul_assoc,Int.mul_comm 6] at this
  exact ⟨by omega,this.2⟩
theorem prodC_bnd (hs:soundB S=true) (hc:C.all (colOk S)=true) (hl:C.length≤3):1≤prodC S C∧prodC S C≤216:=by
 have h:=prodF_bnd hs C 1 1 hc (by omega) (by omega)
 refine ⟨h.1,Int.le_trans h.2 ?_⟩
 have:C.length=0∨C.length=1∨C.length=2∨C.length=3:=by omega
 rcases this with e|e|e|e <;> rw [e] <;> decide
theorem numberS_bnd (S C:List Int):0≤numberS S C∧numberS S C≤216:=by
 unfold numberS
 split
 ·rename_i h
  simp only [Bool.and_eq_true,decide_eq_true_eq] at h
  have:=prodC_bnd h.1.2 h.2 (by omega)
  omega
 ·omega
theorem cntF_bnd (s:Bool):∀ (l:List Tb) (a:Int),0≤a→a≤l.foldl (fun n t=>if strictK t.kind=s then n+numberS S t.cols else n) a∧l.foldl (fun n t=>if strictK t.kind=s then n+numberS S t.cols else n) a≤a+216 * l.length
 | [],a,h=>by simp
 | t::l,a,h=>by
  have hb:=numberS_bnd S t.cols
  rw [List.foldl_cons,List.length_cons]
  split
  ·have:=cntF_bnd s l (a+numberS S t.cols) (by omega)
   omega
  ·have:=cntF_bnd s l a h
   omega
theorem cnt_bnd (s:Bool) (l:List Tb):0≤cntOf S s l∧cntOf S s l≤216 * l.length:=by
 have:=cntF_bnd (S:=S) s l 0 (by omega)
 unfold cntOf
 omega
theorem cnt_snoc (s:Bool) {l:List Tb} {k:Nat} {t:Tb} (h:l[k]?=some t):cntOf S s (l.take (k+1))=if strictK t.kind=s then cntOf S s (l.take k)+numberS S t.cols else cntOf S s (l.take k):=foldl_snoc _ _ h
end
end Go.Proofs.YtgbfedgghjcdcaaGreatDoor
namespace Go.Proofs.YtgbfedgghjcdcaaGreatDoor
theorem flat_snoc {α β:Type} {f:α→List β} {l:List α} {q:Nat} {x:α} (h:l[q]?=some x):(l.take (q+1)).flatMap f=(l.take q).flatMap f++f x:=by
 rw [List.take_add_one,h]
 simp
theorem repl_snoc {α:Type} (n:Nat) (x:α):List.replicate (n+1) x=List.replicate n x++[x]:=List.replicate_succ'
theorem rngsT_len (S:List Int) (s:Bool) (t:Tb):(rngsT S s t).length=if strictK t.kind=s then (numberS S t.cols).toNat else 0:=by
 unfold rngsT
 split <;> simp
theorem rngsF_len (S:List Int) (s:Bool):∀ (l:List Tb) (a:Int),a+(l.flatMap (rngsT S s)).length=l.foldl (fun n t=>if strictK t.kind=s then n+numberS S t.cols else n) a
 | [],a=>by simp
 | t::l,a=>by
  have hb:=numberS_bnd S t.cols
  have hl:=rngsT_len S s t
  have ih:=rngsF_len S s l (if strictK t.kind=s then a+numberS S t.cols else a)
  rw [List.flatMap_cons,List.foldl_cons,← ih,List.length_append,hl]
  split <;> omega
theorem rngsC_len (S:List Int) (s:Bool) (l:List Tb):((l.flatMap (rngsT S s)).length:Int)=cntOf S s l:=by
 have:=rngsF_len S s l 0
 unfold cntOf
 omega
theorem rngsT_le (S:List Int) (s:Bool) (l:List Tb):(l.flatMap (rngsT S s)).length≤216 * l.length:=by
 have:=rngsC_len S s l
 have:=cnt_bnd (S:=S) s l
 omega
theorem lay_cnt {S:List Int} {L:List Tb} (h:layB S L=true):cntOf S true L≤128∧cntOf S false L≤64:=by
 simp only [layB,Bool.and_eq_true,decide_eq_true_eq] at h
 exact ⟨h.2.2.1,h.2.2.2⟩
theorem lay_few {S:List Int} {L:List Tb} (h:layB S L=true):S.length≤4∧L.length≤12:=by
 simp only [layB,Bool.and_eq_true,decide_eq_true_eq] at h
 exact ⟨h.1.1,h.1.2.2⟩
theorem lay_sound {S:List Int} {L:List Tb} (h:layB S L=true):soundB S=true:=by
 simp only [layB,Bool.and_eq_true,decide_eq_true_eq] at h
 exact h.1.2.1
theorem lay_tab {S:List Int} {L:List Tb} (h:layB S L=true) {k:Nat} {t:Tb} (ht:L[k]?=some t):tabOk S L k t=true:=by
 simp only [layB,Bool.and_eq_true] at h
 exact allI_iff.1 h.2.1 k t ht
theorem rngs_len (S:List Int) (L:List Tb) (s:Bool):(rngs S L s).length≤128:=by
 unfold rngs
 split
 ·rename_i h
  have h1:=rngsC_len S s L
  have h2:=lay_cnt h
  cases s <;> omega
 ·simp
theorem num_cols {S C:List Int} (h:numberS S C≠0):C.length≤3∧soundB S=true∧C.all (colOk S)=true:=by
 unfold numberS at h
 split at h
 ·rename_i h'
  simpa [Bool.and_eq_true,and_assoc] using h'
 ·exact absurd rfl h
theorem lay_cols {S:List Int} {L:List Tb} (h:layB S L=true) {k:Nat} {t:Tb} (ht:L[k]?=some t):t.cols.length≤3∧soundB S=true∧t.cols.all (colOk S)=true:=by
 have h1:=lay_tab h ht
 simp only [tabOk,Bool.and_eq_true,Bool.not_eq_true',decide_eq_false_iff_not] at h1
 exact num_cols h1.2.2.2.1
theorem lay_rng {S:List Int} {L:List Tb} (h:layB S L=true) {k:Nat} {t:Tb} (ht:L[k]?=some t):t.lo≤t.hi ∧ -9999≤t.lo∧t.hi≤9999:=by
 have h1:=lay_tab h ht
 simp only [tabOk,rngOk,Bool.and_eq_true,Bool.not_eq_true',decide_eq_false_iff_not,decide_eq_true_eq] at h1
 exact h1.2.2.2.2.1.1
theorem rngs_bnd {S:List Int} {L:List Tb} {s:Bool} {r:Int×Int} (hr:r∈rngs S L s):r.1≤r.2 ∧ -9999≤r.1∧r.2≤9999:=by
 unfold rngs at hr
 split at hr
 ·rename_i h
  obtain ⟨t,ht,hm⟩:=List.mem_flatMap.1 hr
  obtain ⟨k,hk,rfl⟩:=List.getElem_of_mem ht
  unfold rngsT at hm
  split at hm
  ·obtain ⟨_,rfl⟩:=List.mem_replicate.1 hm
   exact lay_rng h (List.getElem?_eq_getElem hk)
  ·cases hm
 ·cases hr
theorem tab_some {S:List Int} {s:Bool} {c:Int}:∀ {l:List Tb} {q i:Nat} {t:Tb},findG (inT S s c) q l=some (i,t)→q≤i∧l[i - q]?=some t∧inT S s c t=true
 | [],_,_,_,h=>by cases h
 | u::l,q,i,t,h=>by
  unfold findG at h
  split at h
  ·rename_i hu
   cases h
   exact ⟨Nat.le_refl _,by simp,hu⟩
  ·obtain ⟨h1,h2,h3⟩:=tab_some h
   refine ⟨by omega,?_,h3⟩
   rw [show i - q=(i - (q+1))+1 by omega]
   simpa using h2
theorem tabAt_some {S:List Int} {L:List Tb} {s:Bool} {c:Int} {i:Nat} {t:Tb} (h:tabAt S L s c=some (i,t)):layB S L=true∧L[i]?=some t∧inT S s c t=true:=by
 unfold tabAt at h
 split at h
 ·rename_i hl
  have:=tab_some h
  exact ⟨hl,this.2.1,this.2.2⟩
 ·cases h
end Go.Proofs.YtgbfedgghjcdcaaGreatDoor
namespace Go.Proofs.YtgbfedgghjcdcaaGreatDoor
section
variable {α:Type}
structure Ordr (lt:α→α→Bool):Prop where
 asym:∀ a b,lt a b=true→lt b a=false
 ntr:∀ a b c,lt a b=false→lt b c=false→lt a c=false
variable (lt:α→α→Bool)
variable {lt}
end
end Go.Proofs.YtgbfedgghjcdcaaGreatDoor
namespace Go.Proofs.YtgbfedgghjcdcaaGreatDoor
def sg (a b:Int):Int:=if a < b then -1 else if b < a then 1 else 0
def orS:List Int→Int
 | []=>0
 | x::l=>if x=0 then orS l else x
section
variable {α:Type} (lt:α→α→Bool)
end
section
variable {α:Type}
end
end Go.Proofs.YtgbfedgghjcdcaaGreatDoor
namespace Go.Proofs.YtgbfedgghjcdcaaGreatDoor
def nm (e:Ev):Int×Int:=(e.r,e.n)
def dotsF:Nat→List Int→List (Int×Int)
 | _,[]=>[]
 | r,n::c=>(List.range n.toNat).map (fun i:Nat=>((r:Int),(i:Int)+1))++dotsF (r+1) c
def befB (a b:Ev):Bool:=formB a && (formB b && hasS b.past a.r a.n)
structure ClosedP (l:List Ev):Prop where
 few:l.length≤1024
 form:∀ e∈l,formB e=true
 alike:∀ e∈l,∀ x∈l,e.past.length=x.past.length
 names:(l.map nm).Nodup
 down:∀ e∈l,∀ r n,hasS e.past r n=true→∃ x∈l,nm x=(r,n)∧insideB x.past e.past=true∧x.t < e.t
open Classical in
noncomputable def closedB (l:List Ev):Bool:=decide (ClosedP l)
section
open Classical
theorem closedB_t {l:List Ev} (h:ClosedP l):closedB l=true:=by unfold closedB;exact decide_eq_true h
theorem closedB_f {l:List Ev} (h:¬ ClosedP l):closedB l=false:=by unfold closedB;exact decide_eq_false h
end
theorem dots_mem {p:Int×Int}:∀ (c:List Int) (r:Nat),p∈dotsF r c↔∃ k,k < c.length∧p.1=(r+k:Nat)∧1≤p.2∧p.2≤c.getD k 0
 | [],r=>by simp [dotsF]
 | n::c,r=>by
  rw [dotsF,List.mem_append,dots_mem c (r+1)]
  constructor
  ·rintro (h|⟨k,h1,h2,h3,h4⟩)
   ·simp only [List.mem_map,List.mem_range] at h
    obtain ⟨i,hi,rfl⟩:=h
    refine ⟨0,by simp,by simp,by dsimp only;omega,?_⟩
    show (i:Int)+1≤n
    omega
   ·refine ⟨k+1,by simp;omega,by omega,h3,?_⟩
    simpa using h4
  ·rintro ⟨k,h1,h2,h3,h4⟩
   cases k with
   | zero=>
    left
    have h4:p.2≤n:=by simpa using h4
    simp only [List.mem_map,List.mem_range]
    refine ⟨(p.2 - 1).toNat,by omega,?_⟩
    obtain ⟨p1,p2⟩:=p
    simp only [Prod.mk.injEq]
    simp at h2 h3
    constructor <;> omega
   | succ k=>
    right
    exact ⟨k,by simp at h1;omega,by omega,h3,by simpa using h4⟩
theorem dots_has {c:List Int} (hv:validB c=true) {r n:Int}:(r,n)∈dotsF 0 c↔hasS c r n=true:=by
 rw [dots_mem]
 unfold hasS
 simp only [hv,Bool.true_and,Bool.and_eq_true,decide_eq_true_eq]
 constructor
 ·rintro ⟨k,h1,h2,h3,h4⟩
  have h2:r=(k:Int):=by simpa using h2
  subst h2
  exact ⟨by omega,by omega,h3,by simpa using h4⟩
 ·rintro ⟨h1,h2,h3,h4⟩
  exact ⟨r.toNat,by omega,by simp;omega,h3,h4⟩
theorem nodup_map {α β:Type} {f:α→β} (hf:∀ a b,f a=f b→a=b):∀ {l:List α},l.Nodup→(l.map f).Nodup
 | [],_=>List.nodup_nil
 | x::l,h=>by
  have h:=List.nodup_cons.1 h
  rw [List.map_cons,List.nodup_cons]
  refine ⟨fun hm=>?_,nodup_map hf h.2⟩
  obtain ⟨y,hy,e⟩:=List.mem_map.1 hm
  rw [hf _ _ e] at hy
  exact h.1 hy
theorem dots_nodup:∀ (c:List Int) (r:Nat),(dotsF r c).Nodup
 | [],r=>List.nodup_nil
 | n::c,r=>by
  rw [dotsF,List.nodup_append]
  refine ⟨nodup_map (fun a b h=>by simp only [Prod.mk.injEq] at h;omega) List.nodup_range,dots_nodup c (r+1),fun a ha b hb e=>?_⟩
  subst e
  obtain ⟨i,_,rfl⟩:=List.mem_map.1 ha
  obtain ⟨k,_,h2,_⟩:=(dots_mem c (r+1)).1 hb
  dsimp only at h2
  omega
theorem foldl_add:∀ (c:List Int) (a:Int),c.foldl (·+·) a=a+c.foldl (·+·) 0
 | [],a=>by simp
 | x::c,a=>by
  rw [List.foldl_cons,List.foldl_cons,foldl_add c (a+x),foldl_add c (0+x)]
  omega
theorem dots_len:∀ (c:List Int) (r:Nat),(∀ n∈c,0≤n)→((dotsF r c).length:Int)=sumL c
 | [],r,_=>rfl
 | n::c,r,h=>by
  have ih:=dots_len c (r+1) (fun x hx=>h x (by simp [hx]))
  have h0:=h n (by simp)
  rw [dotsF,List.length_append,List.length_map,List.length_range]
  unfold sumL at ih ⊢
  rw [List.foldl_cons,foldl_add c (0+n),← ih]
  omega
section
variable {α:Type} [DecidableEq α]
theorem nd_le:∀ {L D:List α},L.Nodup→(∀ x∈L,x∈D)→L.length≤D.length∧(L.length=D.length→∀ x∈D,x∈L)
 | [],D,_,_=>⟨by simp,fun h x hx=>by
  have:D=[]:=List.length_eq_zero_iff.1 (by simpa using h.symm)
  subst this;cases hx⟩
 | y::L,D,hL,hs=>by
  have hy:=hs y (by simp)
  have hL':=List.nodup_cons.1 hL
  have hlen:=List.length_erase_of_mem hy
  have hpos:0 < D.length:=List.length_pos_of_mem hy
  have ih:=nd_le (L:=L) (D:=D.erase y) hL'.2 (fun x hx=>(List.mem_erase_of_ne (fun e=>by subst e;exact hL'.1 hx)).2 (hs x (by simp [hx])))
  refine ⟨by simp;omega,fun he x hx=>?_⟩
  by_cases e:x=y
  ·simp [e]
  ·have:=ih.2 (by simp at he;omega) x ((List.mem_erase_of_ne e).2 hx)
   simp [this]
theorem nd_iff {L D:List α} {p:α→Bool} (hp:∀ x,p x=true↔x∈D) (hL:L.Nodup) (hD:D.Nodup):L.countP p=D.length↔∀ x∈D,x∈L:=by
 rw [List.countP_eq_length_filter]
 have hF:(L.filter p).Nodup:=hL.filter _
 have hs:∀ x∈L.filter p,x∈D:=fun x hx=>(hp x).1 (List.mem_filter.1 hx).2
 constructor
 ·intro h x hx
  exact (List.mem_filter.1 ((nd_le hF hs).2 h x hx)).1
 ·intro h
  have h1:=(nd_le hF hs).1
  have h2:=(nd_le (L:=D) (D:=L.filter p) hD (fun x hx=>List.mem_filter.2 ⟨h x hx,(hp x).2 hx⟩)).1
  omega
end
theorem form_valid {e:Ev} (h:formB e=true):validB e.past=true:=by
 simp only [formB,headOk,Bool.and_eq_true] at h
 exact h.1.1
theorem valid_nn {c:List Int} (h:validB c=true):∀ n∈c,0≤n:=fun n hn=>by
 obtain ⟨k,hk,rfl⟩:=List.mem_iff_getElem.1 hn
 exact (ok1_at h (List.getElem?_eq_getElem hk)).1
def nIn (l:List Ev) (e:Ev):Nat:=l.countP fun x=>befB x e
theorem nIn_iff {l:List Ev} (hf:∀ e∈l,formB e=true) (hn:(l.map nm).Nodup) {e:Ev} (he:formB e=true):(nIn l e:Int)=countS e.past↔∀ r n,hasS e.past r n=true→∃ x∈l,nm x=(r,n):=by
 have hv:=form_valid he
 have h1:countS e.past=((dotsF 0 e.past).length:Int):=by rw [countS,if_pos hv,dots_len _ _ (valid_nn hv)]
 have h2:nIn l e=(l.map nm).countP (fun p=>decide (p∈dotsF 0 e.past)):=by
  unfold nIn
  rw [List.countP_map]
  refine List.countP_congr fun x hx=>?_
  simp only [befB,hf x hx,he,Bool.true_and,Function.comp,decide_eq_true_eq]
  exact (dots_has hv).symm
 rw [h1,h2]
 have:=nd_iff (p:=fun p=>decide (p∈dotsF 0 e.past)) (fun x=>decide_eq_true_iff) hn (dots_nodup e.past 0)
 constructor
 ·intro h r n hh
  have:=this.1 (by omega) (r,n) ((dots_has hv).2 hh)
  obtain ⟨x,hx,ex⟩:=List.mem_map.1 this
  exact ⟨x,hx,ex⟩
 ·intro h
  have:=this.2 (fun p hp=>by
   obtain ⟨x,hx,ex⟩:=h p.1 p.2 ((dots_has hv).1 hp)
   exact List.mem_map.2 ⟨x,hx,ex⟩)
  omega
theorem nm_inj {l:List Ev} (hn:(l.map nm).Nodup):∀ {x y:Ev},x∈l→y∈l→nm x=nm y→x=y:=by
 induction l with
 | nil=>intro x y hx;cases hx
 | cons z l ih=>
  intro x y hx hy e
  rw [List.map_cons,List.nodup_cons] at hn
  rcases List.mem_cons.1 hx with h1|h1 <;> rcases List.mem_cons.1 hy with h2|h2
  ·rw [h1,h2]
  ·subst h1;exact absurd (List.mem_map.2 ⟨y,h2,e.symm⟩) hn.1
  ·subst h2;exact absurd (List.mem_map.2 ⟨x,h1,e⟩) hn.1
  ·exact ih hn.2 h1 h2 e
structure ClosedR (l:List Ev) (e:Ev):Prop where
 inside:∀ x∈l,befB x e=true→insideB x.past e.past=true∧x.t < e.t
 count:(nIn l e:Int)=countS e.past
theorem closed_ref {l:List Ev} (few:l.length≤1024) (form:∀ e∈l,formB e=true) (alike:∀ e∈l,∀ x∈l,e.past.length=x.past.length) (names:(l.map nm).Nodup):ClosedP l↔∀ e∈l,ClosedR l e:=by
 constructor
 ·intro h e he
  have hf:=form e he
  refine ⟨fun x hx hb=>?_,(nIn_iff form names hf).2 fun r n hh=>?_⟩
  ·simp only [befB,Bool.and_eq_true] at hb
   obtain ⟨y,hy,ey,h1,h2⟩:=h.down e he _ _ hb.2.2
   obtain rfl:=nm_inj names hy hx ey
   exact ⟨h1,h2⟩
  ·obtain ⟨x,hx,ex,_⟩:=h.down e he r n hh
   exact ⟨x,hx,ex⟩
 ·intro h
  refine ⟨few,form,alike,names,fun e he r n hh=>?_⟩
  obtain ⟨x,hx,ex⟩:=(nIn_iff form names (form e he)).1 (h e he).count r n hh
  have hb:befB x e=true:=by
   simp only [nm,Prod.mk.injEq] at ex
   simp [befB,form x hx,form e he,ex.1,ex.2,hh]
  exact ⟨x,hx,ex,(h e he).inside x hx hb⟩
end Go.Proofs.YtgbfedgghjcdcaaGreatDoor
namespace Go.Proofs.YtgbfedgghjcdcaaGreatDoor
section
variable {α:Type} {lt:α→α→Bool}
end
section
variable {l:List Ev} (h:ClosedP l)
include h
end
end Go.Proofs.YtgbfedgghjcdcaaGreatDoor
namespace Go.Proofs.YtgbfedgghjcdcaaGreatDoor
def addC (out:List Int) (c:Chg):List Int:=out.set c.cell.toNat (IntKind.wrap .i64 (out.getD c.cell.toNat 0+c.add))
theorem addC_len (out:List Int) (c:Chg):(addC out c).length=out.length:=List.length_set
theorem wrap_comm (x a b:Int):IntKind.wrap .i64 (IntKind.wrap .i64 (x+a)+b)=IntKind.wrap .i64 (IntKind.wrap .i64 (x+b)+a):=by
 rw [IntKind.wrap_i64,IntKind.wrap_i64,IntKind.wrap_i64,IntKind.wrap_i64]
 omega
theorem getD_set_ne {l:List Int} {i j:Nat} {x:Int} (h:i≠j):(l.set i x).getD j 0=l.getD j 0:=by
 rw [List.getD_eq_getElem?_getD,List.getD_eq_getElem?_getD,List.getElem?_set_ne h]
theorem getD_set_eq {l:List Int} {i:Nat} {x:Int} (h:i < l.length):(l.set i x).getD i 0=x:=by
 rw [List.getD_eq_getElem?_getD,List.getElem?_set_self h]
 rfl
theorem addC_comm (out:List Int) (c d:Chg):addC (addC out c) d=addC (addC out d) c:=by
 unfold addC
 by_cases h:c.cell.toNat=d.cell.toNat
 ·rw [h]
  rcases Nat.lt_or_ge d.cell.toNat out.length with hl|hl
  ·rw [getD_set_eq hl,getD_set_eq hl,List.set_set,List.set_set,wrap_comm]
  ·have h0:∀ x,out.set d.cell.toNat x=out:=fun x=>List.set_eq_of_length_le hl
   simp only [h0]
 ·rw [getD_set_ne h,getD_set_ne (Ne.symm h),List.set_comm _ _ h]
def evChg (m:Md) (e:Ev):List Chg:=if e.k=0 then (m.acts.getD e.a.toNat ⟨0,[],⟨[],[],[]⟩⟩).eff.delta else []
def addE (m:Md) (out:List Int) (e:Ev):List Int:=(evChg m e).foldl addC out
def stateF (m:Md) (out:List Int) (l:List Ev):List Int:=l.foldl (addE m) out
theorem foldC_len (cs:List Chg) (out:List Int):(cs.foldl addC out).length=out.length:=by
 induction cs generalizing out with
 | nil=>rfl
 | cons c cs ih=>rw [List.foldl_cons,ih,addC_len]
theorem stateF_len (m:Md) (l:List Ev) (out:List Int):(stateF m out l).length=out.length:=by
 unfold stateF
 induction l generalizing out with
 | nil=>rfl
 | cons e l ih=>rw [List.foldl_cons,ih];exact foldC_len _ _
theorem fold_addC (cs:List Chg) (out:List Int) (d:Chg):addC (cs.foldl addC out) d=cs.foldl addC (addC out d):=by
 induction cs generalizing out with
 | nil=>rfl
 | cons c cs ih=>rw [List.foldl_cons,List.foldl_cons,ih,addC_comm]
theorem fold_fold (cs ds:List Chg) (out:List Int):ds.foldl addC (cs.foldl addC out)=cs.foldl addC (ds.foldl addC out):=by
 induction ds generalizing out with
 | nil=>rfl
 | cons d ds ih=>rw [List.foldl_cons,List.foldl_cons,fold_addC,ih]
theorem addE_comm (m:Md) (out:List Int) (e f:Ev):addE m (addE m out e) f=addE m (addE m out f) e:=fold_fold _ _ _
theorem stateF_perm {m:Md} {out:List Int} {l l':List Ev} (h:l.Perm l'):stateF m out l=stateF m out l':=
 List.Perm.foldl_eq' h (fun _ _ _ _ _=>addE_comm _ _ _ _) _
theorem stateF_rev (m:Md) (out:List Int) (l:List Ev):stateF m out l.reverse=stateF m out l:=stateF_perm (List.reverse_perm l)
theorem stateF_app (m:Md) (out:List Int) (k l:List Ev):stateF m out (k++l)=stateF m (stateF m out k) l:=List.foldl_append
theorem stateF_snoc {m:Md} {out:List Int} {l:List Ev} {q:Nat} {e:Ev} (h:l[q]?=some e):stateF m out (l.take (q+1))=addE m (stateF m out (l.take q)) e:=foldl_snoc _ _ h
structure Wr where
 e:Ev
 u:Upd
def updOf (m:Md) (cell:Int) (e:Ev):Option Upd:=if e.k=0 then ((m.acts.getD e.a.toNat ⟨0,[],⟨[],[],[]⟩⟩).eff.ups.reverse.find? fun u=>decide (u.cell=cell)) else none
def wrs (m:Md) (l:List Ev) (cell:Int):List Wr:=l.filterMap fun e=>(updOf m cell e).map (Wr.mk e)
theorem wrs_rev (m:Md) (l:List Ev) (cell:Int):wrs m l.reverse cell=(wrs m l cell).reverse:=by
 unfold wrs
 rw [List.filterMap_reverse]
def seenW (w:Wr) (l:List Wr) (kind:Int):Bool:=l.any fun x=>decide (x.u.kind=kind) && hasS x.e.past w.e.r w.e.n
def ofK (l:List Wr) (kind:Int):List Wr:=l.filter fun w=>decide (w.u.kind=kind)
def bitI (b:Bool):List Int:=if b then [1] else [0]
def initI (t:Tb):Int:=min (max 0 t.lo) t.hi
def laterW (a b:Wr):Bool:=decide (b.e.t < a.e.t) || (decide (b.e.t=a.e.t) && decide (b.e.r < a.e.r))
def maxW:Wr→List Wr→Wr
 | w,[]=>w
 | w,x::l=>maxW (if laterW x w then x else w) l
def dedupI:List Int→List Int
 | []=>[]
 | [x]=>[x]
 | x::y::l=>if x=y then dedupI (y::l) else x::dedupI (y::l)
def sortI (l:List Int):List Int:=l.mergeSort fun x y=>decide (x≤y)
def liveV (l:List Wr):List Int:=((ofK l 2).filter fun w=>!seenW w l 2).map (·.u.value)
def valsT (t:Tb) (l:List Wr):List Int:=
 if t.kind=2 then bitI ((ofK l 0).any fun w=>!seenW w l 1)
 else if t.kind=3 then bitI (decide (ofK l 0≠[]) && !(ofK l 1).any fun w=>!seenW w l 0)
 else if t.kind=4 then (match ofK l 2 with
  | []=>[initI t]
  | w::r=>[(maxW w r).u.value])
 else if liveV l=[] then [initI t] else dedupI (sortI (liveV l))
theorem sortI_perm {l l':List Int} (h:l.Perm l'):sortI l=sortI l':=by
 unfold sortI
 have tr:∀ (a b c:Int),decide (a≤b)=true→decide (b≤c)=true→decide (a≤c)=true:=fun a b c h1 h2=>by simp at h1 h2 ⊢;omega
 have to:∀ (a b:Int),(decide (a≤b) || decide (b≤a))=true:=fun a b=>by simp;omega
 refine List.Perm.eq_of_pairwise (le:=fun a b=>decide (a≤b)=true) (fun a b _ _ h1 h2=>by simp at h1 h2;omega) (List.pairwise_mergeSort tr to _) (List.pairwise_mergeSort tr to _) ?_
 exact (List.mergeSort_perm _ _).trans (h.trans (List.mergeSort_perm _ _).symm)
theorem seenW_rev (w:Wr) (l:List Wr) (k:Int):seenW w l.reverse k=seenW w l k:=by
 unfold seenW
 rw [List.any_reverse]
theorem ofK_rev (l:List Wr) (k:Int):ofK l.reverse k=(ofK l k).reverse:=by
 unfold ofK
 rw [List.filter_reverse]
theorem liveV_rev (l:List Wr):liveV l.reverse=(liveV l).reverse:=by
 unfold liveV
 rw [ofK_rev,List.filter_reverse,List.map_reverse]
 simp only [seenW_rev]
theorem laterW_iff {a b:Wr}:laterW a b=true↔b.e.t < a.e.t∨(b.e.t=a.e.t∧b.e.r < a.e.r):=by
 unfold laterW
 simp only [Bool.or_eq_true,Bool.and_eq_true,decide_eq_true_eq]
theorem maxW_mem:∀ (w:Wr) (l:List Wr),maxW w l∈w::l
 | w,[]=>by simp [maxW]
 | w,x::l=>by
  unfold maxW
  have:=maxW_mem (if laterW x w then x else w) l
  rcases List.mem_cons.1 this with h|h
  ·rw [h]
   split <;> simp
  ·exact List.mem_cons_of_mem _ (List.mem_cons_of_mem _ h)
theorem maxW_ge:∀ (w:Wr) (l:List Wr),∀ x∈w::l,laterW x (maxW w l)=false
 | w,[],x,hx=>by
  obtain rfl:x=w:=by simpa using hx
  rw [← Bool.not_eq_true,maxW,laterW_iff]
  omega
 | w,y::l,x,hx=>by
  unfold maxW
  have ih:=maxW_ge (if laterW y w then y else w) l
  have h0:=ih _ (List.mem_cons_self ..)
  rcases List.mem_cons.1 hx with rfl|hx
  ·cases hy:laterW y x with
   | true=>
    simp only [hy,if_true] at h0 ⊢
    rw [← Bool.not_eq_true,laterW_iff] at h0 ⊢
    rw [laterW_iff] at hy
    omega
   | false=>
    simp only [hy,Bool.false_eq_true,if_false] at h0 ⊢
    exact h0
  ·rcases List.mem_cons.1 hx with rfl|hx
   ·cases hy:laterW x w with
    | true=>
     simp only [hy,if_true] at h0 ⊢
     exact h0
    | false=>
     simp only [hy,Bool.false_eq_true,if_false] at h0 ⊢
     rw [← Bool.not_eq_true,laterW_iff] at h0 hy ⊢
     omega
   ·exact ih x (List.mem_cons_of_mem _ hx)
def apartW (l:List Wr):Prop:=∀ a∈l,∀ b∈l,a.e.t=b.e.t→a.e.r=b.e.r→a=b
theorem maxW_perm {w v:Wr} {l k:List Wr} (hp:(w::l).Perm (v::k)) (hd:apartW (w::l)):maxW w l=maxW v k:=by
 have m1:=maxW_mem w l
 have m2:=hp.symm.subset (maxW_mem v k)
 have g1:=maxW_ge w l _ m2
 have g2:=maxW_ge v k _ (hp.subset m1)
 rw [← Bool.not_eq_true,laterW_iff] at g1 g2
 exact hd _ m1 _ m2 (by omega) (by omega)
theorem valsT_rev {t:Tb} {l:List Wr} (hd:apartW l):valsT t l.reverse=valsT t l:=by
 unfold valsT
 have hm:(match ofK l.reverse 2 with|[]=>[initI t]|w::r=>[(maxW w r).u.value])=(match ofK l 2 with|[]=>[initI t]|w::r=>[(maxW w r).u.value]):=by
  have hp:(ofK l.reverse 2).Perm (ofK l 2):=by rw [ofK_rev];exact List.reverse_perm _
  cases h1:ofK l 2 with
  | nil=>
   rw [h1] at hp
   rw [hp.eq_nil]
  | cons w r=>
   cases h2:ofK l.reverse 2 with
   | nil=>rw [h1,h2] at hp;exact absurd hp.symm.eq_nil (by simp)
   | cons v k=>
    rw [h1,h2] at hp
    have hsub:∀ x∈v::k,x∈l:=fun x hx=>by
     rw [← h2] at hx
     exact List.mem_reverse.1 (List.mem_filter.1 hx).1
    dsimp only
    rw [maxW_perm hp fun a ha b hb=>hd a (hsub a ha) b (hsub b hb)]
 rw [hm,liveV_rev,sortI_perm (List.reverse_perm (liveV l))]
 simp only [seenW_rev,ofK_rev,List.any_reverse,ne_eq,List.reverse_eq_nil_iff]
def keyEq (x y:Ev):Bool:=decide (x.t=y.t) && decide (x.r=y.r)
def apartB (l:List Ev):Bool:=allI (fun i x=>!(l.take i).any (keyEq x)) l
theorem apart_at {l:List Ev} (h:apartB l=true) {i j:Nat} {x y:Ev} (hx:l[i]?=some x) (hy:l[j]?=some y) (hk:keyEq x y=true):i=j:=by
 have key:∀ {i j:Nat} {x y:Ev},l[i]?=some x→l[j]?=some y→keyEq x y=true→¬ j < i:=fun {i j x y} hx hy hk hlt=>by
  have h1:=allI_iff.1 h i x hx
  rw [Bool.not_eq_true',← Bool.not_eq_true,List.any_eq_true] at h1
  exact h1 ⟨y,List.mem_iff_getElem?.2 ⟨j,by rw [List.getElem?_take,if_pos hlt,hy]⟩,hk⟩
 have hk':keyEq y x=true:=by
  unfold keyEq at hk ⊢
  simp only [Bool.and_eq_true,decide_eq_true_eq] at hk ⊢
  exact ⟨hk.1.symm,hk.2.symm⟩
 have h1:=key hx hy hk
 have h2:=key hy hx hk'
 omega
theorem mem_wrs {m:Md} {l:List Ev} {c:Int} {w:Wr}:w∈wrs m l c↔w.e∈l∧updOf m c w.e=some w.u:=by
 unfold wrs
 rw [List.mem_filterMap]
 constructor
 ·rintro ⟨e,he,h⟩
  cases hu:updOf m c e with
  | none=>rw [hu] at h;cases h
  | some u=>rw [hu] at h;cases h;exact ⟨he,hu⟩
 ·rintro ⟨he,hu⟩
  exact ⟨w.e,he,by rw [hu];rfl⟩
theorem apart_wrs {m:Md} {l:List Ev} (h:apartB l=true) (c:Int):apartW (wrs m l c):=fun a ha b hb ht hr=>by
 obtain ⟨a1,a2⟩:=mem_wrs.1 ha
 obtain ⟨b1,b2⟩:=mem_wrs.1 hb
 obtain ⟨i,hi⟩:=List.mem_iff_getElem?.1 a1
 obtain ⟨j,hj⟩:=List.mem_iff_getElem?.1 b1
 have hij:=apart_at h hi hj (by unfold keyEq;rw [decide_eq_true ht,decide_eq_true hr];rfl)
 subst hij
 rw [hi] at hj
 have he:a.e=b.e:=Option.some.inj hj
 rw [he,b2] at a2
 have hu:b.u=a.u:=Option.some.inj a2
 cases a;cases b
 simp_all
def mrgT (S:List Int) (t:Tb):List Tb:=if strictK t.kind=true then [] else List.replicate (numberS S t.cols).toNat t
def mrgL (S:List Int) (l:List Tb):List Tb:=l.flatMap (mrgT S)
def valuesF (m:Md) (l:List Ev):List (List Int):=(mrgL m.sorts m.tables).mapIdx fun i t=>valsT t (wrs m l (i:Int))
theorem valuesF_rev {m:Md} {l:List Ev} (h:apartB l=true):valuesF m l.reverse=valuesF m l:=by
 unfold valuesF
 congr 1
 funext i t
 rw [wrs_rev,valsT_rev (apart_wrs h _)]
section
variable {W:List Wr} {w:Wr} (h1:∀ x∈W,hasS w.e.past x.e.r x.e.n=true) (h2:∀ x∈W,hasS x.e.past w.e.r w.e.n=false) (h3:hasS w.e.past w.e.r w.e.n=false) (h4:∀ x∈W,x.e.t < w.e.t)
include h2 h3 in
end
end Go.Proofs.YtgbfedgghjcdcaaGreatDoor
namespace Go.Proofs.YtgbfedgghjcdcaaGreatDoor
def sinkB (l:List Hde) (O:List Int) (t:Int):Bool:=!l.any fun h=>decide (h.table=t) && decide (h.to∈O)
theorem sinkB_iff {l:List Hde} {O:List Int} {t:Int}:sinkB l O t=true↔∀ h∈l,h.table=t→h.to ∉ O:=by
 unfold sinkB
 rw [Bool.not_eq_true',← Bool.not_eq_true,List.any_eq_true]
 constructor
 ·intro h x hx ht ho
  exact h ⟨x,hx,by simp [ht,ho]⟩
 ·rintro h ⟨x,hx,hb⟩
  simp only [Bool.and_eq_true,decide_eq_true_eq] at hb
  exact h x hx hb.1 hb.2
theorem leads_0 {l:List Hde} {a b:Int}:leadsB l 0 a b=true↔a=b:=by simp [leadsB]
theorem leads_s {l:List Hde} {n:Nat} {a b:Int}:leadsB l (n+1) a b=true↔a=b∨∃ h∈l,h.table=a∧leadsB l n h.to b=true:=by
 show (decide (a=b) || l.any fun h=>decide (h.table=a) && leadsB l n h.to b)=true↔_
 rw [Bool.or_eq_true,decide_eq_true_eq,List.any_eq_true]
 simp only [Bool.and_eq_true,decide_eq_true_eq]
theorem leads_refl {l:List Hde} (n:Nat) (a:Int):leadsB l n a a=true:=by
 cases n with
 | zero=>exact leads_0.2 rfl
 | succ n=>exact leads_s.2 (.inl rfl)
theorem leads_app {l:List Hde} {h:Hde} (hh:h∈l):∀ {n:Nat} {a:Int},leadsB l n a h.table=true→leadsB l (n+1) a h.to=true
 | 0,a,hl=>by
  have:=leads_0.1 hl
  exact leads_s.2 (.inr ⟨h,hh,this.symm,leads_refl _ _⟩)
 | n+1,a,hl=>by
  rcases leads_s.1 hl with rfl|⟨x,hx,ht,hl'⟩
  ·exact leads_s.2 (.inr ⟨h,hh,rfl,leads_refl _ _⟩)
  ·exact leads_s.2 (.inr ⟨x,hx,ht,leads_app hh hl'⟩)
def onC (l:List Hde) (h:Hde) (x:Int):Prop:=(∃ i,leadsB l i h.to x=true)∧∃ j,leadsB l j x h.table=true
theorem onC_next {l:List Hde} {h:Hde} {n:Nat} (hh:h∈l) (hc:leadsB l n h.to h.table=true) {x:Int} (hx:onC l h x):∃ g∈l,g.table=x∧onC l h g.to:=by
 obtain ⟨⟨i,hi⟩,j,hj⟩:=hx
 cases j with
 | zero=>
  have:=leads_0.1 hj
  exact ⟨h,hh,this.symm,⟨0,leads_refl _ _⟩,n,hc⟩
 | succ j=>
  rcases leads_s.1 hj with rfl|⟨g,hg,hgt,hgl⟩
  ·exact ⟨h,hh,rfl,⟨0,leads_refl _ _⟩,n,hc⟩
  ·exact ⟨g,hg,hgt,⟨i+1,leads_app hg (by rw [hgt];exact hi)⟩,j,hgl⟩
theorem onC_keep {l:List Hde} {h:Hde} {n:Nat} (hh:h∈l) (hc:leadsB l n h.to h.table=true) {O:List Int} (hO:∀ x,onC l h x→x∈O) {t:Int} (ht:onC l h t):sinkB l O t=false:=by
 rw [← Bool.not_eq_true,sinkB_iff]
 intro hs
 obtain ⟨g,hg,hgt,hgc⟩:=onC_next hh hc ht
 exact hs g hg hgt (hO _ hgc)
theorem onC_self {l:List Hde} {h:Hde} {n:Nat} (hc:leadsB l n h.to h.table=true):onC l h h.table:=⟨⟨n,hc⟩,0,leads_refl _ _⟩
def Cyc (l:List Hde) (n:Nat) (O:List Int):Prop:=∀ h∈l,leadsB l n h.to h.table=true→∀ x,onC l h x→x∈O
structure PassI (l:List Hde) (n:Nat) (O seen cur:List Int):Prop where
 sub:cur.Sublist O
 gone:∀ t∈seen,sinkB l O t=true→t ∉ cur
 cyc:Cyc l n O→Cyc l n cur
theorem PassI.start {l:List Hde} {n:Nat} {O:List Int}:PassI l n O [] O:=⟨List.Sublist.refl _,fun _ h=>absurd h (by simp),id⟩
theorem sink_sub {l:List Hde} {O cur:List Int} {t:Int} (h:∀ x∈cur,x∈O) (hs:sinkB l O t=true):sinkB l cur t=true:=by
 rw [sinkB_iff] at hs ⊢
 exact fun g hg hgt hc=>hs g hg hgt (h _ hc)
theorem PassI.keep {l:List Hde} {n:Nat} {O seen cur:List Int} {t:Int} (h:PassI l n O seen cur) (hs:sinkB l cur t=false):PassI l n O (t::seen) cur where
 sub:=h.sub
 gone:=fun x hx hO=>by
  rcases List.mem_cons.1 hx with rfl|hx
  ·exact absurd (sink_sub (fun y hy=>h.sub.subset hy) hO) (by rw [hs];decide)
  ·exact h.gone x hx hO
 cyc:=h.cyc
theorem PassI.drop {l:List Hde} {n:Nat} {O seen cur:List Int} {t:Int} (h:PassI l n O seen cur) (hs:sinkB l cur t=true):PassI l n O (t::seen) (cur.filter fun x=>!decide (x=t)) where
 sub:=(List.filter_sublist).trans h.sub
 gone:=fun x hx hO hm=>by
  obtain ⟨hm1,hm2⟩:=List.mem_filter.1 hm
  rcases List.mem_cons.1 hx with rfl|hx
  ·simp at hm2
  ·exact h.gone x hx hO hm1
 cyc:=fun hO g hg hc x hx=>by
  have hcur:=h.cyc hO
  refine List.mem_filter.2 ⟨hcur g hg hc x hx,?_⟩
  have:x≠t:=by
   rintro rfl
   rw [onC_keep hg hc (hcur g hg hc) hx] at hs
   cases hs
  simpa using this
structure InvH (l:List Hde) (n k:Nat) (O:List Int):Prop where
 dif:O.Nodup
 rng:∀ t∈O,0≤t∧t < n
 few:(∀ h∈l,leadsB l n h.to h.table=false)→O.length≤l.length - k
 cyc:Cyc l n O
theorem InvH.done {l:List Hde} {n:Nat} {O:List Int} (h:InvH l n l.length O):decide (O.length=0)=l.all fun g=>!leadsB l n g.to g.table:=by
 cases hb:l.all fun g=>!leadsB l n g.to g.table with
 | true=>
  have hac:∀ g∈l,leadsB l n g.to g.table=false:=fun g hg=>by simpa using List.all_eq_true.1 hb g hg
  have:=h.few hac
  exact decide_eq_true (by omega)
 | false=>
  rw [← Bool.not_eq_true,List.all_eq_true] at hb
  have:∃ g∈l,leadsB l n g.to g.table=true:=by
   apply Classical.byContradiction
   intro hn
   apply hb
   intro g hg
   cases hc:leadsB l n g.to g.table with
   | false=>rfl
   | true=>exact absurd ⟨g,hg,hc⟩ hn
  obtain ⟨g,hg,hc⟩:=this
  have hm:=h.cyc g hg hc _ (onC_self hc)
  have:O.length≠0:=by intro h0;rw [List.length_eq_zero_iff.1 h0] at hm;cases hm
  simpa using this
end Go.Proofs.YtgbfedgghjcdcaaGreatDoor
