/- Law 52: the arguments' shapes;the program is one that the evaluator takes;the library's contracts. Conditions: the library's table of powers stands. -/
import Derived.Test.YtjdhnoffoknlnaaGreatDoorWA
import Derived.Test.YtjdhnoffoknlnaaGreatDoorTD
import Derived.Test.YtjdhnoffoknlnaaGreatDoorShelf
import Derived.Test.YtjdhnoffoknlnaaGreatDoorTW
set_option linter.unusedSimpArgs false
set_option linter.unusedVariables false
set_option linter.unusedSectionVars false
namespace Go.Proofs.YtjdhnoffoknlnaaGreatDoor
open Go.RowKit
set_option maxRecDepth 100000
theorem list_of {α β:Type} {f:α→β} {R:α→Prop}:∀ {es:List β},(∀ c∈es,∃ a,c=f a∧R a)→∃ l:List α,es=l.map f∧∀ a∈l,R a
 | [],_=>⟨[],rfl,fun a h=>by cases h⟩
 | c::es,h=>by
  obtain ⟨a,rfl,ha⟩:=h c List.mem_cons_self
  obtain ⟨l,rfl,hl⟩:=list_of fun c hc=>h c (List.mem_cons_of_mem _ hc)
  refine ⟨a::l,rfl,fun b hb=>?_⟩
  rcases List.mem_cons.1 hb with rfl|hb
  ·exact ha
  ·exact hl b hb
theorem shp_int {m:Nat} {xs:List AV} (h:Shp Tryz.prog (m+1) 3 xs):∃ n,xs=[.int .i64 n]:=by
 simp only [Shp,Tryz.underlying3] at h
 obtain ⟨n,h,_⟩:=h
 exact ⟨n,h⟩
theorem shp_bool {m:Nat} {xs:List AV} (h:Shp Tryz.prog (m+1) 4 xs):∃ n,xs=[.bool n]:=by
 simp only [Shp,Tryz.underlying4] at h
 exact h
theorem shp_ints {m:Nat} {xs:List AV} (h:Shp Tryz.prog (m+2) 29 xs):∃ l:List Int,xs=[intsA l]∧l.length≤17592186044416:=by
 rw [Shp] at h
 simp only [Tryz.underlying29] at h
 obtain ⟨es,rfl,hl,he⟩:=h
 obtain ⟨l,rfl,_⟩:=list_of (f:=fun n=>[AV.int .i64 n]) (R:=fun _=>True) fun c hc=>by
  obtain ⟨n,rfl⟩:=shp_int (he c hc)
  exact ⟨n,rfl,trivial⟩
 exact ⟨l,rfl,by simpa using hl⟩
theorem shp_right {m:Nat} {xs:List AV} (h:Shp Tryz.prog (m+2) 31 xs):∃ a b c:Int,xs=[.int .i64 a,.int .i64 b,.int .i64 c]:=by
 rw [Shp] at h
 simp only [Tryz.underlying31,ShpF] at h
 obtain ⟨y0,_,rfl,h0,y1,_,rfl,h1,y2,_,rfl,h2,rfl⟩:=h
 obtain ⟨a,rfl⟩:=shp_int h0
 obtain ⟨b,rfl⟩:=shp_int h1
 obtain ⟨c,rfl⟩:=shp_int h2
 exact ⟨a,b,c,rfl⟩
theorem shp_need {m:Nat} {xs:List AV} (h:Shp Tryz.prog (m+3) 33 xs):∃ a b c d:Int,xs=[.int .i64 a,.int .i64 b,.int .i64 c,.int .i64 d]:=by
 rw [Shp] at h
 simp only [Tryz.underlying33,ShpF] at h
 obtain ⟨y0,_,rfl,h0,y1,_,rfl,h1,rfl⟩:=h
 obtain ⟨a,b,c,rfl⟩:=shp_right h0
 obtain ⟨d,rfl⟩:=shp_int h1
 exact ⟨a,b,c,d,rfl⟩
theorem shp_event {m:Nat} {xs:List AV} (h:Shp Tryz.prog (m+4) 35 xs):∃ e:Ev,xs=evCs e∧e.past.length≤17592186044416:=by
 rw [Shp] at h
 simp only [Tryz.underlying35,ShpF] at h
 obtain ⟨y0,_,rfl,h0,y1,_,rfl,h1,y2,_,rfl,h2,y3,_,rfl,h3,y4,_,rfl,h4,y5,_,rfl,h5,y6,_,rfl,h6,y7,_,rfl,h7,y8,_,rfl,h8,y9,_,rfl,h9,rfl⟩:=h
 obtain ⟨r,rfl⟩:=shp_int h0
 obtain ⟨n,rfl⟩:=shp_int h1
 obtain ⟨t,rfl⟩:=shp_int h2
 obtain ⟨past,rfl,hp⟩:=shp_ints h3
 obtain ⟨k,rfl⟩:=shp_int h4
 obtain ⟨a,rfl⟩:=shp_int h5
 obtain ⟨gk,gi,ge,ga,rfl⟩:=shp_need h6
 obtain ⟨tq,rfl⟩:=shp_int h7
 obtain ⟨pl,rfl⟩:=shp_int h8
 obtain ⟨se,rfl⟩:=shp_int h9
 exact ⟨⟨r,n,t,past,k,a,gk,gi,ge,ga,tq,pl,se⟩,rfl,hp⟩
theorem shp_act {m:Nat} {xs:List AV} (h:Shp Tryz.prog (m+5) 37 xs):∃ a:SAct,xs=actCs a∧a.cl.length≤17592186044416∧a.ev.past.length≤17592186044416:=by
 rw [Shp] at h
 simp only [Tryz.underlying37,ShpF] at h
 obtain ⟨y0,_,rfl,h0,y1,_,rfl,h1,y2,_,rfl,h2,rfl⟩:=h
 obtain ⟨b,rfl⟩:=shp_bool h0
 obtain ⟨cl,rfl,hc⟩:=shp_ints h1
 obtain ⟨e,rfl,he⟩:=shp_event h2
 exact ⟨⟨b,cl,e⟩,by simp [actCs],hc,he⟩
theorem shp_acts {m:Nat} {xs:List AV} (h:Shp Tryz.prog (m+6) 22 xs):∃ l:List SAct,xs=[actsA l]∧l.length≤17592186044416∧∀ a∈l,a.cl.length≤17592186044416∧a.ev.past.length≤17592186044416:=by
 rw [Shp] at h
 simp only [Tryz.underlying22] at h
 obtain ⟨es,rfl,hl,he⟩:=h
 obtain ⟨l,rfl,hb⟩:=list_of (f:=actCs) (R:=fun a=>a.cl.length≤17592186044416∧a.ev.past.length≤17592186044416) fun c hc=>shp_act (he c hc)
 exact ⟨l,rfl,by simpa using hl,hb⟩
theorem arg_int {m:Nat} {x:AV} (h:Arg Tryz.prog (m+1) 3 x):∃ n,x=.int .i64 n:=by
 obtain ⟨xs,h1,h2⟩:=h
 obtain ⟨n,rfl⟩:=shp_int h1
 simp only [Tryz.underlying3] at h2
 cases h2
 exact ⟨n,rfl⟩
theorem arg_acts {m:Nat} {x:AV} (h:Arg Tryz.prog (m+6) 22 x):∃ l:List SAct,x=actsA l∧l.length≤17592186044416∧∀ a∈l,a.cl.length≤17592186044416∧a.ev.past.length≤17592186044416:=by
 obtain ⟨xs,h1,h2⟩:=h
 obtain ⟨l,rfl,h3⟩:=shp_acts h1
 simp only [Tryz.underlying22] at h2
 cases h2
 exact ⟨l,rfl,h3⟩
def Tab (w : World) : Prop := Lib.TabIs Tryz.prog w "internal/strconv.uint64pow10" .u64 Lib.pow10Tab
theorem gTab : Tryz.prog.globalNamed "internal/strconv.uint64pow10" = some 3 := by kernel_rfl
theorem tab_heap {w w':World} (h:Tab w) (he:w'.heap[3]?=w.heap[3]?):Tab w':=by
 unfold Tab Lib.TabIs World.var? at h ⊢
 rw [gTab] at h ⊢
 simp only [Option.bind_some] at h ⊢
 rw [he]
 exact h
theorem tab_lt {w:World} (h:Tab w):3 < w.heap.size:=by
 unfold Tab Lib.TabIs World.var? at h
 rw [gTab] at h
 simp only [Option.bind_some] at h
 rcases Nat.lt_or_ge 3 w.heap.size with h1|h1
 ·exact h1
 ·rw [Array.getElem?_eq_none h1] at h;cases h
theorem below_grow (w:World) (k:Nat) (os:Array Obj):Below w.heap.size w (Go.Sort.grow (w.drewN k) os):=
 ⟨rfl,rfl,rfl,by simp [Go.Sort.grow],fun i hi=>by show (w.heap++os)[i]?=_;rw [Array.getElem?_append_left hi]⟩
theorem strsOf_get:∀ {es:List (List AV)} {l:List ByteArray},strsOf es=some l→es=l.map fun s=>[.str s]
 | [],l,h=>by unfold strsOf at h;cases h;rfl
 | c::es,l,h=>by
  unfold strsOf at h
  split at h
  ·rename_i e;cases e
  ·rename_i s r e
   cases e
   split at h
   ·rename_i l' hl'
    cases h
    rw [strsOf_get hl'];rfl
   ·cases h
  ·cases h
theorem vr_int {M:Nat→Prop} {w:World} {k:IntKind} {n:Int} {v:Value} (h:VR M w (.int k n) v):v=.int k n:=by cases h;rfl
theorem vr_str {M:Nat→Prop} {w:World} {s:ByteArray} {v:Value} (h:VR M w (.str s) v):v=.string s:=by cases h;rfl
theorem wf_ext {γ:Glob} (hG:∀ w,γ.G w→Tab w) (f:Nat) (xs:List AV) (r:SV) (fr':Fr) (h:extT f xs=some (r,fr')):Known Tryz.prog f∧∀ (κ:Ctx) (w:World) (us:Array Value),Core γ κ [] κ.L w→κ.W=w→us.size=xs.length→(∀ (j:Nat) (x:AV) (u:Value),xs[j]?=some x→us[j]?=some u→VR (MA κ.M [] κ.L) w x u)→
  Calls Tryz.prog f us w fun e w'=>∃ v L',e=.returned v∧Core γ κ fr' L' w'∧SR (MA κ.M fr' L') L' w' r v:=by
 unfold extT at h
 split at h
 ·rename_i n hf
  have hf:f=52:=by simpa using hf
  subst hf
  split at h
  ·rename_i hb
   have hb:=of_decide_eq_true hb
   cases h
   refine ⟨⟨_,Tryz.func52,by kernel_rfl,by kernel_rfl⟩,fun κ w us hC hκ hs hv=>?_⟩
   have hT:Tab w:=hG _ hC.glob
   have e:us=#[.int .i64 n]:=by
    have hs:us.size=1:=hs
    have h0:=hv 0 _ us[0] rfl (by rw [Array.getElem?_eq_getElem (by omega)])
    have:=vr_int h0
    apply Array.ext
    ·simp [hs]
    ·intro i h1 h2
     have:i=0:=by simp at h2;omega
     subst this
     simpa using ‹us[0]=_›
   subst e
   refine (Tryz.strconv_Itoa n (by omega) (by omega) w hT).mono fun e w' ⟨he,k,os,hw⟩=>?_
   have hbl:Below w.heap.size w w':=by rw [hw];exact below_grow w k os
   exact ⟨_,κ.L,he,hC.later hbl,.t _ _ (.str _)⟩
  ·cases h
 ·rename_i es sep hf
  split at h
  ·rename_i l hf' hl
   have hf':f=53:=by simpa using hf'
   subst hf'
   split at h
   ·rename_i hb
    have hb:=of_decide_eq_true hb
    cases h
    refine ⟨⟨_,Tryz.func53,by kernel_rfl,by kernel_rfl⟩,fun κ w us hC hκ hs hv=>?_⟩
    have hes:=strsOf_get hl
    obtain ⟨v0,hv0⟩:∃ v0,us=#[v0,.string sep]∧VR (MA κ.M [] κ.L) w (.arr es) v0:=by
     have hs:us.size=2:=hs
     have h0:=hv 0 _ us[0] rfl (by rw [Array.getElem?_eq_getElem (by omega)])
     have h1:=vr_str (hv 1 _ us[1] rfl (by rw [Array.getElem?_eq_getElem (by omega)]))
     refine ⟨us[0],?_,h0⟩
     apply Array.ext
     ·simp [hs]
     ·intro i h2 h3
      have:i=0∨i=1:=by simp at h3;omega
      rcases this with rfl|rfl
      ·rfl
      ·simpa using h1
    obtain ⟨rfl,h0⟩:=hv0
    have fin:∀ (e:Ending) (w':World),e=.returned (.string ⟨(Lib.join (l.map (·.data.toList)) sep.data.toList).toArray⟩)∧Below w.heap.size w w'→∃ v L',e=.returned v∧Core γ κ [] L' w'∧SR (MA κ.M [] L') L' w' (.t (.str ⟨(Lib.join (l.map (·.data.toList)) sep.data.toList).toArray⟩)) v:=fun e w' ⟨he,hb⟩=>⟨_,κ.L,he,hC.later hb,.t _ _ (.str _)⟩
    cases h0 with
    | arr0 A c=>
     have:l=[]:=by cases l with|nil=>rfl|cons a l=>simp at hes
     subst this
     exact (Tryz.strings_Join_none A c sep w).mono fun e w' ⟨he,hw⟩=>fin e w' ⟨by rw [he];rfl,by rw [hw];exact Below.refl _ _⟩
    | arr b o c sz es us hne hlen hcap hbk hM hsz hc hr=>
     have hsz1:sz=1:=by
      cases l with
      | nil=>exact absurd hes hne
      | cons a l=>have:=hsz 0 [.str a] (by rw [hes];rfl);simpa using this.symm
     subst hsz1
     have hel:es.length=l.length:=by rw [hes];simp
     have hj:=Tryz.strings_Join b o c l sep w (fun j x hx=>by
      have hjl:j < es.length:=by rw [hel];exact lt_of_get hx
      have h1:=hc j 0 hjl (by omega)
      have h2:=hr j 0 [.str x] (.str x) (by rw [hes,List.getElem?_map,hx];rfl) rfl
      rw [vr_str h2] at h1
      simpa using h1) hbk (by omega) (by omega) hb
     rw [← hel] at hj
     exact hj.mono fun e w' h=>fin e w' h
   ·cases h
  ·cases h
 ·cases h
end Go.Proofs.YtjdhnoffoknlnaaGreatDoor
