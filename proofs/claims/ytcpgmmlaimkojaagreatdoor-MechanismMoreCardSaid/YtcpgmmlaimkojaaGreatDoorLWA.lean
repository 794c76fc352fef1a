/- Law 27: lists of needs compared;what all statements check first. No condition. -/
import Derived.Test.YtcpgmmlaimkojaaGreatDoorTLQ
import Derived.Test.YtcpgmmlaimkojaaGreatDoorRPD
set_option linter.unusedSimpArgs false
set_option linter.unusedVariables false
set_option linter.unusedSectionVars false
namespace Go.Proofs.YtcpgmmlaimkojaaGreatDoor
open Go.RowKit
set_option maxRecDepth 100000
set_option maxHeartbeats 32000000
theorem OpR.callY {g:Cfg} {d:Option (List Nat)} {i:Nat} {env:Env} {fr:Fr} (ks:List Nat) {c:Operand} {args:Array Operand} {tys:Array TypeId} {f n:Nat} {pa qa argv:List SV} {xs:List AV} {us':List SV} {r v:SV} {ex ex' fr1 fr':Fr} (hcl:Cl g f us' [] r ex) (hcal:calleeS (rd env c)=some (f,pa,qa)) (hav:pa++args.toList.map (rd env)++qa=argv) (hx:toAVs fr (treeArgs (handL g f 0 argv) argv)=some xs) (hh:dedup [] (handRefs (handL g f 0 argv) argv)=[]) (hm:mixArgs (idxσ []) (handL g f 0 argv) argv xs=us')
  (hr:flatS r=false) (hd:drOf d i=false) (hq:rchs fr (treeArgs (handL g f 0 argv) argv)=ks) (hz:LEq (freeze fr ks) fr1) (hn:fr.length=n) (hv:r.sub (backσ [] n)=v) (he:XFr (backσ [] n) ex ex') (hf:LEq (fr1++ex') fr'):OpR g d i env fr (.call ⟨.value c,args,tys⟩) v fr' []:=.call hcl hcal hav hx hh hm (by
 subst hv hn
 obtain rfl:=hf.eq
 obtain rfl:=he.eq
 obtain rfl:=hz.eq
 unfold callRes
 rw [hr,hd,hq]
 )
section
variable {g:Cfg} {d:Option (List Nat)} {ops:Array Oper} {i:Nat} {l:List Oper} {env:Env} {fr:Fr} {K':Env→Fr→Prop} {dst:Option Tmp} {op:Op} {ty:TypeId} {pos:String} {after:Array Edge} {x:SV} {j:Nat} {want:Bool}
theorem EvO.ku (hx:∀ C,step g C d i env fr op=some (x,fr,[])) (h:EvO g d ops (i+1) l (updO env dst x) fr K'):EvO g d ops i (⟨dst,op,ty,pos,after,none⟩::l) env fr K':=EvO.u (.r hx) h
theorem EvO.kg (hW:gOf ops env j want=some true) (hx:∀ C,step g C d i env fr op=some (x,fr,[])) (h:EvO g d ops (i+1) l (updO env dst (.yes x)) fr K'):EvO g d ops i (⟨dst,op,ty,pos,after,some (j,want)⟩::l) env fr K':=EvO.gt hW (.r hx) h
theorem EvO.cu (hx:OpR g d i env fr op x fr []) (h:EvO g d ops (i+1) l (updO env dst x) fr K'):EvO g d ops i (⟨dst,op,ty,pos,after,none⟩::l) env fr K':=EvO.u hx h
theorem EvO.cg (hW:gOf ops env j want=some true) (hx:OpR g d i env fr op x fr []) (h:EvO g d ops (i+1) l (updO env dst (.yes x)) fr K'):EvO g d ops i (⟨dst,op,ty,pos,after,some (j,want)⟩::l) env fr K':=EvO.gt hW hx h
end
theorem eqneed_c {A B:List Ned} (hA:A.length≤140737488351232) (hB:B.length≤140737488351232):Cl cfg 22 [.t (.arr (ndE A)),.t (.arr (ndE B))] [] (.t (.bool (decide (A=B)))) []:=by
 refine Cl.of_body rfl Tryz.func22 rfl rfl rfl ?_
 have hlA:=ndE_len A
 have hlB:=ndE_len B
 by_cases hl:A.length=B.length
 ·
  refine drvR ?_
  refine EvL.ind (fun q:Nat=>[(13,.t (.int .i64 (q:Int)))]) (fun q=>q≤A.length∧decide (A=B)=decide (A.drop q=B.drop q)) (fun q=>A.length - q) 0 rfl ⟨by omega,rfl⟩ (fun q hq=>?_)
  obtain ⟨h1,h2⟩:=hq
  rw [h2]
  rcases Nat.lt_or_ge q A.length with h3|h3
  ·
   obtain ⟨x,hx⟩:=get_of_lt h3
   obtain ⟨y,hy⟩:=get_of_lt (xs:=B) (k:=q) (by omega)
   have hc:=ndE_get hx
   have hd:=ndE_get hy
   by_cases he:x=y
   ·
    have ha:decide (A.drop q=B.drop q)=decide (A.drop (q+1)=B.drop (q+1)):=by rw [drop_get hx,drop_get hy,he];simp
    have hte:eqC cfg.P 20 51 [.int .i64 x.k,.int .i64 x.i,.int .i64 x.el,.int .i64 x.n] [.int .i64 y.k,.int .i64 y.i,.int .i64 y.el,.int .i64 y.n]=some true:=by rw [need_eq2,he];simp
    repeat' (first
|(with_reducible first|apply EvK.seq|apply EvK.block)
|((with_reducible apply EvK.text);(try case hm=>exact rfl))
|((with_reducible apply EvK.drawn);(case hm=>exact rfl))
|(with_reducible first|apply EvK.skip|apply thenK_n|apply blockK_n)
|((with_reducible apply EvK.cond_t);(case hc=>exact rfl))
|((with_reducible apply EvK.cond_f);(case hc=>exact rfl))
|((with_reducible apply EvO.spd_t);(case hp=>exact fao))
|(with_reducible apply EvO.nilT)
|((with_reducible apply EvO.u0);(case hx=>first
|((with_reducible apply OpR.nes);(case hx|hy=>exact rfl);(case hg=>exact need_g);(case ht=>exact rfl);(case hr=>exact hte))
|exact opq))
|fail)
    exact ⟨q+1,rfl,rfl,⟨by omega,ha⟩,by omega⟩
   ·
    have ha:decide (A.drop q=B.drop q)=false:=by rw [drop_get hx,drop_get hy];simp [he]
    have hte:eqC cfg.P 20 51 [.int .i64 x.k,.int .i64 x.i,.int .i64 x.el,.int .i64 x.n] [.int .i64 y.k,.int .i64 y.i,.int .i64 y.el,.int .i64 y.n]=some false:=by
     rw [need_eq2]
     obtain ⟨x1,x2,x3,x4⟩:=x
     obtain ⟨y1,y2,y3,y4⟩:=y
     simp at he ⊢
     intro h4 h5 h6
     exact he h4 h5 h6
    rw [ha]
    repeat' (first
|(with_reducible first|apply EvK.seq|apply EvK.block)
|((with_reducible apply EvK.text);(try case hm=>exact rfl))
|((with_reducible apply EvK.drawn);(case hm=>exact rfl))
|(with_reducible first|apply EvK.skip|apply EvK.ret|apply thenK_n|apply thenK_r|apply blockK_r)
|((with_reducible apply EvK.cond_t);(case hc=>exact rfl))
|((with_reducible apply EvO.spd_t);(case hp=>exact fao))
|(with_reducible apply EvO.nilT)
|((with_reducible apply EvO.u0);(case hx=>first
|((with_reducible apply OpR.nes);(case hx|hy=>exact rfl);(case hg=>exact need_g);(case ht=>exact rfl);(case hr=>exact hte))
|exact opq))
|fail)
    exact ⟨.inr rfl,rfl⟩
  ·
   have ha:decide (A.drop q=B.drop q)=true:=by rw [drop_end h3,drop_end (l:=B) (by omega)];rfl
   rw [ha]
   exact drv
 ·
  have ha:decide (A=B)=false:=by simp;intro h;exact hl (by rw [h])
  rw [ha]
  exact drv
theorem sameneed_c (A:List Ned) (hA:A.length≤140737488351232):Cl cfg 22 [.t (.arr (ndE A)),.t (.arr (ndE A))] [] (.t (.bool true)) []:=by
 have h:=eqneed_c (A:=A) (B:=A) hA hA
 rwa [show decide (A=A)=true by simp] at h
theorem sameint_c (A:List Int) (hA:A.length≤140737488351232):Cl cfg 25 [.t (intsA A),.t (intsA A)] [] (.t (.bool true)) []:=by
 have h:=equalint_c (xs:=A) (ys:=A) hA hA
 rwa [show (A == A)=true by simp] at h
def exA (o k d:Int):Actn:=⟨o,[k],⟨[⟨0,d⟩],[],[]⟩⟩
def exM:Md:=⟨[3],[⟨⟨#[99]⟩,1,[],0,3,0⟩],[⟨#[99]⟩],[⟨0,0,⟨[⟨0,-1⟩],0⟩,0,0⟩,⟨0,0,⟨[⟨0,1⟩],3⟩,0,0⟩],[⟨⟨#[116,119,111]⟩,false,[0]⟩,⟨⟨#[108,101,115,115]⟩,false,[0]⟩],[exA 0 0 2,exA 0 1 2,exA 0 2 2,exA 1 0 (-1),exA 1 1 (-1),exA 1 2 (-1)],[]⟩
def exP:Pln:=⟨[⟨0,zScn⟩,⟨1,zScn⟩],[⟨0,1,0,0,[⟨0,zScn⟩,⟨2,zScn⟩,⟨3,zScn⟩,⟨5,zScn⟩]⟩],[],[]⟩
theorem ex_c:Cl cfg 40 [] [] (.tup [.agg [.tc (intsE [3]),.tc (tbE exM.tables),.tc (nmE exM.fams),.tc (cnE exM.cons),.tc (opE exM.ops),.ls 0,.nil],.t (plA exP)]) [.row false false 5 (acE exM.acts)]:=⟨30,by kernel_rfl⟩
theorem ex_W:PW exM exP where
 md:=by
  constructor <;> simp [exM,exA]
 ef:=by
  intro a ha
  simp only [exM,List.mem_cons,List.not_mem_nil,or_false] at ha
  rcases ha with rfl|rfl|rfl|rfl|rfl|rfl <;> (constructor <;> simp [exA])
 op:=by simp [exM]
 pl:=by constructor <;> simp [exP]
theorem ex_v:planB exM exP=true:=by kernel_rfl
theorem ex_n:needsL exM exP 2 3=[⟨0,1,0,2⟩,⟨1,0,2,1⟩]:=by kernel_rfl
theorem ex_n5:needsL exM exP 5 3=[⟨0,0,0,1⟩,⟨1,0,2,3⟩]:=by kernel_rfl
theorem ex_g:chgsL exM 2 (-1) 0 exP.esc=[⟨0,0,0,2⟩]:=by kernel_rfl
theorem ex_s:slackL exM exP [1]=[1,2]:=by kernel_rfl
theorem lawake_c:Cl cfg 10 [] [] (.t (.bool true)) []:=by
 have k1:=pneeds_c (k:=2) (R:=3) ex_W (by kernel_rfl) (by decide)
 have k2:=pneeds_c (k:=5) (R:=3) ex_W (by kernel_rfl) (by decide)
 have k3:=pWriter_c (i:=0) (k:=5) ex_W
 have k4:=pElement_c (i:=0) (k:=2) ex_W
 have k5:=ex_W.v
 have k6:=pgives_c (k:=2) ex_W ex_v (by kernel_rfl) (by decide)
 have k7:=pElements_c (i:=0) ex_W
 have k8:=pexcl_c (e:=2) (f:=5) ex_W
 have k9:=pexcl_c (e:=2) (f:=3) ex_W
 have k10:=pexcl_c (e:=0) (f:=2) ex_W
 have k11:=pslack_c (s:=[1]) ex_W (by decide) (by kernel_rfl) (by decide)
 rw [ex_n,show placedB exP 2=false by kernel_rfl] at k1
 rw [ex_n5,show placedB exP 5=false by kernel_rfl] at k2
 rw [show (okP exM exP 0 5 && writeB exM (lckAt exP 0) 5)=true by kernel_rfl,show okP exM exP 0 5=true by kernel_rfl] at k3
 rw [show (if okP exM exP 0 2=true then elemL exM (lckAt exP 0) 2 else 0)=2 by kernel_rfl,show okP exM exP 0 2=true by kernel_rfl] at k4
 rw [ex_v] at k5
 rw [ex_g] at k6
 rw [show elemsP exM exP 0=3 by kernel_rfl] at k7
 rw [show (planB exM exP && exclB exM exP 2 5)=true by kernel_rfl] at k8
 rw [show (planB exM exP && exclB exM exP 2 3)=false by kernel_rfl] at k9
 rw [show (planB exM exP && exclB exM exP 0 2)=false by kernel_rfl] at k10
 rw [ex_s] at k11
 have q1:=sameneed_c [⟨0,1,0,2⟩,⟨1,0,2,1⟩] (by decide)
 have q2:=sameneed_c [⟨0,0,0,1⟩,⟨1,0,2,3⟩] (by decide)
 have q3:=sameneed_c [⟨0,0,0,2⟩] (by decide)
 have q4:=sameint_c [1,2] (by decide)
 have hex:=ex_c
 have hm:mdA exM=.agg [.arr (intsE [3]),.arr (tbE exM.tables),.arr (nmE exM.fams),.arr (cnE exM.cons),.arr (opE exM.ops),.arr (acE exM.acts),.arr []]:=rfl
 have hp:plA exP=.agg [.arr (esE exP.esc),.arr (lkE exP.locks),.arr (mbE exP.places),.arr (intsE exP.need)]:=rfl
 rw [hp] at hex
 rw [hm,hp] at k1 k2 k3 k4 k5 k6 k7 k8 k9 k10 k11
 generalize intsE [3]=s1 at *
 generalize tbE exM.tables=s2 at *
 generalize nmE exM.fams=s3 at *
 generalize cnE exM.cons=s4 at *
 generalize opE exM.ops=s5 at *
 generalize acE exM.acts=s6 at *
 generalize esE exP.esc=e1 at *
 generalize lkE exP.locks=e2 at *
 generalize mbE exP.places=e3 at *
 generalize intsE exP.need=e4 at *
 clear hm hp
 refine Cl.of_body rfl Tryz.func10 rfl rfl rfl ?_
 repeat' (first
|(with_reducible apply EvK.seq)
|((with_reducible apply EvK.text);(try case hm=>exact rfl))
|(with_reducible apply EvO.nilT)
|((with_reducible apply EvO.u0);(case hx=>first
|(exact oqX hex)
|exact opq))
|fail)
 repeat' (first
|(with_reducible apply EvK.seq)
|((with_reducible apply EvK.text);(try case hm=>exact rfl))
|(with_reducible apply EvO.nilT)
|((with_reducible apply EvO.u0);(case hx=>first
|((with_reducible apply OpR.callY [0]);(case hcal|hav|hx|hh|hm=>exact rfl);(case hcl=>exact k1);(case hr|hd=>exact rfl);(case hq=>kernel_rfl);(case hz=>exact leq);(case hn=>exact lnx);(case hv=>(conv=>lhs;whnf);try exact rfl);(case he=>exact xfr);(case hf=>exact leq))
|exact opq))
|fail)
 repeat' (first
|(with_reducible apply EvK.seq)
|((with_reducible apply EvK.text);(try case hm=>exact rfl))
|(with_reducible apply EvO.nilT)
|((with_reducible apply EvO.u0);(case hx=>first
|((with_reducible apply OpR.callY [0]);(case hcal|hav|hx|hh|hm=>exact rfl);(case hcl=>exact k2);(case hr|hd=>exact rfl);(case hq=>kernel_rfl);(case hz=>exact leq);(case hn=>exact lnx);(case hv=>(conv=>lhs;whnf);try exact rfl);(case he=>exact xfr);(case hf=>exact leq))
|exact opq))
|fail)
 repeat' (first
|(with_reducible apply EvK.seq)
|((with_reducible apply EvK.text);(try case hm=>exact rfl))
|(with_reducible apply EvO.nilT)
|((with_reducible apply EvO.u0);(case hx=>first
|(exact oqF k3)
|exact opq))
|fail)
 repeat' (first
|(with_reducible apply EvK.seq)
|((with_reducible apply EvK.text);(try case hm=>exact rfl))
|(with_reducible first|apply EvO.apc|apply EvO.nilT)
|((with_reducible apply EvO.u0);(case hx=>first
|(exact oqF k4)
|exact opq))
|fail)
 -- region 6 (printed by genLWA.py)
 refine EvO.cu (OpR.callF (pa:=[]) (qa:=[]) (argv:=[.agg [.tc s1,.tc s2,.tc s3,.tc s4,.tc s5,.ls 0,.nil],.t (.agg [.arr e1,.arr e2,.arr e3,.arr e4])]) (xs:=[.agg [.arr s1,.arr s2,.arr s3,.arr s4,.arr s5,.arr s6,.arr []],.agg [.arr e1,.arr e2,.arr e3,.arr e4]]) (hcl:=k5) (hcal:=by kernel_rfl) (hav:=by kernel_rfl) (hx:=by kernel_rfl) (hh:=by kernel_rfl) (hm:=by kernel_rfl) (hr:=by kernel_rfl)) ?_
 refine EvO.ku (x:=.t (.bool true)) (fun _=>by kernel_rfl) ?_
 refine EvO.kg (x:=.t (.bool false)) (by kernel_rfl) (fun _=>by kernel_rfl) ?_
 refine EvO.kg (x:=.t (.bool true)) (by kernel_rfl) (fun _=>by kernel_rfl) ?_
 refine EvO.ku (x:=.t (.bool true)) (fun _=>by kernel_rfl) ?_
 refine EvO.ku (x:=.t (.bool true)) (fun _=>by kernel_rfl) ?_
 refine EvO.kg (x:=.ls 3) (by kernel_rfl) (fun _=>by kernel_rfl) ?_
 refine EvO.kg (x:=.t (.agg [.int .i64 0,.int .i64 1,.int .i64 0])) (by kernel_rfl) (fun _=>by kernel_rfl) ?_
 refine EvO.kg (x:=.t (.agg [.int .i64 0,.int .i64 1,.int .i64 0,.int .i64 2])) (by kernel_rfl) (fun _=>by kernel_rfl) ?_
 refine EvO.kg (x:=.t (.agg [.int .i64 1,.int .i64 0,.int .i64 2])) (by kernel_rfl) (fun _=>by kernel_rfl) ?_
 refine EvO.kg (x:=.t (.agg [.int .i64 1,.int .i64 0,.int .i64 2,.int .i64 1])) (by kernel_rfl) (fun _=>by kernel_rfl) ?_
 refine EvO.kg (x:=.tc (ndE [⟨0,1,0,2⟩,⟨1,0,2,1⟩])) (by kernel_rfl) (fun _=>by kernel_rfl) ?_
 refine EvO.cg (by kernel_rfl) (OpR.callF (pa:=[]) (qa:=[]) (argv:=[.ls 3,.tc (ndE [⟨0,1,0,2⟩,⟨1,0,2,1⟩])]) (xs:=[.arr (ndE [⟨0,1,0,2⟩,⟨1,0,2,1⟩]),.arr (ndE [⟨0,1,0,2⟩,⟨1,0,2,1⟩])]) (hcl:=q1) (hcal:=by kernel_rfl) (hav:=by kernel_rfl) (hx:=by kernel_rfl) (hh:=by kernel_rfl) (hm:=by kernel_rfl) (hr:=by kernel_rfl)) ?_
 refine EvO.ku (x:=.t (.bool true)) (fun _=>by kernel_rfl) ?_
 refine EvO.ku (x:=.t (.bool true)) (fun _=>by kernel_rfl) ?_
 refine EvO.kg (x:=.ls 4) (by kernel_rfl) (fun _=>by kernel_rfl) ?_
 refine EvO.kg (x:=.t (.agg [.int .i64 0,.int .i64 0,.int .i64 0])) (by kernel_rfl) (fun _=>by kernel_rfl) ?_
 refine EvO.kg (x:=.t (.agg [.int .i64 0,.int .i64 0,.int .i64 0,.int .i64 1])) (by kernel_rfl) (fun _=>by kernel_rfl) ?_
 refine EvO.kg (x:=.t (.agg [.int .i64 1,.int .i64 0,.int .i64 2])) (by kernel_rfl) (fun _=>by kernel_rfl) ?_
 refine EvO.kg (x:=.t (.agg [.int .i64 1,.int .i64 0,.int .i64 2,.int .i64 3])) (by kernel_rfl) (fun _=>by kernel_rfl) ?_
 refine EvO.kg (x:=.tc (ndE [⟨0,0,0,1⟩,⟨1,0,2,3⟩])) (by kernel_rfl) (fun _=>by kernel_rfl) ?_
 refine EvO.cg (by kernel_rfl) (OpR.callF (pa:=[]) (qa:=[]) (argv:=[.ls 4,.tc (ndE [⟨0,0,0,1⟩,⟨1,0,2,3⟩])]) (xs:=[.arr (ndE [⟨0,0,0,1⟩,⟨1,0,2,3⟩]),.arr (ndE [⟨0,0,0,1⟩,⟨1,0,2,3⟩])]) (hcl:=q2) (hcal:=by kernel_rfl) (hav:=by kernel_rfl) (hx:=by kernel_rfl) (hh:=by kernel_rfl) (hm:=by kernel_rfl) (hr:=by kernel_rfl)) ?_
 refine EvO.ku (x:=.t (.bool true)) (fun _=>by kernel_rfl) ?_
 refine EvO.ku (x:=.t (.bool true)) (fun _=>by kernel_rfl) ?_
 refine EvO.kg (x:=.agg [.tc s1,.tc s2,.tc s3,.tc s4,.tc s5,.ls 0,.nil]) (by kernel_rfl) (fun _=>by kernel_rfl) ?_
 refine EvO.kg (x:=.t (.agg [.arr e1,.arr e2,.arr e3,.arr e4])) (by kernel_rfl) (fun _=>by kernel_rfl) ?_
 refine EvO.gt0 (by kernel_rfl) (OpR.callY [0] (pa:=[]) (qa:=[]) (argv:=[.agg [.tc s1,.tc s2,.tc s3,.tc s4,.tc s5,.ls 0,.nil],.t (.agg [.arr e1,.arr e2,.arr e3,.arr e4]),.t (.int .i64 2)]) (xs:=[.agg [.arr s1,.arr s2,.arr s3,.arr s4,.arr s5,.arr s6,.arr []],.agg [.arr e1,.arr e2,.arr e3,.arr e4],.int .i64 2]) (v:=.ls 5) (hcl:=k6) (hcal:=by kernel_rfl) (hav:=by kernel_rfl) (hx:=by kernel_rfl) (hh:=by kernel_rfl) (hm:=by kernel_rfl) (hr:=by kernel_rfl) (hd:=by kernel_rfl) (hq:=by kernel_rfl) (hz:=leq) (hn:=lnx) (hv:=by kernel_rfl) (he:=xfr) (hf:=leq)) ?_
 refine EvO.kg (x:=.t (.agg [.int .i64 0,.int .i64 0,.int .i64 0])) (by kernel_rfl) (fun _=>by kernel_rfl) ?_
 refine EvO.kg (x:=.t (.agg [.int .i64 0,.int .i64 0,.int .i64 0,.int .i64 2])) (by kernel_rfl) (fun _=>by kernel_rfl) ?_
 refine EvO.kg (x:=.tc (ndE [⟨0,0,0,2⟩])) (by kernel_rfl) (fun _=>by kernel_rfl) ?_
 refine EvO.cg (by kernel_rfl) (OpR.callF (pa:=[]) (qa:=[]) (argv:=[.ls 5,.tc (ndE [⟨0,0,0,2⟩])]) (xs:=[.arr (ndE [⟨0,0,0,2⟩]),.arr (ndE [⟨0,0,0,2⟩])]) (hcl:=q3) (hcal:=by kernel_rfl) (hav:=by kernel_rfl) (hx:=by kernel_rfl) (hh:=by kernel_rfl) (hm:=by kernel_rfl) (hr:=by kernel_rfl)) ?_
 refine EvO.ku (x:=.t (.bool true)) (fun _=>by kernel_rfl) ?_
 refine EvO.ku (x:=.t (.bool true)) (fun _=>by kernel_rfl) ?_
 refine EvO.kg (x:=.t (.bool true)) (by kernel_rfl) (fun _=>by kernel_rfl) ?_
 refine EvO.ku (x:=.t (.bool true)) (fun _=>by kernel_rfl) ?_
 refine EvO.ku (x:=.t (.bool true)) (fun _=>by kernel_rfl) ?_
 refine EvO.kg (x:=.t (.bool true)) (by kernel_rfl) (fun _=>by kernel_rfl) ?_
 refine EvO.ku (x:=.t (.bool true)) (fun _=>by kernel_rfl) ?_
 refine EvO.ku (x:=.t (.bool true)) (fun _=>by kernel_rfl) ?_
 refine EvO.kg (x:=.t (.int .i64 2)) (by kernel_rfl) (fun _=>by kernel_rfl) ?_
 refine EvO.kg (x:=.t (.bool true)) (by kernel_rfl) (fun _=>by kernel_rfl) ?_
 refine EvO.ku (x:=.t (.bool true)) (fun _=>by kernel_rfl) ?_
 refine EvO.ku (x:=.t (.bool true)) (fun _=>by kernel_rfl) ?_
 refine EvO.kg (x:=.t (.bool true)) (by kernel_rfl) (fun _=>by kernel_rfl) ?_
 refine EvO.ku (x:=.t (.bool true)) (fun _=>by kernel_rfl) ?_
 refine EvO.ku (x:=.t (.bool true)) (fun _=>by kernel_rfl) ?_
 refine EvO.kg (x:=.agg [.tc s1,.tc s2,.tc s3,.tc s4,.tc s5,.ls 0,.nil]) (by kernel_rfl) (fun _=>by kernel_rfl) ?_
 refine EvO.kg (x:=.t (.agg [.arr e1,.arr e2,.arr e3,.arr e4])) (by kernel_rfl) (fun _=>by kernel_rfl) ?_
 refine EvO.cg (by kernel_rfl) (OpR.callF (pa:=[]) (qa:=[]) (argv:=[.agg [.tc s1,.tc s2,.tc s3,.tc s4,.tc s5,.ls 0,.nil],.t (.agg [.arr e1,.arr e2,.arr e3,.arr e4]),.t (.int .i64 0)]) (xs:=[.agg [.arr s1,.arr s2,.arr s3,.arr s4,.arr s5,.arr s6,.arr []],.agg [.arr e1,.arr e2,.arr e3,.arr e4],.int .i64 0]) (hcl:=k7) (hcal:=by kernel_rfl) (hav:=by kernel_rfl) (hx:=by kernel_rfl) (hh:=by kernel_rfl) (hm:=by kernel_rfl) (hr:=by kernel_rfl)) ?_
 refine EvO.kg (x:=.t (.bool true)) (by kernel_rfl) (fun _=>by kernel_rfl) ?_
 refine EvO.ku (x:=.t (.bool true)) (fun _=>by kernel_rfl) ?_
 refine EvO.ku (x:=.t (.bool true)) (fun _=>by kernel_rfl) ?_
 refine EvO.kg (x:=.agg [.tc s1,.tc s2,.tc s3,.tc s4,.tc s5,.ls 0,.nil]) (by kernel_rfl) (fun _=>by kernel_rfl) ?_
 refine EvO.kg (x:=.t (.agg [.arr e1,.arr e2,.arr e3,.arr e4])) (by kernel_rfl) (fun _=>by kernel_rfl) ?_
 refine EvO.cg (by kernel_rfl) (OpR.callF (pa:=[]) (qa:=[]) (argv:=[.agg [.tc s1,.tc s2,.tc s3,.tc s4,.tc s5,.ls 0,.nil],.t (.agg [.arr e1,.arr e2,.arr e3,.arr e4]),.t (.int .i64 2),.t (.int .i64 5)]) (xs:=[.agg [.arr s1,.arr s2,.arr s3,.arr s4,.arr s5,.arr s6,.arr []],.agg [.arr e1,.arr e2,.arr e3,.arr e4],.int .i64 2,.int .i64 5]) (hcl:=k8) (hcal:=by kernel_rfl) (hav:=by kernel_rfl) (hx:=by kernel_rfl) (hh:=by kernel_rfl) (hm:=by kernel_rfl) (hr:=by kernel_rfl)) ?_
 refine EvO.ku (x:=.t (.bool true)) (fun _=>by kernel_rfl) ?_
 refine EvO.ku (x:=.t (.bool true)) (fun _=>by kernel_rfl) ?_
 refine EvO.kg (x:=.agg [.tc s1,.tc s2,.tc s3,.tc s4,.tc s5,.ls 0,.nil]) (by kernel_rfl) (fun _=>by kernel_rfl) ?_
 refine EvO.kg (x:=.t (.agg [.arr e1,.arr e2,.arr e3,.arr e4])) (by kernel_rfl) (fun _=>by kernel_rfl) ?_
 refine EvO.cg (by kernel_rfl) (OpR.callF (pa:=[]) (qa:=[]) (argv:=[.agg [.tc s1,.tc s2,.tc s3,.tc s4,.tc s5,.ls 0,.nil],.t (.agg [.arr e1,.arr e2,.arr e3,.arr e4]),.t (.int .i64 2),.t (.int .i64 3)]) (xs:=[.agg [.arr s1,.arr s2,.arr s3,.arr s4,.arr s5,.arr s6,.arr []],.agg [.arr e1,.arr e2,.arr e3,.arr e4],.int .i64 2,.int .i64 3]) (hcl:=k9) (hcal:=by kernel_rfl) (hav:=by kernel_rfl) (hx:=by kernel_rfl) (hh:=by kernel_rfl) (hm:=by kernel_rfl) (hr:=by kernel_rfl)) ?_
 refine EvO.kg (x:=.t (.bool true)) (by kernel_rfl) (fun _=>by kernel_rfl) ?_
 refine EvO.ku (x:=.t (.bool true)) (fun _=>by kernel_rfl) ?_
 refine EvO.ku (x:=.t (.bool true)) (fun _=>by kernel_rfl) ?_
 refine EvO.kg (x:=.agg [.tc s1,.tc s2,.tc s3,.tc s4,.tc s5,.ls 0,.nil]) (by kernel_rfl) (fun _=>by kernel_rfl) ?_
 refine EvO.kg (x:=.t (.agg [.arr e1,.arr e2,.arr e3,.arr e4])) (by kernel_rfl) (fun _=>by kernel_rfl) ?_
 refine EvO.cg (by kernel_rfl) (OpR.callF (pa:=[]) (qa:=[]) (argv:=[.agg [.tc s1,.tc s2,.tc s3,.tc s4,.tc s5,.ls 0,.nil],.t (.agg [.arr e1,.arr e2,.arr e3,.arr e4]),.t (.int .i64 0),.t (.int .i64 2)]) (xs:=[.agg [.arr s1,.arr s2,.arr s3,.arr s4,.arr s5,.arr s6,.arr []],.agg [.arr e1,.arr e2,.arr e3,.arr e4],.int .i64 0,.int .i64 2]) (hcl:=k10) (hcal:=by kernel_rfl) (hav:=by kernel_rfl) (hx:=by kernel_rfl) (hh:=by kernel_rfl) (hm:=by kernel_rfl) (hr:=by kernel_rfl)) ?_
 refine EvO.kg (x:=.t (.bool true)) (by kernel_rfl) (fun _=>by kernel_rfl) ?_
 refine EvO.ku (x:=.t (.bool true)) (fun _=>by kernel_rfl) ?_
 refine EvO.ku (x:=.t (.bool true)) (fun _=>by kernel_rfl) ?_
 refine EvO.kg (x:=.agg [.tc s1,.tc s2,.tc s3,.tc s4,.tc s5,.ls 0,.nil]) (by kernel_rfl) (fun _=>by kernel_rfl) ?_
 refine EvO.kg (x:=.t (.agg [.arr e1,.arr e2,.arr e3,.arr e4])) (by kernel_rfl) (fun _=>by kernel_rfl) ?_
 refine EvO.kg (x:=.tc (intsE [1])) (by kernel_rfl) (fun _=>by kernel_rfl) ?_
 refine EvO.gt0 (by kernel_rfl) (OpR.callY [0] (pa:=[]) (qa:=[]) (argv:=[.agg [.tc s1,.tc s2,.tc s3,.tc s4,.tc s5,.ls 0,.nil],.t (.agg [.arr e1,.arr e2,.arr e3,.arr e4]),.tc (intsE [1])]) (xs:=[.agg [.arr s1,.arr s2,.arr s3,.arr s4,.arr s5,.arr s6,.arr []],.agg [.arr e1,.arr e2,.arr e3,.arr e4],.arr (intsE [1])]) (v:=.ls 6) (hcl:=k11) (hcal:=by kernel_rfl) (hav:=by kernel_rfl) (hx:=by kernel_rfl) (hh:=by kernel_rfl) (hm:=by kernel_rfl) (hr:=by kernel_rfl) (hd:=by kernel_rfl) (hq:=by kernel_rfl) (hz:=leq) (hn:=lnx) (hv:=by kernel_rfl) (he:=xfr) (hf:=leq)) ?_
 refine EvO.kg (x:=.tc (intsE [1,2])) (by kernel_rfl) (fun _=>by kernel_rfl) ?_
 refine EvO.cg (by kernel_rfl) (OpR.callF (pa:=[]) (qa:=[]) (argv:=[.ls 6,.tc (intsE [1,2])]) (xs:=[.arr (intsE [1,2]),.arr (intsE [1,2])]) (hcl:=q4) (hcal:=by kernel_rfl) (hav:=by kernel_rfl) (hx:=by kernel_rfl) (hh:=by kernel_rfl) (hm:=by kernel_rfl) (hr:=by kernel_rfl)) ?_
 refine EvO.ku (x:=.t (.bool true)) (fun _=>by kernel_rfl) ?_
 refine EvO.ku (x:=.t (.bool true)) (fun _=>by kernel_rfl) ?_
 repeat' (first
|(with_reducible first|apply EvK.ret|apply EvO.nilT)
|fail)
 exact ⟨.inr rfl,rfl⟩
theorem few_w {m:Md} {p:Pln} (hm:MdL m) (hp:PlL p) (h:fewP m p=true):PW m p:=⟨hm,hm.eff,by have:=(few_b h).ops;omega,hp⟩
theorem needsL_len (m:Md) (p:Pln) (k R:Int):(needsL m p k R).length≤p.esc.length+p.locks.length:=by
 unfold needsL
 have h1:=chgsL_le (m:=m) (k:=k) (sg:=1) p.esc 0
 have h2:=shrsL_le (m:=m) (k:=k) (R:=R) p.locks 0
 rw [List.length_append]
 omega
end Go.Proofs.YtcpgmmlaimkojaaGreatDoor
