/- Law 32: EventPasts, a closed list that is not empty. No condition. -/
import Derived.Test.YtgbfedgghjcdcaaGreatDoorKL
import Derived.Test.YtgbfedgghjcdcaaGreatDoorED
namespace Go.Proofs.YtgbfedgghjcdcaaGreatDoor
set_option linter.unusedSimpArgs false
set_option linter.unusedVariables false
set_option linter.unusedSectionVars false
open Go.RowKit
set_option maxRecDepth 100000
set_option maxHeartbeats 32000000

theorem OpR.callY {g : Cfg} {d : Option (List Nat)} {i : Nat} {env : Env} {fr : Fr} (ks : List Nat) {c : Operand} {args : Array Operand} {tys : Array TypeId} {f n : Nat} {pa qa argv : List SV} {xs : List AV} {us' : List SV} {r v : SV} {ex ex' fr1 fr' : Fr} (hcl : Cl g f us' [] r ex) (hcal : calleeS (rd env c) = some (f, pa, qa)) (hav : pa ++ args.toList.map (rd env) ++ qa = argv) (hx : toAVs fr (treeArgs (handL g f 0 argv) argv) = some xs) (hh : dedup [] (handRefs (handL g f 0 argv) argv) = []) (hm : mixArgs (idxσ []) (handL g f 0 argv) argv xs = us')
    (hr : flatS r = false) (hd : drOf d i = false) (hq : rchs fr (treeArgs (handL g f 0 argv) argv) = ks) (hz : LEq (freeze fr ks) fr1) (hn : fr.length = n) (hv : r.sub (backσ [] n) = v) (he : XFr (backσ [] n) ex ex') (hf : LEq (fr1 ++ ex') fr') : OpR g d i env fr (.call ⟨.value c, args, tys⟩) v fr' [] := .call hcl hcal hav hx hh hm (by
  subst hv hn
  obtain rfl := hf.eq
  obtain rfl := he.eq
  obtain rfl := hz.eq
  unfold callRes
  rw [hr, hd, hq]
  )
theorem law_pasts_c {l : List Ev} {e0 : Ev} {l' : List Ev} {c : List Int} (hC : ClosedP l) (hl0 : l = e0 :: l') (hp : ∀ e ∈ l, e.past.length ≤ 140737488351232) (h30 : l.length ≤ 30) (hcl : c.length ≤ 17592186044416) (ka : Cl cfg 10 [] [] (.t (.bool true)) []) (kf : Cl cfg 11 [.t (.agg [.arr [], .arr [], .arr [], .arr [], .arr [], .arr [], .arr []]), .t (.arr (evsE l))] [] (.t (.bool true)) []) (kc : Cl cfg 37 [.t (.arr (evsE l))] [] (.t (.bool true)) []) (ko : Cl cfg 42 [.t (.arr (evsE l))] [] (.ls 0) [.row false false 13 (evsE (ordE l))]) (kv : Cl cfg 46 [.t (intsA c)] [] (.t (.bool (validB c))) []) :
    Cl cfg 9 [.t (.arr (evsE l)), .t (intsA c)] [] (.t (.bool true)) [] := by
  have hlE := evsE_len l
  have hcE := intsE_len c
  have hpos : 0 < l.length := by rw [hl0]; simp
  have hmem : ∀ (i : Nat) (a : Ev), (ordE l)[i]? = some a → a ∈ l := fun i a h => ordE_mem.1 (List.mem_of_getElem? h)
  have hOl := ordE_len l
  have hnames := ordE_names hC.names
  have hbo := fun i k a b => @bef_ord l hC i k a b
  obtain ⟨O, hO⟩ : ∃ O, ordE l = O := ⟨_, rfl⟩
  rw [hO] at ko hmem hOl hnames hbo
  have hOE := evsE_len O
  refine Cl.of_body rfl Tryz.func9 rfl rfl rfl ?_
  repeat' (first
     | (with_reducible apply EvK.seq)
     | (with_reducible apply EvK.block)
     | ((with_reducible apply EvK.text); (try case hm => exact rfl))
     | (with_reducible apply EvK.skip)
     | (with_reducible apply thenK_n)
     | ((with_reducible apply EvK.cond_f); (case hc => exact rfl))
     | ((with_reducible apply EvO.spn_f); (case hp => first | assumption | omega))
     | ((with_reducible apply EvO.spd_yf); (case hp => first | assumption | omega))
     | (with_reducible apply EvO.nilT)
     | ((with_reducible apply EvO.gt0); (case hW => exact rfl); (case hx => first
        | ((with_reducible apply OpR.mv); (conv => lhs; whnf); try exact rfl)
        | ((with_reducible apply OpR.callF); (case hcal => exact rfl); (case hav => exact rfl); (case hx => exact rfl); (case hh => exact rfl); (case hm => exact rfl); (case hcl => exact kc); (case hr => exact rfl))
        | ((with_reducible apply OpR.len); (case ha => exact rfl); (case hy => exact rfl); (case ht => exact rfl); (case hs => exact rfl); (case hn => first | exact List.length_map _ | exact rfl))
        | exact OpR.r fun _ => rfl))
     | ((with_reducible apply EvO.u0); (case hx => first
        | ((with_reducible apply OpR.mv); (conv => lhs; whnf); try exact rfl)
        | ((with_reducible apply OpR.asg); (conv => lhs; whnf); try exact rfl)
        | ((with_reducible apply OpR.pk_f); (case hc => exact rfl); (case h => (conv => lhs; whnf); try exact rfl))
        | ((with_reducible apply OpR.callF); (case hcal => exact rfl); (case hav => exact rfl); (case hx => exact rfl); (case hh => exact rfl); (case hm => exact rfl); (case hcl => exact ka); (case hr => exact rfl))
        | ((with_reducible apply OpR.callF); (case hcal => exact rfl); (case hav => exact rfl); (case hx => exact rfl); (case hh => exact rfl); (case hm => exact rfl); (case hcl => exact kf); (case hr => exact rfl))
        | ((with_reducible apply OpR.callX); (case hcal => exact rfl); (case hav => exact rfl); (case hx => exact rfl); (case hh => exact rfl); (case hm => exact rfl); (case hcl => exact ko); (case hr => exact rfl); (case hd => exact rfl); (case hq => kernel_rfl); (case hn => (first | exact ln0 | exact ln1 | exact ln2 | exact ln3 | exact ln4 | exact ln5 | exact ln6 | exact ln7 | exact ln8 | exact ln9 | exact ln10 | exact ln11 | exact ln12 | exact ln13 | exact ln14)); (case hv => (conv => lhs; whnf); try exact rfl); (case he => (repeat' (first | exact XFr.nil | (with_reducible apply XFr.row) | (with_reducible apply XFr.boxt) | ((apply XFr.box); (case hd => (repeat' (first | exact LEq.nil | ((with_reducible apply LEq.cons); (case h => (conv => lhs; whnf); try exact rfl)) | (apply LEq.cons; (case h => (conv => lhs; whnf); try exact rfl))))))))); (case hf => (repeat' (first | exact LEq.nil | ((with_reducible apply LEq.cons); (case h => (conv => lhs; whnf); try exact rfl)) | (apply LEq.cons; (case h => (conv => lhs; whnf); try exact rfl))))))
        | ((with_reducible apply OpR.len); (case ha => exact rfl); (case hy => exact rfl); (case ht => exact rfl); (case hs => exact rfl); (case hn => first | exact List.length_map _ | exact rfl))
        | exact OpR.r fun _ => rfl))
     | fail)
  apply EvK.loopV
  case ho => exact rfl
  case hp => exact rfl
  case hl => exact rfl
  case hs => repeat' (first | exact Slots.nil | (apply Slots.cons; (case hv => (conv => lhs; whnf); try exact rfl)))
  refine EvL.ind (fun i : Nat => [(45, .t (.int .i64 (i : Int)))]) (fun i => i ≤ O.length) (fun i => O.length - i) 0 rfl (by omega) (fun i hi => ?_)
  rcases Nat.lt_or_ge i O.length with i3 | i3
  ·
    obtain ⟨a, ha⟩ := get_of_lt i3
    have hca := evsE_get ha
    have ham := hmem _ _ ha
    repeat' (first
       | (with_reducible apply EvK.seq)
       | (with_reducible apply EvK.block)
       | ((with_reducible apply EvK.text); (try case hm => exact rfl))
       | (with_reducible apply EvK.skip)
       | (with_reducible apply thenK_n)
       | ((with_reducible apply EvK.cond_t); (case hc => exact rfl))
       | ((with_reducible apply EvO.spd_t); (case hp => first | assumption | omega))
       | (with_reducible apply EvO.nilT)
       | ((with_reducible apply EvO.u0); (case hx => first
          | ((with_reducible apply OpR.mv); (conv => lhs; whnf); try exact rfl)
          | ((with_reducible apply OpR.asg); (conv => lhs; whnf); try exact rfl)
          | ((with_reducible apply OpR.len); (case ha => exact rfl); (case hy => exact rfl); (case ht => exact rfl); (case hs => exact rfl); (case hn => first | exact List.length_map _ | exact rfl))
          | ((with_reducible apply OpR.al); (case hs => exact fun _ => rfl); (case hz => exact rfl); (case hc => (repeat' (first | exact LEq.nil | ((with_reducible apply LEq.cons); (case h => (conv => lhs; whnf); try exact rfl)) | (apply LEq.cons; (case h => (conv => lhs; whnf); try exact rfl))))); (case hn => (first | exact ln0 | exact ln1 | exact ln2 | exact ln3 | exact ln4 | exact ln5 | exact ln6 | exact ln7 | exact ln8 | exact ln9 | exact ln10 | exact ln11 | exact ln12 | exact ln13 | exact ln14)); (case hf => (repeat' (first | exact LEq.nil | ((with_reducible apply LEq.cons); (case h => (conv => lhs; whnf); try exact rfl)) | (apply LEq.cons; (case h => (conv => lhs; whnf); try exact rfl))))))
          | ((with_reducible apply OpR.stw); (case hs => exact fun _ => rfl); (case ha => exact rfl); (case hy => exact rfl); (case ht => first | (with_reducible exact sz0) | (with_reducible exact sz1) | (with_reducible exact sz2) | (with_reducible exact sz3) | (with_reducible exact sz4) | (with_reducible exact sz5) | (with_reducible exact sz6) | (with_reducible exact sz7) | (with_reducible exact sz8) | (with_reducible exact sz9) | exact rfl); (case ho => kernel_rfl); (case hl => kernel_rfl); (case hb => exact rfl); (case hc => kernel_rfl); (case hf => (repeat' (first | exact LEq.nil | ((with_reducible apply LEq.cons); (case h => (conv => lhs; whnf); try exact rfl)) | (apply LEq.cons; (case h => (conv => lhs; whnf); try exact rfl))))))
          | ((with_reducible apply OpR.ixr); (case he => first | (with_reducible exact el0) | (with_reducible exact el1) | (with_reducible exact el2) | (with_reducible exact el3) | (with_reducible exact el4) | (with_reducible exact el5) | (with_reducible exact el6) | (with_reducible exact el7) | exact rfl); (case hx => exact rfl); (case hi => exact rfl); (case hb => exact rfl); (case hq => first | assumption | omega))
          | ((with_reducible apply OpR.lds); (case hy => exact rfl); (case ht => first | (with_reducible exact sz0) | (with_reducible exact sz1) | (with_reducible exact sz2) | (with_reducible exact sz3) | (with_reducible exact sz4) | (with_reducible exact sz5) | (with_reducible exact sz6) | (with_reducible exact sz7) | (with_reducible exact sz8) | (with_reducible exact sz9)); (case hb => exact rfl); (case hk => assumption); (case hl => kernel_rfl); (case hv => (repeat' (first | exact LEq.nil | ((with_reducible apply LEq.cons); (case h => (conv => lhs; whnf); try exact rfl)) | (apply LEq.cons; (case h => (conv => lhs; whnf); try exact rfl))))))
          | exact OpR.r fun _ => rfl))
       | fail)
    apply EvK.loopV
    case ho => exact rfl
    case hp => exact rfl
    case hl => exact rfl
    case hs => repeat' (first | exact Slots.nil | (apply Slots.cons; (case hv => (conv => lhs; whnf); try exact rfl)))
    refine EvL.ind (fun k : Nat => [(52, .t (.int .i64 (k : Int)))]) (fun k => k ≤ O.length) (fun k => O.length - k) 0 rfl (by omega) (fun k hk => ?_)
    rcases Nat.lt_or_ge k O.length with k3 | k3
    ·
      obtain ⟨b, hb⟩ := get_of_lt k3
      have hcb := evsE_get hb
      have hbm := hmem _ _ hb
      have kab := before_c a b (hp a ham) (hp b hbm)
      have kba := before_c b a (hp b hbm) (hp a ham)
      have kcon := con_c a b (hp a ham) (hp b hbm)
      have hcon := con_eq hC ham hbm
      have hasy := bef_asym hC ham hbm
      have hord : befB a b = true → i < k := hbo i k a b ha hb
      have hne : i ≠ k → nm a ≠ nm b := fun h => by
        rcases Nat.lt_or_ge i k with h1 | h1
        · exact nodup_get hnames ha hb h1
        · exact fun e => nodup_get hnames hb ha (by omega) e.symm
      obtain ⟨b1, hb1⟩ : ∃ b1, befB a b = b1 := ⟨_, rfl⟩
      obtain ⟨b2, hb2⟩ : ∃ b2, befB b a = b2 := ⟨_, rfl⟩
      obtain ⟨b3, hb3⟩ : ∃ b3, conB a b = b3 := ⟨_, rfl⟩
      rw [hb1] at kab hasy hord
      rw [hb2] at kba hasy
      rw [hb3, hb1, hb2] at hcon
      rw [hb3] at kcon
      by_cases hik : (i : Int) = (k : Int)
      ·
        have hik2 : i = k := by omega
        subst hik2
        have hab : a = b := by rw [ha] at hb; cases hb; rfl
        have hb1f : b1 = false := by rw [← hb1, ← hab]; exact bef_irr hC ham
        have hb2f : b2 = false := by rw [← hb2, ← hab]; exact bef_irr hC ham
        have hb3f : b3 = false := by rw [hcon, hab]; simp
        have hbs : ([[AV.bool b1], [AV.bool b2], [AV.bool b3], [AV.bool true]] : List (List AV)) = [b1, b2, b3, true].map fun b => [AV.bool b] := rfl
        have hcnt : [b1, b2, b3, true].countP (fun b => b) = 1 := by rw [hb1f, hb2f, hb3f]; rfl
        repeat' (first
           | (with_reducible apply EvK.seq)
           | (with_reducible apply EvK.block)
           | ((with_reducible apply EvK.text); (try case hm => exact rfl))
           | ((with_reducible apply EvK.drawn); (case hm => exact rfl))
           | (with_reducible apply EvK.skip)
           | (with_reducible apply thenK_n)
           | ((with_reducible apply EvK.cond_t); (case hc => exact rfl))
           | ((with_reducible apply EvO.spd_t); (case hp => first | assumption | omega))
           | (with_reducible apply EvO.nilT)
           | ((with_reducible apply EvO.u0); (case hx => first
              | ((with_reducible apply OpR.mv); (conv => lhs; whnf); try exact rfl)
              | ((with_reducible apply OpR.asg); (conv => lhs; whnf); try exact rfl)
              | ((with_reducible apply OpR.bsl (es := [[.bool b1], [.bool b2], [.bool b3], [.bool true]])); (case hw => exact rfl); (case ho => kernel_rfl); (case h => kernel_rfl))
              | ((with_reducible apply OpR.callF); (case hcal => exact rfl); (case hav => exact rfl); (case hx => exact rfl); (case hh => exact rfl); (case hm => exact rfl); (case hcl => exact kab); (case hr => exact rfl))
              | ((with_reducible apply OpR.callF); (case hcal => exact rfl); (case hav => exact rfl); (case hx => exact rfl); (case hh => exact rfl); (case hm => exact rfl); (case hcl => exact kba); (case hr => exact rfl))
              | ((with_reducible apply OpR.callF); (case hcal => exact rfl); (case hav => exact rfl); (case hx => exact rfl); (case hh => exact rfl); (case hm => exact rfl); (case hcl => exact kcon); (case hr => exact rfl))
              | ((with_reducible apply OpR.len); (case ha => exact rfl); (case hy => exact rfl); (case ht => exact rfl); (case hs => exact rfl); (case hn => first | exact List.length_map _ | exact rfl))
              | ((with_reducible apply OpR.al); (case hs => exact fun _ => rfl); (case hz => exact rfl); (case hc => (repeat' (first | exact LEq.nil | ((with_reducible apply LEq.cons); (case h => (conv => lhs; whnf); try exact rfl)) | (apply LEq.cons; (case h => (conv => lhs; whnf); try exact rfl))))); (case hn => (first | exact ln0 | exact ln1 | exact ln2 | exact ln3 | exact ln4 | exact ln5 | exact ln6 | exact ln7 | exact ln8 | exact ln9 | exact ln10 | exact ln11 | exact ln12 | exact ln13 | exact ln14)); (case hf => (repeat' (first | exact LEq.nil | ((with_reducible apply LEq.cons); (case h => (conv => lhs; whnf); try exact rfl)) | (apply LEq.cons; (case h => (conv => lhs; whnf); try exact rfl))))))
              | ((with_reducible apply OpR.stw); (case hs => exact fun _ => rfl); (case ha => exact rfl); (case hy => exact rfl); (case ht => first | (with_reducible exact sz0) | (with_reducible exact sz1) | (with_reducible exact sz2) | (with_reducible exact sz3) | (with_reducible exact sz4) | (with_reducible exact sz5) | (with_reducible exact sz6) | (with_reducible exact sz7) | (with_reducible exact sz8) | (with_reducible exact sz9) | exact rfl); (case ho => kernel_rfl); (case hl => kernel_rfl); (case hb => exact rfl); (case hc => kernel_rfl); (case hf => (repeat' (first | exact LEq.nil | ((with_reducible apply LEq.cons); (case h => (conv => lhs; whnf); try exact rfl)) | (apply LEq.cons; (case h => (conv => lhs; whnf); try exact rfl))))))
              | ((with_reducible apply OpR.ldw); (case hy => exact rfl); (case ht => first | (with_reducible exact sz0) | (with_reducible exact sz1) | (with_reducible exact sz2) | (with_reducible exact sz3) | (with_reducible exact sz4) | (with_reducible exact sz5) | (with_reducible exact sz6) | (with_reducible exact sz7) | (with_reducible exact sz8) | (with_reducible exact sz9)); (case hb => exact rfl); (case hl => kernel_rfl))
              | ((with_reducible apply OpR.ixr); (case he => first | (with_reducible exact el0) | (with_reducible exact el1) | (with_reducible exact el2) | (with_reducible exact el3) | (with_reducible exact el4) | (with_reducible exact el5) | (with_reducible exact el6) | (with_reducible exact el7) | exact rfl); (case hx => exact rfl); (case hi => exact rfl); (case hb => exact rfl); (case hq => first | assumption | omega))
              | ((with_reducible apply OpR.lds); (case hy => exact rfl); (case ht => first | (with_reducible exact sz0) | (with_reducible exact sz1) | (with_reducible exact sz2) | (with_reducible exact sz3) | (with_reducible exact sz4) | (with_reducible exact sz5) | (with_reducible exact sz6) | (with_reducible exact sz7) | (with_reducible exact sz8) | (with_reducible exact sz9)); (case hb => exact rfl); (case hk => assumption); (case hl => kernel_rfl); (case hv => (repeat' (first | exact LEq.nil | ((with_reducible apply LEq.cons); (case h => (conv => lhs; whnf); try exact rfl)) | (apply LEq.cons; (case h => (conv => lhs; whnf); try exact rfl))))))
              | exact OpR.r fun _ => rfl))
           | fail)
        apply EvK.loopV
        case ho => exact rfl
        case hp => exact rfl
        case hl => exact rfl
        case hs => repeat' (first | exact Slots.nil | (apply Slots.cons; (case hv => (conv => lhs; whnf); try exact rfl)))
        refine EvL.ind (fun q : Nat => [(10, .t (.int .i64 ((([b1, b2, b3, true].take q).countP (fun b => b) : Nat) : Int))), (71, .t (.int .i64 (q : Int)))]) (fun q => q ≤ 4) (fun q => 4 - q) 0 rfl (by omega) (fun q hq => ?_)
        have hl4 : [b1, b2, b3, true].length = 4 := rfl
        have hl4' : ([[AV.bool b1], [AV.bool b2], [AV.bool b3], [AV.bool true]] : List (List AV)).length = 4 := rfl
        have hcq : ([b1, b2, b3, true].take q).countP (fun b => b) ≤ q := Nat.le_trans List.countP_le_length (by simp; omega)
        rcases Nat.lt_or_ge q 4 with q3 | q3
        ·
          obtain ⟨bq, hbq⟩ := get_of_lt (xs := [b1, b2, b3, true]) (k := q) (by omega)
          have hcx : ([[AV.bool b1], [AV.bool b2], [AV.bool b3], [AV.bool true]] : List (List AV))[q]? = some [.bool bq] := by rw [hbs, List.getElem?_map, hbq]; rfl
          have hsn := count_snoc (p := fun b : Bool => b) hbq
          obtain ⟨n, hn⟩ : ∃ n, ([b1, b2, b3, true].take q).countP (fun b => b) = n := ⟨_, rfl⟩
          rw [hn] at hsn hcq ⊢
          cases bq with
          | false =>
            rw [if_neg (by decide), Nat.add_zero] at hsn
            repeat' (first
               | (with_reducible apply EvK.seq)
               | (with_reducible apply EvK.block)
               | ((with_reducible apply EvK.text); (try case hm => exact rfl))
               | (with_reducible apply EvK.skip)
               | (with_reducible apply thenK_n)
               | (with_reducible apply blockK_n)
               | ((with_reducible apply EvK.cond_t); (case hc => exact rfl))
               | ((with_reducible apply EvK.cond_f); (case hc => exact rfl))
               | ((with_reducible apply EvO.spd_t); (case hp => first | assumption | omega))
               | (with_reducible apply EvO.nilT)
               | ((with_reducible apply EvO.u0); (case hx => first
                  | ((with_reducible apply OpR.mv); (conv => lhs; whnf); try exact rfl)
                  | ((with_reducible apply OpR.asg); (conv => lhs; whnf); try exact rfl)
                  | ((with_reducible apply OpR.inc); (case hx => exact rfl); (case hy => exact rfl); (case h => omega))
                  | ((with_reducible apply OpR.ixt); (case he => first | (with_reducible exact el0) | (with_reducible exact el1) | (with_reducible exact el2) | (with_reducible exact el3) | (with_reducible exact el4) | (with_reducible exact el5) | (with_reducible exact el6) | (with_reducible exact el7) | exact rfl); (case hx => exact rfl); (case hi => exact rfl); (case hc => assumption); (case hz => exact rfl))
                  | exact OpR.r fun _ => rfl))
               | fail)
            refine ⟨q + 1, ?_, rfl, by omega, by omega⟩
            rw [hsn]; rfl
          | true =>
            rw [if_pos rfl] at hsn
            repeat' (first
               | (with_reducible apply EvK.seq)
               | (with_reducible apply EvK.block)
               | ((with_reducible apply EvK.text); (try case hm => exact rfl))
               | (with_reducible apply EvK.skip)
               | (with_reducible apply thenK_n)
               | ((with_reducible apply EvK.cond_t); (case hc => exact rfl))
               | ((with_reducible apply EvO.spd_t); (case hp => first | assumption | omega))
               | (with_reducible apply EvO.nilT)
               | (with_reducible apply EvO.nilB)
               | ((with_reducible apply EvO.u0); (case hx => first
                  | ((with_reducible apply OpR.mv); (conv => lhs; whnf); try exact rfl)
                  | ((with_reducible apply OpR.asg); (conv => lhs; whnf); try exact rfl)
                  | ((with_reducible apply OpR.inc); (case hx => exact rfl); (case hy => exact rfl); (case h => omega))
                  | ((with_reducible apply OpR.ixt); (case he => first | (with_reducible exact el0) | (with_reducible exact el1) | (with_reducible exact el2) | (with_reducible exact el3) | (with_reducible exact el4) | (with_reducible exact el5) | (with_reducible exact el6) | (with_reducible exact el7) | exact rfl); (case hx => exact rfl); (case hi => exact rfl); (case hc => assumption); (case hz => exact rfl))
                  | exact OpR.r fun _ => rfl))
               | fail)
            refine ⟨q + 1, ?_, rfl, by omega, by omega⟩
            rw [hsn]; rfl
        ·
          obtain rfl : q = 4 := by omega
          have h14 : ([b1, b2, b3, true].take 4).countP (fun b => b) = 1 := hcnt
          rw [h14]
          cases b1 with
          | false =>
            repeat' (first
               | (with_reducible apply EvK.seq)
               | (with_reducible apply EvK.block)
               | ((with_reducible apply EvK.text); (try case hm => exact rfl))
               | (with_reducible apply EvK.skip)
               | (with_reducible apply EvK.exit)
               | (with_reducible apply thenK_n)
               | (with_reducible apply thenK_e)
               | (with_reducible apply blockK_h)
               | ((with_reducible apply EvK.cond_f); (case hc => exact rfl))
               | ((with_reducible apply EvO.spd_f); (case hp => first | assumption | omega))
               | ((with_reducible apply EvO.spn_f); (case hp => first | assumption | omega))
               | (with_reducible apply EvO.nilT)
               | ((with_reducible apply EvO.gf); (case hW => exact rfl))
               | ((with_reducible apply EvO.gt0); (case hW => exact rfl); (case hx => first
                  | ((with_reducible apply OpR.mv); (conv => lhs; whnf); try exact rfl)
                  | ((with_reducible apply OpR.pk_f); (case hc => exact rfl); (case h => (conv => lhs; whnf); try exact rfl))
                  | ((with_reducible apply OpR.callF); (case hcal => exact rfl); (case hav => exact rfl); (case hx => exact rfl); (case hh => exact rfl); (case hm => exact rfl); (case hcl => exact kab); (case hr => exact rfl))
                  | ((with_reducible apply OpR.ldw); (case hy => exact rfl); (case ht => first | (with_reducible exact sz0) | (with_reducible exact sz1) | (with_reducible exact sz2) | (with_reducible exact sz3) | (with_reducible exact sz4) | (with_reducible exact sz5) | (with_reducible exact sz6) | (with_reducible exact sz7) | (with_reducible exact sz8) | (with_reducible exact sz9)); (case hb => exact rfl); (case hl => kernel_rfl))))
               | ((with_reducible apply EvO.u0); (case hx => first
                  | ((with_reducible apply OpR.mv); (conv => lhs; whnf); try exact rfl)
                  | ((with_reducible apply OpR.pk_f); (case hc => exact rfl); (case h => (conv => lhs; whnf); try exact rfl))
                  | ((with_reducible apply OpR.len); (case ha => exact rfl); (case hy => exact rfl); (case ht => exact rfl); (case hs => exact rfl); (case hn => first | exact List.length_map _ | exact rfl))
                  | exact OpR.r fun _ => rfl))
               | fail)
            apply EvK.loopV
            case ho => exact rfl
            case hp => exact rfl
            case hl => exact rfl
            case hs => repeat' (first | exact Slots.nil | (apply Slots.cons; (case hv => (conv => lhs; whnf); try exact rfl)))
            refine EvL.ind (fun q : Nat => [(93, .t (.int .i64 (q : Int)))]) (fun q => q ≤ O.length) (fun q => O.length - q) 0 rfl (by omega) (fun q hq => ?_)
            rcases Nat.lt_or_ge q O.length with g3 | g3
            ·
              obtain ⟨x, hx⟩ := get_of_lt g3
              have hcx := evsE_get hx
              repeat' (first
                 | (with_reducible apply EvK.seq)
                 | (with_reducible apply EvK.block)
                 | ((with_reducible apply EvK.text); (try case hm => exact rfl))
                 | (with_reducible apply EvK.skip)
                 | (with_reducible apply thenK_n)
                 | (with_reducible apply blockK_n)
                 | ((with_reducible apply EvK.cond_t); (case hc => exact rfl))
                 | ((with_reducible apply EvK.cond_f); (case hc => exact rfl))
                 | ((with_reducible apply EvO.spd_t); (case hp => first | assumption | omega))
                 | (with_reducible apply EvO.nilT)
                 | ((with_reducible apply EvO.gf); (case hW => exact rfl))
                 | ((with_reducible apply EvO.u0); (case hx => first
                    | ((with_reducible apply OpR.mv); (conv => lhs; whnf); try exact rfl)
                    | ((with_reducible apply OpR.pk_f); (case hc => exact rfl); (case h => (conv => lhs; whnf); try exact rfl))
                    | ((with_reducible apply OpR.callF); (case hcal => exact rfl); (case hav => exact rfl); (case hx => exact rfl); (case hh => exact rfl); (case hm => exact rfl); (case hcl => exact kab); (case hr => exact rfl))
                    | ((with_reducible apply OpR.inc); (case hx => exact rfl); (case hy => exact rfl); (case h => omega))
                    | ((with_reducible apply OpR.al); (case hs => exact fun _ => rfl); (case hz => exact rfl); (case hc => (repeat' (first | exact LEq.nil | ((with_reducible apply LEq.cons); (case h => (conv => lhs; whnf); try exact rfl)) | (apply LEq.cons; (case h => (conv => lhs; whnf); try exact rfl))))); (case hn => (first | exact ln0 | exact ln1 | exact ln2 | exact ln3 | exact ln4 | exact ln5 | exact ln6 | exact ln7 | exact ln8 | exact ln9 | exact ln10 | exact ln11 | exact ln12 | exact ln13 | exact ln14)); (case hf => (repeat' (first | exact LEq.nil | ((with_reducible apply LEq.cons); (case h => (conv => lhs; whnf); try exact rfl)) | (apply LEq.cons; (case h => (conv => lhs; whnf); try exact rfl))))))
                    | ((with_reducible apply OpR.stw); (case hs => exact fun _ => rfl); (case ha => exact rfl); (case hy => exact rfl); (case ht => first | (with_reducible exact sz0) | (with_reducible exact sz1) | (with_reducible exact sz2) | (with_reducible exact sz3) | (with_reducible exact sz4) | (with_reducible exact sz5) | (with_reducible exact sz6) | (with_reducible exact sz7) | (with_reducible exact sz8) | (with_reducible exact sz9) | exact rfl); (case ho => kernel_rfl); (case hl => kernel_rfl); (case hb => exact rfl); (case hc => kernel_rfl); (case hf => (repeat' (first | exact LEq.nil | ((with_reducible apply LEq.cons); (case h => (conv => lhs; whnf); try exact rfl)) | (apply LEq.cons; (case h => (conv => lhs; whnf); try exact rfl))))))
                    | ((with_reducible apply OpR.ldw); (case hy => exact rfl); (case ht => first | (with_reducible exact sz0) | (with_reducible exact sz1) | (with_reducible exact sz2) | (with_reducible exact sz3) | (with_reducible exact sz4) | (with_reducible exact sz5) | (with_reducible exact sz6) | (with_reducible exact sz7) | (with_reducible exact sz8) | (with_reducible exact sz9)); (case hb => exact rfl); (case hl => kernel_rfl))
                    | ((with_reducible apply OpR.ixr); (case he => first | (with_reducible exact el0) | (with_reducible exact el1) | (with_reducible exact el2) | (with_reducible exact el3) | (with_reducible exact el4) | (with_reducible exact el5) | (with_reducible exact el6) | (with_reducible exact el7) | exact rfl); (case hx => exact rfl); (case hi => exact rfl); (case hb => exact rfl); (case hq => first | assumption | omega))
                    | ((with_reducible apply OpR.lds); (case hy => exact rfl); (case ht => first | (with_reducible exact sz0) | (with_reducible exact sz1) | (with_reducible exact sz2) | (with_reducible exact sz3) | (with_reducible exact sz4) | (with_reducible exact sz5) | (with_reducible exact sz6) | (with_reducible exact sz7) | (with_reducible exact sz8) | (with_reducible exact sz9)); (case hb => exact rfl); (case hk => assumption); (case hl => kernel_rfl); (case hv => (repeat' (first | exact LEq.nil | ((with_reducible apply LEq.cons); (case h => (conv => lhs; whnf); try exact rfl)) | (apply LEq.cons; (case h => (conv => lhs; whnf); try exact rfl))))))
                    | exact OpR.r fun _ => rfl))
                 | fail)
              exact ⟨q + 1, rfl, rfl, by omega, by omega⟩
            ·
              repeat' (first
                 | (with_reducible apply EvK.seq)
                 | ((with_reducible apply EvK.text); (try case hm => exact rfl))
                 | (with_reducible apply EvK.exit)
                 | (with_reducible apply thenK_n)
                 | (with_reducible apply thenK_e)
                 | (with_reducible apply blockK_n)
                 | (with_reducible apply blockK_h)
                 | ((with_reducible apply EvK.cond_f); (case hc => exact rfl))
                 | ((with_reducible apply EvO.spd_f); (case hp => first | assumption | omega))
                 | (with_reducible apply EvO.nilT)
                 | ((with_reducible apply EvO.u0); (case hx => first
                    | ((with_reducible apply OpR.mv); (conv => lhs; whnf); try exact rfl)
                    | ((with_reducible apply OpR.inc); (case hx => exact rfl); (case hy => exact rfl); (case h => omega))
                    | exact OpR.r fun _ => rfl))
                 | fail)
              exact ⟨i + 1, rfl, rfl, by omega, by omega⟩
          | true => cases hb1f
      ·
        have hnn := hne (by omega)
        have hb3f : b3 = (!b1 && !b2) := by rw [hcon]; simp [hnn]
        have hbs : ([[AV.bool b1], [AV.bool b2], [AV.bool b3], [AV.bool false]] : List (List AV)) = [b1, b2, b3, false].map fun b => [AV.bool b] := rfl
        have hcnt : [b1, b2, b3, false].countP (fun b => b) = 1 := by rw [hb3f]; cases b1 <;> cases b2 <;> first | rfl | exact absurd (hasy rfl) (by decide)
        repeat' (first
           | (with_reducible apply EvK.seq)
           | (with_reducible apply EvK.block)
           | ((with_reducible apply EvK.text); (try case hm => exact rfl))
           | ((with_reducible apply EvK.drawn); (case hm => exact rfl))
           | (with_reducible apply EvK.skip)
           | (with_reducible apply thenK_n)
           | ((with_reducible apply EvK.cond_t); (case hc => exact rfl))
           | ((with_reducible apply EvO.spd_t); (case hp => first | assumption | omega))
           | ((with_reducible apply EvO.spd_f); (case hp => first | assumption | omega))
           | (with_reducible apply EvO.nilT)
           | ((with_reducible apply EvO.u0); (case hx => first
              | ((with_reducible apply OpR.mv); (conv => lhs; whnf); try exact rfl)
              | ((with_reducible apply OpR.asg); (conv => lhs; whnf); try exact rfl)
              | ((with_reducible apply OpR.bsl (es := [[.bool b1], [.bool b2], [.bool b3], [.bool false]])); (case hw => exact rfl); (case ho => kernel_rfl); (case h => kernel_rfl))
              | ((with_reducible apply OpR.callF); (case hcal => exact rfl); (case hav => exact rfl); (case hx => exact rfl); (case hh => exact rfl); (case hm => exact rfl); (case hcl => exact kab); (case hr => exact rfl))
              | ((with_reducible apply OpR.callF); (case hcal => exact rfl); (case hav => exact rfl); (case hx => exact rfl); (case hh => exact rfl); (case hm => exact rfl); (case hcl => exact kba); (case hr => exact rfl))
              | ((with_reducible apply OpR.callF); (case hcal => exact rfl); (case hav => exact rfl); (case hx => exact rfl); (case hh => exact rfl); (case hm => exact rfl); (case hcl => exact kcon); (case hr => exact rfl))
              | ((with_reducible apply OpR.len); (case ha => exact rfl); (case hy => exact rfl); (case ht => exact rfl); (case hs => exact rfl); (case hn => first | exact List.length_map _ | exact rfl))
              | ((with_reducible apply OpR.al); (case hs => exact fun _ => rfl); (case hz => exact rfl); (case hc => (repeat' (first | exact LEq.nil | ((with_reducible apply LEq.cons); (case h => (conv => lhs; whnf); try exact rfl)) | (apply LEq.cons; (case h => (conv => lhs; whnf); try exact rfl))))); (case hn => (first | exact ln0 | exact ln1 | exact ln2 | exact ln3 | exact ln4 | exact ln5 | exact ln6 | exact ln7 | exact ln8 | exact ln9 | exact ln10 | exact ln11 | exact ln12 | exact ln13 | exact ln14)); (case hf => (repeat' (first | exact LEq.nil | ((with_reducible apply LEq.cons); (case h => (conv => lhs; whnf); try exact rfl)) | (apply LEq.cons; (case h => (conv => lhs; whnf); try exact rfl))))))
              | ((with_reducible apply OpR.stw); (case hs => exact fun _ => rfl); (case ha => exact rfl); (case hy => exact rfl); (case ht => first | (with_reducible exact sz0) | (with_reducible exact sz1) | (with_reducible exact sz2) | (with_reducible exact sz3) | (with_reducible exact sz4) | (with_reducible exact sz5) | (with_reducible exact sz6) | (with_reducible exact sz7) | (with_reducible exact sz8) | (with_reducible exact sz9) | exact rfl); (case ho => kernel_rfl); (case hl => kernel_rfl); (case hb => exact rfl); (case hc => kernel_rfl); (case hf => (repeat' (first | exact LEq.nil | ((with_reducible apply LEq.cons); (case h => (conv => lhs; whnf); try exact rfl)) | (apply LEq.cons; (case h => (conv => lhs; whnf); try exact rfl))))))
              | ((with_reducible apply OpR.ldw); (case hy => exact rfl); (case ht => first | (with_reducible exact sz0) | (with_reducible exact sz1) | (with_reducible exact sz2) | (with_reducible exact sz3) | (with_reducible exact sz4) | (with_reducible exact sz5) | (with_reducible exact sz6) | (with_reducible exact sz7) | (with_reducible exact sz8) | (with_reducible exact sz9)); (case hb => exact rfl); (case hl => kernel_rfl))
              | ((with_reducible apply OpR.ixr); (case he => first | (with_reducible exact el0) | (with_reducible exact el1) | (with_reducible exact el2) | (with_reducible exact el3) | (with_reducible exact el4) | (with_reducible exact el5) | (with_reducible exact el6) | (with_reducible exact el7) | exact rfl); (case hx => exact rfl); (case hi => exact rfl); (case hb => exact rfl); (case hq => first | assumption | omega))
              | ((with_reducible apply OpR.lds); (case hy => exact rfl); (case ht => first | (with_reducible exact sz0) | (with_reducible exact sz1) | (with_reducible exact sz2) | (with_reducible exact sz3) | (with_reducible exact sz4) | (with_reducible exact sz5) | (with_reducible exact sz6) | (with_reducible exact sz7) | (with_reducible exact sz8) | (with_reducible exact sz9)); (case hb => exact rfl); (case hk => assumption); (case hl => kernel_rfl); (case hv => (repeat' (first | exact LEq.nil | ((with_reducible apply LEq.cons); (case h => (conv => lhs; whnf); try exact rfl)) | (apply LEq.cons; (case h => (conv => lhs; whnf); try exact rfl))))))
              | exact OpR.r fun _ => rfl))
           | fail)
        apply EvK.loopV
        case ho => exact rfl
        case hp => exact rfl
        case hl => exact rfl
        case hs => repeat' (first | exact Slots.nil | (apply Slots.cons; (case hv => (conv => lhs; whnf); try exact rfl)))
        refine EvL.ind (fun q : Nat => [(10, .t (.int .i64 ((([b1, b2, b3, false].take q).countP (fun b => b) : Nat) : Int))), (71, .t (.int .i64 (q : Int)))]) (fun q => q ≤ 4) (fun q => 4 - q) 0 rfl (by omega) (fun q hq => ?_)
        have hl4 : [b1, b2, b3, false].length = 4 := rfl
        have hl4' : ([[AV.bool b1], [AV.bool b2], [AV.bool b3], [AV.bool false]] : List (List AV)).length = 4 := rfl
        have hcq : ([b1, b2, b3, false].take q).countP (fun b => b) ≤ q := Nat.le_trans List.countP_le_length (by simp; omega)
        rcases Nat.lt_or_ge q 4 with q3 | q3
        ·
          obtain ⟨bq, hbq⟩ := get_of_lt (xs := [b1, b2, b3, false]) (k := q) (by omega)
          have hcx : ([[AV.bool b1], [AV.bool b2], [AV.bool b3], [AV.bool false]] : List (List AV))[q]? = some [.bool bq] := by rw [hbs, List.getElem?_map, hbq]; rfl
          have hsn := count_snoc (p := fun b : Bool => b) hbq
          obtain ⟨n, hn⟩ : ∃ n, ([b1, b2, b3, false].take q).countP (fun b => b) = n := ⟨_, rfl⟩
          rw [hn] at hsn hcq ⊢
          cases bq with
          | false =>
            rw [if_neg (by decide), Nat.add_zero] at hsn
            repeat' (first
               | (with_reducible apply EvK.seq)
               | (with_reducible apply EvK.block)
               | ((with_reducible apply EvK.text); (try case hm => exact rfl))
               | (with_reducible apply EvK.skip)
               | (with_reducible apply thenK_n)
               | (with_reducible apply blockK_n)
               | ((with_reducible apply EvK.cond_t); (case hc => exact rfl))
               | ((with_reducible apply EvK.cond_f); (case hc => exact rfl))
               | ((with_reducible apply EvO.spd_t); (case hp => first | assumption | omega))
               | (with_reducible apply EvO.nilT)
               | ((with_reducible apply EvO.u0); (case hx => first
                  | ((with_reducible apply OpR.mv); (conv => lhs; whnf); try exact rfl)
                  | ((with_reducible apply OpR.asg); (conv => lhs; whnf); try exact rfl)
                  | ((with_reducible apply OpR.inc); (case hx => exact rfl); (case hy => exact rfl); (case h => omega))
                  | ((with_reducible apply OpR.ixt); (case he => first | (with_reducible exact el0) | (with_reducible exact el1) | (with_reducible exact el2) | (with_reducible exact el3) | (with_reducible exact el4) | (with_reducible exact el5) | (with_reducible exact el6) | (with_reducible exact el7) | exact rfl); (case hx => exact rfl); (case hi => exact rfl); (case hc => assumption); (case hz => exact rfl))
                  | exact OpR.r fun _ => rfl))
               | fail)
            refine ⟨q + 1, ?_, rfl, by omega, by omega⟩
            rw [hsn]; rfl
          | true =>
            rw [if_pos rfl] at hsn
            repeat' (first
               | (with_reducible apply EvK.seq)
               | (with_reducible apply EvK.block)
               | ((with_reducible apply EvK.text); (try case hm => exact rfl))
               | (with_reducible apply EvK.skip)
               | (with_reducible apply thenK_n)
               | ((with_reducible apply EvK.cond_t); (case hc => exact rfl))
               | ((with_reducible apply EvO.spd_t); (case hp => first | assumption | omega))
               | (with_reducible apply EvO.nilT)
               | (with_reducible apply EvO.nilB)
               | ((with_reducible apply EvO.u0); (case hx => first
                  | ((with_reducible apply OpR.mv); (conv => lhs; whnf); try exact rfl)
                  | ((with_reducible apply OpR.asg); (conv => lhs; whnf); try exact rfl)
                  | ((with_reducible apply OpR.inc); (case hx => exact rfl); (case hy => exact rfl); (case h => omega))
                  | ((with_reducible apply OpR.ixt); (case he => first | (with_reducible exact el0) | (with_reducible exact el1) | (with_reducible exact el2) | (with_reducible exact el3) | (with_reducible exact el4) | (with_reducible exact el5) | (with_reducible exact el6) | (with_reducible exact el7) | exact rfl); (case hx => exact rfl); (case hi => exact rfl); (case hc => assumption); (case hz => exact rfl))
                  | exact OpR.r fun _ => rfl))
               | fail)
            refine ⟨q + 1, ?_, rfl, by omega, by omega⟩
            rw [hsn]; rfl
        ·
          obtain rfl : q = 4 := by omega
          have h14 : ([b1, b2, b3, false].take 4).countP (fun b => b) = 1 := hcnt
          rw [h14]
          cases b1 with
          | false =>
            repeat' (first
               | (with_reducible apply EvK.seq)
               | (with_reducible apply EvK.block)
               | ((with_reducible apply EvK.text); (try case hm => exact rfl))
               | (with_reducible apply EvK.skip)
               | (with_reducible apply EvK.exit)
               | (with_reducible apply thenK_n)
               | (with_reducible apply thenK_e)
               | (with_reducible apply blockK_h)
               | ((with_reducible apply EvK.cond_f); (case hc => exact rfl))
               | ((with_reducible apply EvO.spd_f); (case hp => first | assumption | omega))
               | ((with_reducible apply EvO.spn_f); (case hp => first | assumption | omega))
               | (with_reducible apply EvO.nilT)
               | ((with_reducible apply EvO.gf); (case hW => exact rfl))
               | ((with_reducible apply EvO.gt0); (case hW => exact rfl); (case hx => first
                  | ((with_reducible apply OpR.mv); (conv => lhs; whnf); try exact rfl)
                  | ((with_reducible apply OpR.pk_f); (case hc => exact rfl); (case h => (conv => lhs; whnf); try exact rfl))
                  | ((with_reducible apply OpR.callF); (case hcal => exact rfl); (case hav => exact rfl); (case hx => exact rfl); (case hh => exact rfl); (case hm => exact rfl); (case hcl => exact kab); (case hr => exact rfl))
                  | ((with_reducible apply OpR.ldw); (case hy => exact rfl); (case ht => first | (with_reducible exact sz0) | (with_reducible exact sz1) | (with_reducible exact sz2) | (with_reducible exact sz3) | (with_reducible exact sz4) | (with_reducible exact sz5) | (with_reducible exact sz6) | (with_reducible exact sz7) | (with_reducible exact sz8) | (with_reducible exact sz9)); (case hb => exact rfl); (case hl => kernel_rfl))))
               | ((with_reducible apply EvO.u0); (case hx => first
                  | ((with_reducible apply OpR.mv); (conv => lhs; whnf); try exact rfl)
                  | ((with_reducible apply OpR.pk_f); (case hc => exact rfl); (case h => (conv => lhs; whnf); try exact rfl))
                  | ((with_reducible apply OpR.len); (case ha => exact rfl); (case hy => exact rfl); (case ht => exact rfl); (case hs => exact rfl); (case hn => first | exact List.length_map _ | exact rfl))
                  | exact OpR.r fun _ => rfl))
               | fail)
            apply EvK.loopV
            case ho => exact rfl
            case hp => exact rfl
            case hl => exact rfl
            case hs => repeat' (first | exact Slots.nil | (apply Slots.cons; (case hv => (conv => lhs; whnf); try exact rfl)))
            refine EvL.ind (fun q : Nat => [(93, .t (.int .i64 (q : Int)))]) (fun q => q ≤ O.length) (fun q => O.length - q) 0 rfl (by omega) (fun q hq => ?_)
            rcases Nat.lt_or_ge q O.length with g3 | g3
            ·
              obtain ⟨x, hx⟩ := get_of_lt g3
              have hcx := evsE_get hx
              repeat' (first
                 | (with_reducible apply EvK.seq)
                 | (with_reducible apply EvK.block)
                 | ((with_reducible apply EvK.text); (try case hm => exact rfl))
                 | (with_reducible apply EvK.skip)
                 | (with_reducible apply thenK_n)
                 | (with_reducible apply blockK_n)
                 | ((with_reducible apply EvK.cond_t); (case hc => exact rfl))
                 | ((with_reducible apply EvK.cond_f); (case hc => exact rfl))
                 | ((with_reducible apply EvO.spd_t); (case hp => first | assumption | omega))
                 | (with_reducible apply EvO.nilT)
                 | ((with_reducible apply EvO.gf); (case hW => exact rfl))
                 | ((with_reducible apply EvO.u0); (case hx => first
                    | ((with_reducible apply OpR.mv); (conv => lhs; whnf); try exact rfl)
                    | ((with_reducible apply OpR.pk_f); (case hc => exact rfl); (case h => (conv => lhs; whnf); try exact rfl))
                    | ((with_reducible apply OpR.callF); (case hcal => exact rfl); (case hav => exact rfl); (case hx => exact rfl); (case hh => exact rfl); (case hm => exact rfl); (case hcl => exact kab); (case hr => exact rfl))
                    | ((with_reducible apply OpR.inc); (case hx => exact rfl); (case hy => exact rfl); (case h => omega))
                    | ((with_reducible apply OpR.al); (case hs => exact fun _ => rfl); (case hz => exact rfl); (case hc => (repeat' (first | exact LEq.nil | ((with_reducible apply LEq.cons); (case h => (conv => lhs; whnf); try exact rfl)) | (apply LEq.cons; (case h => (conv => lhs; whnf); try exact rfl))))); (case hn => (first | exact ln0 | exact ln1 | exact ln2 | exact ln3 | exact ln4 | exact ln5 | exact ln6 | exact ln7 | exact ln8 | exact ln9 | exact ln10 | exact ln11 | exact ln12 | exact ln13 | exact ln14)); (case hf => (repeat' (first | exact LEq.nil | ((with_reducible apply LEq.cons); (case h => (conv => lhs; whnf); try exact rfl)) | (apply LEq.cons; (case h => (conv => lhs; whnf); try exact rfl))))))
                    | ((with_reducible apply OpR.stw); (case hs => exact fun _ => rfl); (case ha => exact rfl); (case hy => exact rfl); (case ht => first | (with_reducible exact sz0) | (with_reducible exact sz1) | (with_reducible exact sz2) | (with_reducible exact sz3) | (with_reducible exact sz4) | (with_reducible exact sz5) | (with_reducible exact sz6) | (with_reducible exact sz7) | (with_reducible exact sz8) | (with_reducible exact sz9) | exact rfl); (case ho => kernel_rfl); (case hl => kernel_rfl); (case hb => exact rfl); (case hc => kernel_rfl); (case hf => (repeat' (first | exact LEq.nil | ((with_reducible apply LEq.cons); (case h => (conv => lhs; whnf); try exact rfl)) | (apply LEq.cons; (case h => (conv => lhs; whnf); try exact rfl))))))
                    | ((with_reducible apply OpR.ldw); (case hy => exact rfl); (case ht => first | (with_reducible exact sz0) | (with_reducible exact sz1) | (with_reducible exact sz2) | (with_reducible exact sz3) | (with_reducible exact sz4) | (with_reducible exact sz5) | (with_reducible exact sz6) | (with_reducible exact sz7) | (with_reducible exact sz8) | (with_reducible exact sz9)); (case hb => exact rfl); (case hl => kernel_rfl))
                    | ((with_reducible apply OpR.ixr); (case he => first | (with_reducible exact el0) | (with_reducible exact el1) | (with_reducible exact el2) | (with_reducible exact el3) | (with_reducible exact el4) | (with_reducible exact el5) | (with_reducible exact el6) | (with_reducible exact el7) | exact rfl); (case hx => exact rfl); (case hi => exact rfl); (case hb => exact rfl); (case hq => first | assumption | omega))
                    | ((with_reducible apply OpR.lds); (case hy => exact rfl); (case ht => first | (with_reducible exact sz0) | (with_reducible exact sz1) | (with_reducible exact sz2) | (with_reducible exact sz3) | (with_reducible exact sz4) | (with_reducible exact sz5) | (with_reducible exact sz6) | (with_reducible exact sz7) | (with_reducible exact sz8) | (with_reducible exact sz9)); (case hb => exact rfl); (case hk => assumption); (case hl => kernel_rfl); (case hv => (repeat' (first | exact LEq.nil | ((with_reducible apply LEq.cons); (case h => (conv => lhs; whnf); try exact rfl)) | (apply LEq.cons; (case h => (conv => lhs; whnf); try exact rfl))))))
                    | exact OpR.r fun _ => rfl))
                 | fail)
              exact ⟨q + 1, rfl, rfl, by omega, by omega⟩
            ·
              repeat' (first
                 | (with_reducible apply EvK.seq)
                 | ((with_reducible apply EvK.text); (try case hm => exact rfl))
                 | (with_reducible apply EvK.exit)
                 | (with_reducible apply thenK_n)
                 | (with_reducible apply thenK_e)
                 | (with_reducible apply blockK_n)
                 | (with_reducible apply blockK_h)
                 | ((with_reducible apply EvK.cond_f); (case hc => exact rfl))
                 | ((with_reducible apply EvO.spd_f); (case hp => first | assumption | omega))
                 | (with_reducible apply EvO.nilT)
                 | ((with_reducible apply EvO.u0); (case hx => first
                    | ((with_reducible apply OpR.mv); (conv => lhs; whnf); try exact rfl)
                    | ((with_reducible apply OpR.inc); (case hx => exact rfl); (case hy => exact rfl); (case h => omega))
                    | exact OpR.r fun _ => rfl))
                 | fail)
              exact ⟨k + 1, rfl, rfl, by omega, by omega⟩
          | true =>
            have hord := hord rfl
            repeat' (first
               | (with_reducible apply EvK.seq)
               | (with_reducible apply EvK.block)
               | ((with_reducible apply EvK.text); (try case hm => exact rfl))
               | (with_reducible apply EvK.skip)
               | (with_reducible apply EvK.exit)
               | (with_reducible apply thenK_n)
               | (with_reducible apply thenK_e)
               | (with_reducible apply blockK_h)
               | ((with_reducible apply EvK.cond_f); (case hc => exact rfl))
               | ((with_reducible apply EvO.spd_f); (case hp => first | assumption | omega))
               | ((with_reducible apply EvO.spn_f); (case hp => first | assumption | omega))
               | ((with_reducible apply EvO.spd_yf); (case hp => first | assumption | omega))
               | (with_reducible apply EvO.nilT)
               | ((with_reducible apply EvO.gt0); (case hW => exact rfl); (case hx => first
                  | ((with_reducible apply OpR.mv); (conv => lhs; whnf); try exact rfl)
                  | ((with_reducible apply OpR.pk_t); (case hc => exact rfl); (case h => (conv => lhs; whnf); try exact rfl))
                  | ((with_reducible apply OpR.callF); (case hcal => exact rfl); (case hav => exact rfl); (case hx => exact rfl); (case hh => exact rfl); (case hm => exact rfl); (case hcl => exact kab); (case hr => exact rfl))
                  | ((with_reducible apply OpR.ldw); (case hy => exact rfl); (case ht => first | (with_reducible exact sz0) | (with_reducible exact sz1) | (with_reducible exact sz2) | (with_reducible exact sz3) | (with_reducible exact sz4) | (with_reducible exact sz5) | (with_reducible exact sz6) | (with_reducible exact sz7) | (with_reducible exact sz8) | (with_reducible exact sz9)); (case hb => exact rfl); (case hl => kernel_rfl))
                  | exact OpR.r fun _ => rfl))
               | ((with_reducible apply EvO.u0); (case hx => first
                  | ((with_reducible apply OpR.mv); (conv => lhs; whnf); try exact rfl)
                  | ((with_reducible apply OpR.pk_f); (case hc => exact rfl); (case h => (conv => lhs; whnf); try exact rfl))
                  | ((with_reducible apply OpR.len); (case ha => exact rfl); (case hy => exact rfl); (case ht => exact rfl); (case hs => exact rfl); (case hn => first | exact List.length_map _ | exact rfl))
                  | exact OpR.r fun _ => rfl))
               | fail)
            apply EvK.loopV
            case ho => exact rfl
            case hp => exact rfl
            case hl => exact rfl
            case hs => repeat' (first | exact Slots.nil | (apply Slots.cons; (case hv => (conv => lhs; whnf); try exact rfl)))
            refine EvL.ind (fun q : Nat => [(93, .t (.int .i64 (q : Int)))]) (fun q => q ≤ O.length) (fun q => O.length - q) 0 rfl (by omega) (fun q hq => ?_)
            rcases Nat.lt_or_ge q O.length with g3 | g3
            ·
              obtain ⟨x, hx⟩ := get_of_lt g3
              have hcx := evsE_get hx
              have hxm := hmem _ _ hx
              have kbx := before_c b x (hp b hbm) (hp x hxm)
              have kax := before_c a x (hp a ham) (hp x hxm)
              cases hbx : befB b x with
              | false =>
                rw [hbx] at kbx
                repeat' (first
                   | (with_reducible apply EvK.seq)
                   | (with_reducible apply EvK.block)
                   | ((with_reducible apply EvK.text); (try case hm => exact rfl))
                   | (with_reducible apply EvK.skip)
                   | (with_reducible apply thenK_n)
                   | (with_reducible apply blockK_n)
                   | ((with_reducible apply EvK.cond_t); (case hc => exact rfl))
                   | ((with_reducible apply EvK.cond_f); (case hc => exact rfl))
                   | ((with_reducible apply EvO.spd_t); (case hp => first | assumption | omega))
                   | (with_reducible apply EvO.nilT)
                   | ((with_reducible apply EvO.gf); (case hW => exact rfl))
                   | ((with_reducible apply EvO.gt0); (case hW => exact rfl); (case hx => first
                      | ((with_reducible apply OpR.callF); (case hcal => exact rfl); (case hav => exact rfl); (case hx => exact rfl); (case hh => exact rfl); (case hm => exact rfl); (case hcl => exact kbx); (case hr => exact rfl))
                      | ((with_reducible apply OpR.ldw); (case hy => exact rfl); (case ht => first | (with_reducible exact sz0) | (with_reducible exact sz1) | (with_reducible exact sz2) | (with_reducible exact sz3) | (with_reducible exact sz4) | (with_reducible exact sz5) | (with_reducible exact sz6) | (with_reducible exact sz7) | (with_reducible exact sz8) | (with_reducible exact sz9)); (case hb => exact rfl); (case hl => kernel_rfl))))
                   | ((with_reducible apply EvO.u0); (case hx => first
                      | ((with_reducible apply OpR.mv); (conv => lhs; whnf); try exact rfl)
                      | ((with_reducible apply OpR.pk_t); (case hc => exact rfl); (case h => (conv => lhs; whnf); try exact rfl))
                      | ((with_reducible apply OpR.pk_f); (case hc => exact rfl); (case h => (conv => lhs; whnf); try exact rfl))
                      | ((with_reducible apply OpR.callF); (case hcal => exact rfl); (case hav => exact rfl); (case hx => exact rfl); (case hh => exact rfl); (case hm => exact rfl); (case hcl => exact kab); (case hr => exact rfl))
                      | ((with_reducible apply OpR.inc); (case hx => exact rfl); (case hy => exact rfl); (case h => omega))
                      | ((with_reducible apply OpR.al); (case hs => exact fun _ => rfl); (case hz => exact rfl); (case hc => (repeat' (first | exact LEq.nil | ((with_reducible apply LEq.cons); (case h => (conv => lhs; whnf); try exact rfl)) | (apply LEq.cons; (case h => (conv => lhs; whnf); try exact rfl))))); (case hn => (first | exact ln0 | exact ln1 | exact ln2 | exact ln3 | exact ln4 | exact ln5 | exact ln6 | exact ln7 | exact ln8 | exact ln9 | exact ln10 | exact ln11 | exact ln12 | exact ln13 | exact ln14)); (case hf => (repeat' (first | exact LEq.nil | ((with_reducible apply LEq.cons); (case h => (conv => lhs; whnf); try exact rfl)) | (apply LEq.cons; (case h => (conv => lhs; whnf); try exact rfl))))))
                      | ((with_reducible apply OpR.stw); (case hs => exact fun _ => rfl); (case ha => exact rfl); (case hy => exact rfl); (case ht => first | (with_reducible exact sz0) | (with_reducible exact sz1) | (with_reducible exact sz2) | (with_reducible exact sz3) | (with_reducible exact sz4) | (with_reducible exact sz5) | (with_reducible exact sz6) | (with_reducible exact sz7) | (with_reducible exact sz8) | (with_reducible exact sz9) | exact rfl); (case ho => kernel_rfl); (case hl => kernel_rfl); (case hb => exact rfl); (case hc => kernel_rfl); (case hf => (repeat' (first | exact LEq.nil | ((with_reducible apply LEq.cons); (case h => (conv => lhs; whnf); try exact rfl)) | (apply LEq.cons; (case h => (conv => lhs; whnf); try exact rfl))))))
                      | ((with_reducible apply OpR.ldw); (case hy => exact rfl); (case ht => first | (with_reducible exact sz0) | (with_reducible exact sz1) | (with_reducible exact sz2) | (with_reducible exact sz3) | (with_reducible exact sz4) | (with_reducible exact sz5) | (with_reducible exact sz6) | (with_reducible exact sz7) | (with_reducible exact sz8) | (with_reducible exact sz9)); (case hb => exact rfl); (case hl => kernel_rfl))
                      | ((with_reducible apply OpR.ixr); (case he => first | (with_reducible exact el0) | (with_reducible exact el1) | (with_reducible exact el2) | (with_reducible exact el3) | (with_reducible exact el4) | (with_reducible exact el5) | (with_reducible exact el6) | (with_reducible exact el7) | exact rfl); (case hx => exact rfl); (case hi => exact rfl); (case hb => exact rfl); (case hq => first | assumption | omega))
                      | ((with_reducible apply OpR.lds); (case hy => exact rfl); (case ht => first | (with_reducible exact sz0) | (with_reducible exact sz1) | (with_reducible exact sz2) | (with_reducible exact sz3) | (with_reducible exact sz4) | (with_reducible exact sz5) | (with_reducible exact sz6) | (with_reducible exact sz7) | (with_reducible exact sz8) | (with_reducible exact sz9)); (case hb => exact rfl); (case hk => assumption); (case hl => kernel_rfl); (case hv => (repeat' (first | exact LEq.nil | ((with_reducible apply LEq.cons); (case h => (conv => lhs; whnf); try exact rfl)) | (apply LEq.cons; (case h => (conv => lhs; whnf); try exact rfl))))))
                      | exact OpR.r fun _ => rfl))
                   | fail)
                exact ⟨q + 1, rfl, rfl, by omega, by omega⟩
              | true =>
                rw [hbx] at kbx
                rw [bef_trans hC ham hbm hxm hb1 hbx] at kax
                repeat' (first
                   | (with_reducible apply EvK.seq)
                   | (with_reducible apply EvK.block)
                   | ((with_reducible apply EvK.text); (try case hm => exact rfl))
                   | (with_reducible apply EvK.skip)
                   | (with_reducible apply thenK_n)
                   | (with_reducible apply blockK_n)
                   | ((with_reducible apply EvK.cond_t); (case hc => exact rfl))
                   | ((with_reducible apply EvK.cond_f); (case hc => exact rfl))
                   | ((with_reducible apply EvO.spd_t); (case hp => first | assumption | omega))
                   | (with_reducible apply EvO.nilT)
                   | ((with_reducible apply EvO.gt0); (case hW => exact rfl); (case hx => first
                      | ((with_reducible apply OpR.callF); (case hcal => exact rfl); (case hav => exact rfl); (case hx => exact rfl); (case hh => exact rfl); (case hm => exact rfl); (case hcl => exact kbx); (case hr => exact rfl))
                      | ((with_reducible apply OpR.callF); (case hcal => exact rfl); (case hav => exact rfl); (case hx => exact rfl); (case hh => exact rfl); (case hm => exact rfl); (case hcl => exact kax); (case hr => exact rfl))
                      | ((with_reducible apply OpR.ldw); (case hy => exact rfl); (case ht => first | (with_reducible exact sz0) | (with_reducible exact sz1) | (with_reducible exact sz2) | (with_reducible exact sz3) | (with_reducible exact sz4) | (with_reducible exact sz5) | (with_reducible exact sz6) | (with_reducible exact sz7) | (with_reducible exact sz8) | (with_reducible exact sz9)); (case hb => exact rfl); (case hl => kernel_rfl))
                      | exact OpR.r fun _ => rfl))
                   | ((with_reducible apply EvO.u0); (case hx => first
                      | ((with_reducible apply OpR.mv); (conv => lhs; whnf); try exact rfl)
                      | ((with_reducible apply OpR.pk_t); (case hc => exact rfl); (case h => (conv => lhs; whnf); try exact rfl))
                      | ((with_reducible apply OpR.callF); (case hcal => exact rfl); (case hav => exact rfl); (case hx => exact rfl); (case hh => exact rfl); (case hm => exact rfl); (case hcl => exact kab); (case hr => exact rfl))
                      | ((with_reducible apply OpR.inc); (case hx => exact rfl); (case hy => exact rfl); (case h => omega))
                      | ((with_reducible apply OpR.al); (case hs => exact fun _ => rfl); (case hz => exact rfl); (case hc => (repeat' (first | exact LEq.nil | ((with_reducible apply LEq.cons); (case h => (conv => lhs; whnf); try exact rfl)) | (apply LEq.cons; (case h => (conv => lhs; whnf); try exact rfl))))); (case hn => (first | exact ln0 | exact ln1 | exact ln2 | exact ln3 | exact ln4 | exact ln5 | exact ln6 | exact ln7 | exact ln8 | exact ln9 | exact ln10 | exact ln11 | exact ln12 | exact ln13 | exact ln14)); (case hf => (repeat' (first | exact LEq.nil | ((with_reducible apply LEq.cons); (case h => (conv => lhs; whnf); try exact rfl)) | (apply LEq.cons; (case h => (conv => lhs; whnf); try exact rfl))))))
                      | ((with_reducible apply OpR.stw); (case hs => exact fun _ => rfl); (case ha => exact rfl); (case hy => exact rfl); (case ht => first | (with_reducible exact sz0) | (with_reducible exact sz1) | (with_reducible exact sz2) | (with_reducible exact sz3) | (with_reducible exact sz4) | (with_reducible exact sz5) | (with_reducible exact sz6) | (with_reducible exact sz7) | (with_reducible exact sz8) | (with_reducible exact sz9) | exact rfl); (case ho => kernel_rfl); (case hl => kernel_rfl); (case hb => exact rfl); (case hc => kernel_rfl); (case hf => (repeat' (first | exact LEq.nil | ((with_reducible apply LEq.cons); (case h => (conv => lhs; whnf); try exact rfl)) | (apply LEq.cons; (case h => (conv => lhs; whnf); try exact rfl))))))
                      | ((with_reducible apply OpR.ldw); (case hy => exact rfl); (case ht => first | (with_reducible exact sz0) | (with_reducible exact sz1) | (with_reducible exact sz2) | (with_reducible exact sz3) | (with_reducible exact sz4) | (with_reducible exact sz5) | (with_reducible exact sz6) | (with_reducible exact sz7) | (with_reducible exact sz8) | (with_reducible exact sz9)); (case hb => exact rfl); (case hl => kernel_rfl))
                      | ((with_reducible apply OpR.ixr); (case he => first | (with_reducible exact el0) | (with_reducible exact el1) | (with_reducible exact el2) | (with_reducible exact el3) | (with_reducible exact el4) | (with_reducible exact el5) | (with_reducible exact el6) | (with_reducible exact el7) | exact rfl); (case hx => exact rfl); (case hi => exact rfl); (case hb => exact rfl); (case hq => first | assumption | omega))
                      | ((with_reducible apply OpR.lds); (case hy => exact rfl); (case ht => first | (with_reducible exact sz0) | (with_reducible exact sz1) | (with_reducible exact sz2) | (with_reducible exact sz3) | (with_reducible exact sz4) | (with_reducible exact sz5) | (with_reducible exact sz6) | (with_reducible exact sz7) | (with_reducible exact sz8) | (with_reducible exact sz9)); (case hb => exact rfl); (case hk => assumption); (case hl => kernel_rfl); (case hv => (repeat' (first | exact LEq.nil | ((with_reducible apply LEq.cons); (case h => (conv => lhs; whnf); try exact rfl)) | (apply LEq.cons; (case h => (conv => lhs; whnf); try exact rfl))))))
                      | exact OpR.r fun _ => rfl))
                   | fail)
                exact ⟨q + 1, rfl, rfl, by omega, by omega⟩
            ·
              repeat' (first
                 | (with_reducible apply EvK.seq)
                 | ((with_reducible apply EvK.text); (try case hm => exact rfl))
                 | (with_reducible apply EvK.exit)
                 | (with_reducible apply thenK_n)
                 | (with_reducible apply thenK_e)
                 | (with_reducible apply blockK_n)
                 | (with_reducible apply blockK_h)
                 | ((with_reducible apply EvK.cond_f); (case hc => exact rfl))
                 | ((with_reducible apply EvO.spd_f); (case hp => first | assumption | omega))
                 | (with_reducible apply EvO.nilT)
                 | ((with_reducible apply EvO.u0); (case hx => first
                    | ((with_reducible apply OpR.mv); (conv => lhs; whnf); try exact rfl)
                    | ((with_reducible apply OpR.inc); (case hx => exact rfl); (case hy => exact rfl); (case h => omega))
                    | exact OpR.r fun _ => rfl))
                 | fail)
              exact ⟨k + 1, rfl, rfl, by omega, by omega⟩
    ·
      repeat' (first
         | (with_reducible apply EvK.seq)
         | ((with_reducible apply EvK.text); (try case hm => exact rfl))
         | (with_reducible apply EvK.exit)
         | (with_reducible apply thenK_n)
         | (with_reducible apply thenK_e)
         | (with_reducible apply blockK_n)
         | (with_reducible apply blockK_h)
         | ((with_reducible apply EvK.cond_f); (case hc => exact rfl))
         | ((with_reducible apply EvO.spd_f); (case hp => first | assumption | omega))
         | (with_reducible apply EvO.nilT)
         | ((with_reducible apply EvO.u0); (case hx => first
            | ((with_reducible apply OpR.mv); (conv => lhs; whnf); try exact rfl)
            | ((with_reducible apply OpR.inc); (case hx => exact rfl); (case hy => exact rfl); (case h => omega))
            | exact OpR.r fun _ => rfl))
         | fail)
      exact ⟨i + 1, rfl, rfl, by omega, by omega⟩
  ·
    have hc0 := evsE_get (l := l) (k := 0) (e := e0) (by rw [hl0]; rfl)
    have h0m : e0 ∈ l := by rw [hl0]; simp
    have hle0 := intsE_len e0.past
    cases hv : validB c with
    | false =>
      rw [hv] at kv
      repeat' (first
         | (with_reducible apply EvK.seq)
         | ((with_reducible apply EvK.text); (try case hm => exact rfl))
         | (with_reducible apply EvK.exit)
         | (with_reducible apply EvK.ret)
         | (with_reducible apply thenK_n)
         | (with_reducible apply thenK_e)
         | (with_reducible apply thenK_r)
         | (with_reducible apply blockK_h)
         | ((with_reducible apply EvK.cond_t); (case hc => exact rfl))
         | ((with_reducible apply EvK.cond_f); (case hc => exact rfl))
         | ((with_reducible apply EvO.spd_f); (case hp => first | assumption | omega))
         | (with_reducible apply EvO.nilT)
         | ((with_reducible apply EvO.gf); (case hW => exact rfl))
         | ((with_reducible apply EvO.gt0); (case hW => exact rfl); (case hx => first
            | ((with_reducible apply OpR.mv); (conv => lhs; whnf); try exact rfl)
            | ((with_reducible apply OpR.callF); (case hcal => exact rfl); (case hav => exact rfl); (case hx => exact rfl); (case hh => exact rfl); (case hm => exact rfl); (case hcl => exact kv); (case hr => exact rfl))
            | exact OpR.r fun _ => rfl))
         | ((with_reducible apply EvO.u0); (case hx => first
            | ((with_reducible apply OpR.mv); (conv => lhs; whnf); try exact rfl)
            | ((with_reducible apply OpR.asg); (conv => lhs; whnf); try exact rfl)
            | ((with_reducible apply OpR.pk_t); (case hc => exact rfl); (case h => (conv => lhs; whnf); try exact rfl))
            | ((with_reducible apply OpR.pk_f); (case hc => exact rfl); (case h => (conv => lhs; whnf); try exact rfl))
            | ((with_reducible apply OpR.len); (case ha => exact rfl); (case hy => exact rfl); (case ht => exact rfl); (case hs => exact rfl); (case hn => first | exact List.length_map _ | exact rfl))
            | exact OpR.r fun _ => rfl))
         | fail)
      exact ⟨.inr rfl, rfl⟩
    | true =>
      rw [hv] at kv
      by_cases hcm : c.length = e0.past.length
      ·
        have hm : ∀ e ∈ l, e.past.length = c.length := fun e he => by rw [hC.alike e he e0 h0m, hcm]
        have hc5 : 1 ≤ c.length ∧ c.length ≤ 5 := by simp [validB] at hv; omega
        obtain ⟨hc1, hc5⟩ := hc5
        obtain ⟨v1, v2, w1, w2⟩ := cut_law hC hm hv rfl
        have kk := eclock_c hC hm hc1 hc5
        have hal := clkE_len c.length l
        obtain ⟨A, hA⟩ : ∃ A, clkE c.length l = A := ⟨_, rfl⟩
        rw [hA] at v1 v2 w1 w2 kk hal
        have km := meet_c (a := c) (b := A) (alike_of hv v1 (by omega)) (by omega)
        have hl1 : (List.zipWith min c A).length = c.length := by simp; omega
        obtain ⟨c1, hc1'⟩ : ∃ c1, List.zipWith min c A = c1 := ⟨_, rfl⟩
        rw [hc1'] at v2 w1 w2 km hl1
        have k1 := ecut_c (l := l) (c := c1) (by omega) (by omega)
        have hX : ∀ e ∈ cutE l c1, e ∈ l := fun e he => (List.mem_filter.1 he).1
        obtain ⟨X, hXX⟩ : ∃ X, cutE l c1 = X := ⟨_, rfl⟩
        rw [hXX] at w1 w2 k1 hX
        have hXE := evsE_len X
        have hXl : X.length ≤ 30 := by rw [← hXX]; exact Nat.le_trans (List.length_filter_le _ _) h30
        repeat' (first
           | (with_reducible apply EvK.seq)
           | (with_reducible apply EvK.block)
           | ((with_reducible apply EvK.text); (try case hm => exact rfl))
           | (with_reducible apply EvK.skip)
           | (with_reducible apply EvK.exit)
           | (with_reducible apply thenK_n)
           | (with_reducible apply thenK_e)
           | (with_reducible apply blockK_h)
           | ((with_reducible apply EvK.cond_f); (case hc => exact rfl))
           | ((with_reducible apply EvO.spd_f); (case hp => first | assumption | omega))
           | ((with_reducible apply EvO.spn_f); (case hp => first | assumption | omega))
           | ((with_reducible apply EvO.spn_yf); (case hp => first | assumption | omega))
           | (with_reducible apply EvO.nilT)
           | ((with_reducible apply EvO.gt0); (case hW => exact rfl); (case hx => first
              | ((with_reducible apply OpR.mv); (conv => lhs; whnf); try exact rfl)
              | ((with_reducible apply OpR.callF); (case hcal => exact rfl); (case hav => exact rfl); (case hx => exact rfl); (case hh => exact rfl); (case hm => exact rfl); (case hcl => exact kv); (case hr => exact rfl))
              | ((with_reducible apply OpR.len); (case ha => exact rfl); (case hy => exact rfl); (case ht => exact rfl); (case hs => exact rfl); (case hn => first | exact List.length_map _ | exact rfl))
              | ((with_reducible apply OpR.ix); (case he => first | (with_reducible exact el0) | (with_reducible exact el1) | (with_reducible exact el2) | (with_reducible exact el3) | (with_reducible exact el4) | (with_reducible exact el5) | (with_reducible exact el6) | (with_reducible exact el7) | exact rfl); (case hx => exact rfl); (case hi => exact rfl); (case hc => assumption); (case hz => exact rfl))
              | exact OpR.r fun _ => rfl))
           | ((with_reducible apply EvO.u0); (case hx => first
              | ((with_reducible apply OpR.mv); (conv => lhs; whnf); try exact rfl)
              | ((with_reducible apply OpR.asg); (conv => lhs; whnf); try exact rfl)
              | ((with_reducible apply OpR.pk_f); (case hc => exact rfl); (case h => (conv => lhs; whnf); try exact rfl))
              | ((with_reducible apply OpR.bsf (x := .tc (clksE [c, A]))); (case hs => exact fun _ => rfl); (case hw => exact rfl); (case h0 => kernel_rfl); (case ht => exact rfl); (case hx => exact rfl); (case hf => (repeat' (first | exact LEq.nil | ((with_reducible apply LEq.cons); (case h => (conv => lhs; whnf); try exact rfl)) | (apply LEq.cons; (case h => (conv => lhs; whnf); try exact rfl))))); (case hp => kernel_rfl))
              | ((with_reducible apply OpR.callX); (case hcal => exact rfl); (case hav => exact rfl); (case hx => exact rfl); (case hh => exact rfl); (case hm => exact rfl); (case hcl => exact kk); (case hr => exact rfl); (case hd => exact rfl); (case hq => kernel_rfl); (case hn => (first | exact ln0 | exact ln1 | exact ln2 | exact ln3 | exact ln4 | exact ln5 | exact ln6 | exact ln7 | exact ln8 | exact ln9 | exact ln10 | exact ln11 | exact ln12 | exact ln13 | exact ln14)); (case hv => (conv => lhs; whnf); try exact rfl); (case he => (repeat' (first | exact XFr.nil | (with_reducible apply XFr.row) | (with_reducible apply XFr.boxt) | ((apply XFr.box); (case hd => (repeat' (first | exact LEq.nil | ((with_reducible apply LEq.cons); (case h => (conv => lhs; whnf); try exact rfl)) | (apply LEq.cons; (case h => (conv => lhs; whnf); try exact rfl))))))))); (case hf => (repeat' (first | exact LEq.nil | ((with_reducible apply LEq.cons); (case h => (conv => lhs; whnf); try exact rfl)) | (apply LEq.cons; (case h => (conv => lhs; whnf); try exact rfl))))))
              | ((with_reducible apply OpR.callX); (case hcal => exact rfl); (case hav => exact rfl); (case hx => exact rfl); (case hh => exact rfl); (case hm => exact rfl); (case hcl => exact km); (case hr => exact rfl); (case hd => exact rfl); (case hq => kernel_rfl); (case hn => (first | exact ln0 | exact ln1 | exact ln2 | exact ln3 | exact ln4 | exact ln5 | exact ln6 | exact ln7 | exact ln8 | exact ln9 | exact ln10 | exact ln11 | exact ln12 | exact ln13 | exact ln14)); (case hv => (conv => lhs; whnf); try exact rfl); (case he => (repeat' (first | exact XFr.nil | (with_reducible apply XFr.row) | (with_reducible apply XFr.boxt) | ((apply XFr.box); (case hd => (repeat' (first | exact LEq.nil | ((with_reducible apply LEq.cons); (case h => (conv => lhs; whnf); try exact rfl)) | (apply LEq.cons; (case h => (conv => lhs; whnf); try exact rfl))))))))); (case hf => (repeat' (first | exact LEq.nil | ((with_reducible apply LEq.cons); (case h => (conv => lhs; whnf); try exact rfl)) | (apply LEq.cons; (case h => (conv => lhs; whnf); try exact rfl))))))
              | ((with_reducible apply OpR.callY [2]); (case hcal => exact rfl); (case hav => exact rfl); (case hx => exact rfl); (case hh => exact rfl); (case hm => exact rfl); (case hcl => exact k1); (case hr => exact rfl); (case hd => exact rfl); (case hq => kernel_rfl); (case hz => (repeat' (first | exact LEq.nil | ((with_reducible apply LEq.cons); (case h => (conv => lhs; whnf); try exact rfl)) | (apply LEq.cons; (case h => (conv => lhs; whnf); try exact rfl))))); (case hn => (first | exact ln0 | exact ln1 | exact ln2 | exact ln3 | exact ln4 | exact ln5 | exact ln6 | exact ln7 | exact ln8 | exact ln9 | exact ln10 | exact ln11 | exact ln12 | exact ln13 | exact ln14)); (case hv => (conv => lhs; whnf); try exact rfl); (case he => (repeat' (first | exact XFr.nil | (with_reducible apply XFr.row) | (with_reducible apply XFr.boxt) | ((apply XFr.box); (case hd => (repeat' (first | exact LEq.nil | ((with_reducible apply LEq.cons); (case h => (conv => lhs; whnf); try exact rfl)) | (apply LEq.cons; (case h => (conv => lhs; whnf); try exact rfl))))))))); (case hf => (repeat' (first | exact LEq.nil | ((with_reducible apply LEq.cons); (case h => (conv => lhs; whnf); try exact rfl)) | (apply LEq.cons; (case h => (conv => lhs; whnf); try exact rfl))))))
              | ((with_reducible apply OpR.len); (case ha => exact rfl); (case hy => exact rfl); (case ht => exact rfl); (case hs => exact rfl); (case hn => first | exact List.length_map _ | exact rfl))
              | exact OpR.r fun _ => rfl))
           | fail)
        apply EvK.loopV
        case ho => exact rfl
        case hp => exact rfl
        case hl => exact rfl
        case hs => repeat' (first | exact Slots.nil | (apply Slots.cons; (case hv => (conv => lhs; whnf); try exact rfl)))
        refine EvL.ind (fun q : Nat => [(1, .t (intsA (joinE (X.take q) c1))), (149, .t (.int .i64 (q : Int)))]) (fun q => q ≤ X.length) (fun q => X.length - q) 0 rfl (by omega) (fun q hq => ?_)
        obtain ⟨j1, j2, _⟩ := joinE_spec (m := c.length) (X.take q) c1 v2 hl1 (fun e he => ⟨form_valid (hC.form e (hX e (List.mem_of_mem_take he))), hm e (hX e (List.mem_of_mem_take he))⟩)
        rcases Nat.lt_or_ge q X.length with q3 | q3
        ·
          obtain ⟨x, hx⟩ := get_of_lt q3
          have hcx := evsE_get hx
          have hxm := hX x (List.mem_of_getElem? hx)
          have hsn := joinE_snoc (c := c1) hx
          obtain ⟨d, hd⟩ : ∃ d, joinE (X.take q) c1 = d := ⟨_, rfl⟩
          rw [hd] at hsn j1 j2 ⊢
          have kj := join_c (a := d) (b := x.past) (alike_of j1 (form_valid (hC.form x hxm)) (by rw [j2, hm x hxm])) (by omega)
          repeat' (first
             | (with_reducible apply EvK.seq)
             | (with_reducible apply EvK.block)
             | ((with_reducible apply EvK.text); (try case hm => exact rfl))
             | (with_reducible apply EvK.skip)
             | (with_reducible apply thenK_n)
             | ((with_reducible apply EvK.cond_t); (case hc => exact rfl))
             | ((with_reducible apply EvO.spd_t); (case hp => first | assumption | omega))
             | (with_reducible apply EvO.nilT)
             | (with_reducible apply EvO.nilB)
             | ((with_reducible apply EvO.u0); (case hx => first
                | ((with_reducible apply OpR.mv); (conv => lhs; whnf); try exact rfl)
                | ((with_reducible apply OpR.asg); (conv => lhs; whnf); try exact rfl)
                | ((with_reducible apply OpR.bsl (es := clksE [d, x.past])); (case hw => exact rfl); (case ho => kernel_rfl); (case h => kernel_rfl))
                | ((with_reducible apply OpR.callX); (case hcal => exact rfl); (case hav => exact rfl); (case hx => exact rfl); (case hh => exact rfl); (case hm => exact rfl); (case hcl => exact kj); (case hr => exact rfl); (case hd => exact rfl); (case hq => kernel_rfl); (case hn => (first | exact ln0 | exact ln1 | exact ln2 | exact ln3 | exact ln4 | exact ln5 | exact ln6 | exact ln7 | exact ln8 | exact ln9 | exact ln10 | exact ln11 | exact ln12 | exact ln13 | exact ln14)); (case hv => (conv => lhs; whnf); try exact rfl); (case he => (repeat' (first | exact XFr.nil | (with_reducible apply XFr.row) | (with_reducible apply XFr.boxt) | ((apply XFr.box); (case hd => (repeat' (first | exact LEq.nil | ((with_reducible apply LEq.cons); (case h => (conv => lhs; whnf); try exact rfl)) | (apply LEq.cons; (case h => (conv => lhs; whnf); try exact rfl))))))))); (case hf => (repeat' (first | exact LEq.nil | ((with_reducible apply LEq.cons); (case h => (conv => lhs; whnf); try exact rfl)) | (apply LEq.cons; (case h => (conv => lhs; whnf); try exact rfl))))))
                | ((with_reducible apply OpR.inc); (case hx => exact rfl); (case hy => exact rfl); (case h => omega))
                | ((with_reducible apply OpR.fal); (case hy => exact rfl); (case ho => exact rfl); (case hn => (conv => lhs; whnf); try exact rfl))
                | ((with_reducible apply OpR.al); (case hs => exact fun _ => rfl); (case hz => exact rfl); (case hc => (repeat' (first | exact LEq.nil | ((with_reducible apply LEq.cons); (case h => (conv => lhs; whnf); try exact rfl)) | (apply LEq.cons; (case h => (conv => lhs; whnf); try exact rfl))))); (case hn => (first | exact ln0 | exact ln1 | exact ln2 | exact ln3 | exact ln4 | exact ln5 | exact ln6 | exact ln7 | exact ln8 | exact ln9 | exact ln10 | exact ln11 | exact ln12 | exact ln13 | exact ln14)); (case hf => (repeat' (first | exact LEq.nil | ((with_reducible apply LEq.cons); (case h => (conv => lhs; whnf); try exact rfl)) | (apply LEq.cons; (case h => (conv => lhs; whnf); try exact rfl))))))
                | ((with_reducible apply OpR.stw); (case hs => exact fun _ => rfl); (case ha => exact rfl); (case hy => exact rfl); (case ht => first | (with_reducible exact sz0) | (with_reducible exact sz1) | (with_reducible exact sz2) | (with_reducible exact sz3) | (with_reducible exact sz4) | (with_reducible exact sz5) | (with_reducible exact sz6) | (with_reducible exact sz7) | (with_reducible exact sz8) | (with_reducible exact sz9) | exact rfl); (case ho => kernel_rfl); (case hl => kernel_rfl); (case hb => exact rfl); (case hc => kernel_rfl); (case hf => (repeat' (first | exact LEq.nil | ((with_reducible apply LEq.cons); (case h => (conv => lhs; whnf); try exact rfl)) | (apply LEq.cons; (case h => (conv => lhs; whnf); try exact rfl))))))
                | ((with_reducible apply OpR.ixr); (case he => first | (with_reducible exact el0) | (with_reducible exact el1) | (with_reducible exact el2) | (with_reducible exact el3) | (with_reducible exact el4) | (with_reducible exact el5) | (with_reducible exact el6) | (with_reducible exact el7) | exact rfl); (case hx => exact rfl); (case hi => exact rfl); (case hb => exact rfl); (case hq => first | assumption | omega))
                | ((with_reducible apply OpR.lds); (case hy => exact rfl); (case ht => first | (with_reducible exact sz0) | (with_reducible exact sz1) | (with_reducible exact sz2) | (with_reducible exact sz3) | (with_reducible exact sz4) | (with_reducible exact sz5) | (with_reducible exact sz6) | (with_reducible exact sz7) | (with_reducible exact sz8) | (with_reducible exact sz9)); (case hb => exact rfl); (case hk => assumption); (case hl => kernel_rfl); (case hv => (repeat' (first | exact LEq.nil | ((with_reducible apply LEq.cons); (case h => (conv => lhs; whnf); try exact rfl)) | (apply LEq.cons; (case h => (conv => lhs; whnf); try exact rfl))))))
                | exact OpR.r fun _ => rfl))
             | fail)
          refine ⟨q + 1, ?_, rfl, by omega, by omega⟩
          rw [hsn]; rfl
        ·
          rw [List.take_of_length_le q3] at j1 j2 ⊢
          obtain ⟨d, hd⟩ : ∃ d, joinE X c1 = d := ⟨_, rfl⟩
          rw [hd] at j1 j2 w1 w2 ⊢
          have hdE := intsE_len d
          have k2 := ecut_c (l := l) (c := d) (by omega) (by omega)
          have hY : ∀ e ∈ cutE l d, e ∈ l := fun e he => (List.mem_filter.1 he).1
          obtain ⟨Y, hYY⟩ : ∃ Y, cutE l d = Y := ⟨_, rfl⟩
          rw [hYY] at w1 w2 k2 hY
          have k3 := eclock_c (l := Y) (m := d.length) w1 (fun e he => by rw [hm e (hY e he), j2]) (by omega) (by omega)
          rw [j2, w2] at k3
          rw [← j2] at k3
          have k4 := equalint_c (xs := d) (ys := d) (by omega) (by omega)
          rw [beq_self_eq_true] at k4
          repeat' (first
             | (with_reducible apply EvK.seq)
             | ((with_reducible apply EvK.text); (try case hm => exact rfl))
             | (with_reducible apply EvK.exit)
             | (with_reducible apply EvK.ret)
             | (with_reducible apply thenK_n)
             | (with_reducible apply thenK_e)
             | (with_reducible apply blockK_h)
             | ((with_reducible apply EvK.cond_f); (case hc => exact rfl))
             | ((with_reducible apply EvO.spd_t); (case hp => first | assumption | omega))
             | ((with_reducible apply EvO.spd_f); (case hp => first | assumption | omega))
             | (with_reducible apply EvO.nilT)
             | ((with_reducible apply EvO.gt0); (case hW => exact rfl); (case hx => first
                | ((with_reducible apply OpR.mv); (conv => lhs; whnf); try exact rfl)
                | ((with_reducible apply OpR.callF); (case hcal => exact rfl); (case hav => exact rfl); (case hx => exact rfl); (case hh => exact rfl); (case hm => exact rfl); (case hcl => exact k4); (case hr => exact rfl))))
             | ((with_reducible apply EvO.u0); (case hx => first
                | ((with_reducible apply OpR.mv); (conv => lhs; whnf); try exact rfl)
                | ((with_reducible apply OpR.asg); (conv => lhs; whnf); try exact rfl)
                | ((with_reducible apply OpR.pk_t); (case hc => exact rfl); (case h => (conv => lhs; whnf); try exact rfl))
                | ((with_reducible apply OpR.callX); (case hcal => exact rfl); (case hav => exact rfl); (case hx => exact rfl); (case hh => exact rfl); (case hm => exact rfl); (case hcl => exact k2); (case hr => exact rfl); (case hd => exact rfl); (case hq => kernel_rfl); (case hn => (first | exact ln0 | exact ln1 | exact ln2 | exact ln3 | exact ln4 | exact ln5 | exact ln6 | exact ln7 | exact ln8 | exact ln9 | exact ln10 | exact ln11 | exact ln12 | exact ln13 | exact ln14)); (case hv => (conv => lhs; whnf); try exact rfl); (case he => (repeat' (first | exact XFr.nil | (with_reducible apply XFr.row) | (with_reducible apply XFr.boxt) | ((apply XFr.box); (case hd => (repeat' (first | exact LEq.nil | ((with_reducible apply LEq.cons); (case h => (conv => lhs; whnf); try exact rfl)) | (apply LEq.cons; (case h => (conv => lhs; whnf); try exact rfl))))))))); (case hf => (repeat' (first | exact LEq.nil | ((with_reducible apply LEq.cons); (case h => (conv => lhs; whnf); try exact rfl)) | (apply LEq.cons; (case h => (conv => lhs; whnf); try exact rfl))))))
                | ((with_reducible apply OpR.callY [4]); (case hcal => exact rfl); (case hav => exact rfl); (case hx => exact rfl); (case hh => exact rfl); (case hm => exact rfl); (case hcl => exact k3); (case hr => exact rfl); (case hd => exact rfl); (case hq => kernel_rfl); (case hz => (repeat' (first | exact LEq.nil | ((with_reducible apply LEq.cons); (case h => (conv => lhs; whnf); try exact rfl)) | (apply LEq.cons; (case h => (conv => lhs; whnf); try exact rfl))))); (case hn => (first | exact ln0 | exact ln1 | exact ln2 | exact ln3 | exact ln4 | exact ln5 | exact ln6 | exact ln7 | exact ln8 | exact ln9 | exact ln10 | exact ln11 | exact ln12 | exact ln13 | exact ln14)); (case hv => (conv => lhs; whnf); try exact rfl); (case he => (repeat' (first | exact XFr.nil | (with_reducible apply XFr.row) | (with_reducible apply XFr.boxt) | ((apply XFr.box); (case hd => (repeat' (first | exact LEq.nil | ((with_reducible apply LEq.cons); (case h => (conv => lhs; whnf); try exact rfl)) | (apply LEq.cons; (case h => (conv => lhs; whnf); try exact rfl))))))))); (case hf => (repeat' (first | exact LEq.nil | ((with_reducible apply LEq.cons); (case h => (conv => lhs; whnf); try exact rfl)) | (apply LEq.cons; (case h => (conv => lhs; whnf); try exact rfl))))))
                | ((with_reducible apply OpR.len); (case ha => exact rfl); (case hy => exact rfl); (case ht => exact rfl); (case hs => exact rfl); (case hn => first | exact List.length_map _ | exact rfl))
                | exact OpR.r fun _ => rfl))
             | fail)
          exact ⟨.inr rfl, rfl⟩
      ·
        repeat' (first
           | (with_reducible apply EvK.seq)
           | ((with_reducible apply EvK.text); (try case hm => exact rfl))
           | (with_reducible apply EvK.exit)
           | (with_reducible apply EvK.ret)
           | (with_reducible apply thenK_n)
           | (with_reducible apply thenK_e)
           | (with_reducible apply thenK_r)
           | (with_reducible apply blockK_h)
           | ((with_reducible apply EvK.cond_t); (case hc => exact rfl))
           | ((with_reducible apply EvK.cond_f); (case hc => exact rfl))
           | ((with_reducible apply EvO.spd_f); (case hp => first | assumption | omega))
           | ((with_reducible apply EvO.spn_yt); (case hp => first | assumption | omega))
           | (with_reducible apply EvO.nilT)
           | ((with_reducible apply EvO.gt0); (case hW => exact rfl); (case hx => first
              | ((with_reducible apply OpR.mv); (conv => lhs; whnf); try exact rfl)
              | ((with_reducible apply OpR.callF); (case hcal => exact rfl); (case hav => exact rfl); (case hx => exact rfl); (case hh => exact rfl); (case hm => exact rfl); (case hcl => exact kv); (case hr => exact rfl))
              | ((with_reducible apply OpR.len); (case ha => exact rfl); (case hy => exact rfl); (case ht => exact rfl); (case hs => exact rfl); (case hn => first | exact List.length_map _ | exact rfl))
              | ((with_reducible apply OpR.ix); (case he => first | (with_reducible exact el0) | (with_reducible exact el1) | (with_reducible exact el2) | (with_reducible exact el3) | (with_reducible exact el4) | (with_reducible exact el5) | (with_reducible exact el6) | (with_reducible exact el7) | exact rfl); (case hx => exact rfl); (case hi => exact rfl); (case hc => assumption); (case hz => exact rfl))
              | exact OpR.r fun _ => rfl))
           | ((with_reducible apply EvO.u0); (case hx => first
              | ((with_reducible apply OpR.mv); (conv => lhs; whnf); try exact rfl)
              | ((with_reducible apply OpR.asg); (conv => lhs; whnf); try exact rfl)
              | ((with_reducible apply OpR.pk_f); (case hc => exact rfl); (case h => (conv => lhs; whnf); try exact rfl))
              | ((with_reducible apply OpR.len); (case ha => exact rfl); (case hy => exact rfl); (case ht => exact rfl); (case hs => exact rfl); (case hn => first | exact List.length_map _ | exact rfl))
              | exact OpR.r fun _ => rfl))
           | fail)
        exact ⟨.inr rfl, rfl⟩
end Go.Proofs.YtgbfedgghjcdcaaGreatDoor
