/- slices.Delete of three kinds of elements: the walks. No condition. -/
import Derived.Test.YtcpgmmlaimkojaaGreatDoorVSD
import Derived.Shelf.RegionOpenPlain
import Derived.Deep.RegionLaw
set_option linter.unusedSimpArgs false
set_option linter.unusedVariables false
set_option linter.unusedSectionVars false
namespace Go.Proofs.YtcpgmmlaimkojaaGreatDoor
open Go.RowKit
set_option maxRecDepth 100000
set_option maxHeartbeats 4000000
theorem delE_walk (g cap n a b:Nat) (us:List Value) (w W2:World) (i0:TypeInfo) (hi0:Tryz.prog.info? 76=some i0) (hz1:i0.size=6) (hab:a < b) (hb:b≤n) (hc:n≤cap) (_:cap≤9223372036854775807)
  (hul:us.length=n * 6) (hcell:∀ q u,us[q]?=some u→w.cell? ⟨g,q,none⟩=some u) (hfr:∀ q,w.frozen? ⟨g,q,none⟩=false) (hone:∀ u∈us,u.oneCell'=true)
  (hcl:∀ ty cc,(Builtin.clear_ #[31] ty #[.slice (some ⟨g,(a+(n - b)) * 6,none⟩) (n - (a+(n - b))) cc]).run Tryz.prog (w.drew.setCells g (a * 6) (us.drop (b * 6)))=.ok (.tuple #[]) W2) :
  Calls Tryz.prog 34 #[.slice (some ⟨g,0,none⟩) n cap,.int .i64 a,.int .i64 b] w fun e w'=>e=.returned (.slice (some ⟨g,0,none⟩) (n - (b - a)) cap)∧w'=W2:=by
 have mixed:Tryz.prog.follows .mixedOrders=true:=by kernel_rfl
 have t31:Tryz.prog.underlying 31=some (.slice 76):=by kernel_rfl
 obtain ⟨news,hnews⟩:∃ news,news=us.drop (b * 6):=⟨_,rfl⟩
 have hlen:news.length=(n - b) * 6:=by rw [hnews,List.length_drop,hul,Nat.sub_mul]
 obtain ⟨A,hA,hsrc⟩:∃ A:Addr,(if cap=b then some (⟨g,0,none⟩:Addr) else some ⟨g,b * 6,none⟩)=some A∧Hid (∀ t u,news[t]?=some u→w.drew.cell? (A.add t)=some u):=by
  by_cases h:cap=b
  ·refine ⟨⟨g,0,none⟩,by simp [h],fun t u hu=>?_⟩
   have h0:news.length=0:=by rw [hlen];omega
   rw [List.length_eq_zero_iff.1 h0] at hu
   simp at hu
  ·refine ⟨⟨g,b * 6,none⟩,by simp [h],fun t u hu=>?_⟩
   rw [hnews,List.getElem?_drop] at hu
   rw [Addr.add_lit]
   exact hcell _ _ hu
 have s1:Hid (news.length=(n - b) * 6):=hlen
 have s2:Hid (∀ u∈news,u.oneCell'=true):=fun u hu=>hone u (by rw [hnews] at hu;exact List.mem_of_mem_drop hu)
 have s3:Hid (∀ t,t < news.length→(w.drew.cell? ⟨g,0+a * 6+t,none⟩).isSome=true∧w.drew.frozen? ⟨g,0+a * 6+t,none⟩=false):=by
  intro t ht
  rw [hlen] at ht
  refine ⟨?_,hfr _⟩
  have hq:0+a * 6+t < us.length:=by omega
  have hu:=List.getElem?_eq_getElem hq
  show (w.cell? _).isSome=true
  rw [hcell _ _ hu]
  rfl
 obtain ⟨W1,hW1⟩:∃ W1,W1=w.drew.setCells g (0+a * 6) news:=⟨_,rfl⟩
 have hW:Hid (W1=w.drew.setCells g (0+a * 6) news):=hW1
 replace hcl:∀ ty cc,(Builtin.clear_ #[31] ty #[.slice (some ⟨g,(a+(n - b)) * 6,none⟩) (n - (a+(n - b))) cc]).run Tryz.prog W1=.ok (.tuple #[]) W2:=fun ty cc=>by rw [hW1,Nat.zero_add,hnews];exact hcl ty cc
 have hic:a≤cap:=by omega
 have hjc:b≤cap:=by omega
 clear hW1 hnews hlen hcell hfr hone hul
 go_enter Tryz.func34,Tryz.ntmps34
 go_wp2_with fail
 go_region_law_o (refine step_append_room rfl (.tmp 22) (.tmp 25) 31 rfl 76 i0 6 t31 hi0 hz1 g 0 a cap (by simp [Act.eval,Act.put]) A (n - b) (cap - b) news (by simp [Act.eval,Act.put]) s1.out hsrc.out s2.out (by omega) s3.out ?_;rw [← hW.out])
 go_wp2
 go_ret
 exact ⟨by rw [show n - (b - a)=a+(n - b) by omega];rfl,rfl⟩
theorem delE_w:DelsW Tryz.prog 34 31 6 where
 known:=⟨_,Tryz.func34,by kernel_rfl,rfl⟩
 zero:=by kernel_rfl
 walk:=fun e i hu hi hz g cap n a b us w W2 h1 h2 h3 h4 h5 h6 h7 h8 h9=>by
  obtain rfl:76=e:=by
   have h:Tryz.prog.underlying 31=some (.slice 76):=by kernel_rfl
   rw [hu] at h
   cases h
   rfl
  exact delE_walk g cap n a b us w W2 i hi hz h1 h2 h3 h4 h5 h6 h7 h8 h9
theorem delM_walk (g cap n a b:Nat) (us:List Value) (w W2:World) (i0:TypeInfo) (hi0:Tryz.prog.info? 80=some i0) (hz1:i0.size=6) (hab:a < b) (hb:b≤n) (hc:n≤cap) (_:cap≤9223372036854775807)
  (hul:us.length=n * 6) (hcell:∀ q u,us[q]?=some u→w.cell? ⟨g,q,none⟩=some u) (hfr:∀ q,w.frozen? ⟨g,q,none⟩=false) (hone:∀ u∈us,u.oneCell'=true)
  (hcl:∀ ty cc,(Builtin.clear_ #[33] ty #[.slice (some ⟨g,(a+(n - b)) * 6,none⟩) (n - (a+(n - b))) cc]).run Tryz.prog (w.drew.setCells g (a * 6) (us.drop (b * 6)))=.ok (.tuple #[]) W2) :
  Calls Tryz.prog 36 #[.slice (some ⟨g,0,none⟩) n cap,.int .i64 a,.int .i64 b] w fun e w'=>e=.returned (.slice (some ⟨g,0,none⟩) (n - (b - a)) cap)∧w'=W2:=by
 have mixed:Tryz.prog.follows .mixedOrders=true:=by kernel_rfl
 have t31:Tryz.prog.underlying 33=some (.slice 80):=by kernel_rfl
 obtain ⟨news,hnews⟩:∃ news,news=us.drop (b * 6):=⟨_,rfl⟩
 have hlen:news.length=(n - b) * 6:=by rw [hnews,List.length_drop,hul,Nat.sub_mul]
 obtain ⟨A,hA,hsrc⟩:∃ A:Addr,(if cap=b then some (⟨g,0,none⟩:Addr) else some ⟨g,b * 6,none⟩)=some A∧Hid (∀ t u,news[t]?=some u→w.drew.cell? (A.add t)=some u):=by
  by_cases h:cap=b
  ·refine ⟨⟨g,0,none⟩,by simp [h],fun t u hu=>?_⟩
   have h0:news.length=0:=by rw [hlen];omega
   rw [List.length_eq_zero_iff.1 h0] at hu
   simp at hu
  ·refine ⟨⟨g,b * 6,none⟩,by simp [h],fun t u hu=>?_⟩
   rw [hnews,List.getElem?_drop] at hu
   rw [Addr.add_lit]
   exact hcell _ _ hu
 have s1:Hid (news.length=(n - b) * 6):=hlen
 have s2:Hid (∀ u∈news,u.oneCell'=true):=fun u hu=>hone u (by rw [hnews] at hu;exact List.mem_of_mem_drop hu)
 have s3:Hid (∀ t,t < news.length→(w.drew.cell? ⟨g,0+a * 6+t,none⟩).isSome=true∧w.drew.frozen? ⟨g,0+a * 6+t,none⟩=false):=by
  intro t ht
  rw [hlen] at ht
  refine ⟨?_,hfr _⟩
  have hq:0+a * 6+t < us.length:=by omega
  have hu:=List.getElem?_eq_getElem hq
  show (w.cell? _).isSome=true
  rw [hcell _ _ hu]
  rfl
 obtain ⟨W1,hW1⟩:∃ W1,W1=w.drew.setCells g (0+a * 6) news:=⟨_,rfl⟩
 have hW:Hid (W1=w.drew.setCells g (0+a * 6) news):=hW1
 replace hcl:∀ ty cc,(Builtin.clear_ #[33] ty #[.slice (some ⟨g,(a+(n - b)) * 6,none⟩) (n - (a+(n - b))) cc]).run Tryz.prog W1=.ok (.tuple #[]) W2:=fun ty cc=>by rw [hW1,Nat.zero_add,hnews];exact hcl ty cc
 have hic:a≤cap:=by omega
 have hjc:b≤cap:=by omega
 clear hW1 hnews hlen hcell hfr hone hul
 go_enter Tryz.func36,Tryz.ntmps36
 go_wp2_with fail
 go_region_law_o (refine step_append_room rfl (.tmp 22) (.tmp 25) 33 rfl 80 i0 6 t31 hi0 hz1 g 0 a cap (by simp [Act.eval,Act.put]) A (n - b) (cap - b) news (by simp [Act.eval,Act.put]) s1.out hsrc.out s2.out (by omega) s3.out ?_;rw [← hW.out])
 go_wp2
 go_ret
 exact ⟨by rw [show n - (b - a)=a+(n - b) by omega];rfl,rfl⟩
theorem delM_w:DelsW Tryz.prog 36 33 6 where
 known:=⟨_,Tryz.func36,by kernel_rfl,rfl⟩
 zero:=by kernel_rfl
 walk:=fun e i hu hi hz g cap n a b us w W2 h1 h2 h3 h4 h5 h6 h7 h8 h9=>by
  obtain rfl:80=e:=by
   have h:Tryz.prog.underlying 33=some (.slice 80):=by kernel_rfl
   rw [hu] at h
   cases h
   rfl
  exact delM_walk g cap n a b us w W2 i hi hz h1 h2 h3 h4 h5 h6 h7 h8 h9
theorem delL_walk (g cap n a b:Nat) (us:List Value) (w W2:World) (i0:TypeInfo) (hi0:Tryz.prog.info? 84=some i0) (hz1:i0.size=5) (hab:a < b) (hb:b≤n) (hc:n≤cap) (_:cap≤9223372036854775807)
  (hul:us.length=n * 5) (hcell:∀ q u,us[q]?=some u→w.cell? ⟨g,q,none⟩=some u) (hfr:∀ q,w.frozen? ⟨g,q,none⟩=false) (hone:∀ u∈us,u.oneCell'=true)
  (hcl:∀ ty cc,(Builtin.clear_ #[32] ty #[.slice (some ⟨g,(a+(n - b)) * 5,none⟩) (n - (a+(n - b))) cc]).run Tryz.prog (w.drew.setCells g (a * 5) (us.drop (b * 5)))=.ok (.tuple #[]) W2) :
  Calls Tryz.prog 38 #[.slice (some ⟨g,0,none⟩) n cap,.int .i64 a,.int .i64 b] w fun e w'=>e=.returned (.slice (some ⟨g,0,none⟩) (n - (b - a)) cap)∧w'=W2:=by
 have mixed:Tryz.prog.follows .mixedOrders=true:=by kernel_rfl
 have t31:Tryz.prog.underlying 32=some (.slice 84):=by kernel_rfl
 obtain ⟨news,hnews⟩:∃ news,news=us.drop (b * 5):=⟨_,rfl⟩
 have hlen:news.length=(n - b) * 5:=by rw [hnews,List.length_drop,hul,Nat.sub_mul]
 obtain ⟨A,hA,hsrc⟩:∃ A:Addr,(if cap=b then some (⟨g,0,none⟩:Addr) else some ⟨g,b * 5,none⟩)=some A∧Hid (∀ t u,news[t]?=some u→w.drew.cell? (A.add t)=some u):=by
  by_cases h:cap=b
  ·refine ⟨⟨g,0,none⟩,by simp [h],fun t u hu=>?_⟩
   have h0:news.length=0:=by rw [hlen];omega
   rw [List.length_eq_zero_iff.1 h0] at hu
   simp at hu
  ·refine ⟨⟨g,b * 5,none⟩,by simp [h],fun t u hu=>?_⟩
   rw [hnews,List.getElem?_drop] at hu
   rw [Addr.add_lit]
   exact hcell _ _ hu
 have s1:Hid (news.length=(n - b) * 5):=hlen
 have s2:Hid (∀ u∈news,u.oneCell'=true):=fun u hu=>hone u (by rw [hnews] at hu;exact List.mem_of_mem_drop hu)
 have s3:Hid (∀ t,t < news.length→(w.drew.cell? ⟨g,0+a * 5+t,none⟩).isSome=true∧w.drew.frozen? ⟨g,0+a * 5+t,none⟩=false):=by
  intro t ht
  rw [hlen] at ht
  refine ⟨?_,hfr _⟩
  have hq:0+a * 5+t < us.length:=by omega
  have hu:=List.getElem?_eq_getElem hq
  show (w.cell? _).isSome=true
  rw [hcell _ _ hu]
  rfl
 obtain ⟨W1,hW1⟩:∃ W1,W1=w.drew.setCells g (0+a * 5) news:=⟨_,rfl⟩
 have hW:Hid (W1=w.drew.setCells g (0+a * 5) news):=hW1
 replace hcl:∀ ty cc,(Builtin.clear_ #[32] ty #[.slice (some ⟨g,(a+(n - b)) * 5,none⟩) (n - (a+(n - b))) cc]).run Tryz.prog W1=.ok (.tuple #[]) W2:=fun ty cc=>by rw [hW1,Nat.zero_add,hnews];exact hcl ty cc
 have hic:a≤cap:=by omega
 have hjc:b≤cap:=by omega
 clear hW1 hnews hlen hcell hfr hone hul
 go_enter Tryz.func38,Tryz.ntmps38
 go_wp2_with fail
 go_region_law_o (refine step_append_room rfl (.tmp 22) (.tmp 25) 32 rfl 84 i0 5 t31 hi0 hz1 g 0 a cap (by simp [Act.eval,Act.put]) A (n - b) (cap - b) news (by simp [Act.eval,Act.put]) s1.out hsrc.out s2.out (by omega) s3.out ?_;rw [← hW.out])
 go_wp2
 go_ret
 exact ⟨by rw [show n - (b - a)=a+(n - b) by omega];rfl,rfl⟩
theorem delL_w:DelsW Tryz.prog 38 32 5 where
 known:=⟨_,Tryz.func38,by kernel_rfl,rfl⟩
 zero:=by kernel_rfl
 walk:=fun e i hu hi hz g cap n a b us w W2 h1 h2 h3 h4 h5 h6 h7 h8 h9=>by
  obtain rfl:84=e:=by
   have h:Tryz.prog.underlying 32=some (.slice 84):=by kernel_rfl
   rw [hu] at h
   cases h
   rfl
  exact delL_walk g cap n a b us w W2 i hi hz h1 h2 h3 h4 h5 h6 h7 h8 h9
end Go.Proofs.YtcpgmmlaimkojaaGreatDoor
