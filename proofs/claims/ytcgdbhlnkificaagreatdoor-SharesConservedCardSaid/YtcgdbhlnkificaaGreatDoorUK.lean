/- Law 40: SharesStarts: the law's function answers true. No condition. -/
import Derived.Test.YtcgdbhlnkificaaGreatDoorUH
set_option linter.all false
namespace Go.Proofs.YtcgdbhlnkificaaGreatDoor
open Go.RowKit
set_option maxRecDepth 100000
set_option maxHeartbeats 32000000
def Gj{m:Md}{p:Pln}{R:Int}{l:aO}(h:cT m p R l=true):Rm l:=by
 obtain⟨D,J,U,z⟩:=lU.1 h;have v:=(kU.1 D).gb;refine⟨by omega,fun x G=>?_⟩;obtain⟨i,u⟩:=List.mem_iff_getElem?.1 G;obtain⟨h1,h2⟩:=z i x u;have:=qI m p (i:Int);exact⟨by omega,fun y I=>by have:=(h2 y I).1;omega⟩
def Ka{m:Md}{p:Pln}{R:Int}(hv:cy m p=true)(z:1<=R/\R<=5):cT m p R (iY m p R)=true:=by
 refine lU.2 ⟨hv,z,yC m p R,fun i x u=>?_⟩;unfold iY at u;rw[List.getElem?_map]at u
 cases v:(List.range p.aA.length)[i]? with
 |none=>rw[v]at u;cases u
 |some j=>
  rw[v]at u
  have D:j=i:=by
   have h1:=aC v;rw[List.length_range]at h1;rw[List.getElem?_range h1]at v;exact(Option.some.inj v).symm
  subst D;cases u;have:=qI m p (j:Int);rw[List.length_replicate];refine⟨by omega,fun y I=>?_⟩;rw[List.eq_of_mem_replicate I,List.length_replicate];refine⟨by omega,fun n G=>?_⟩;rw[List.eq_of_mem_replicate G];omega
end Go.Proofs.YtcgdbhlnkificaaGreatDoor
