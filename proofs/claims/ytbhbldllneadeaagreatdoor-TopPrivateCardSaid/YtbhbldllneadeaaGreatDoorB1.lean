/- What the laws share, part 1. No condition. -/
import Derived.WalkKit
import Derived.Deep.Quiet
import Derived.OrdersIn
import Derived.TacticsIn
import Derived.RangeFuncCalls
import Derived.Laws.FloatArith
import Derived.Great.BuildSlice
import Derived.Laws.Append
import Derived.Laws.StructEq
import Derived.Laws.MakeOwn
import Derived.ChangeKeysEq
import Derived.Deep.QuietTactic
import Derived.RangeFuncFrom
import Derived.RangeFuncLeaves
import Derived.KernelRfl
import Derived.Test.YtbhbldllneadeaaGreatDoorRows
import Derived.Lib.SlicesCompact
import Derived.Test.YtbhbldllneadeaaGreatDoorQ27
namespace Go.Proofs.YtbhbldllneadeaaGreatDoor
open Go
section rules
variable{P:Program}{W0:World}{own:Own}{f:Fr}
theorem eN{p:Prop}(h:p:=by repeat(first|exact List.Mem.head _|apply List.Mem.tail|apply zR)):p:=h
theorem qon{a b:IC}{Q:q4k}(h:XS P W0 a (q6H (XS P W0 b Q) Q) f own):qnc P W0 a b (XS P W0 a) (XS P W0 b) Q f own:=by
 refine⟨q0o a _ _ ?_ f own h⟩;intro e f' own' h;cases e with
 |normal=>exact⟨own',Ent.refl,h⟩
 |_=>exact h
theorem qoT{b o sz n:Nat}{i:Int}{K:Addr→Prop}(hj:0≤i∧i<n)(h:K ⟨b,o+i.toNat*sz,none⟩):IxS (some ⟨b,o,none⟩) sz i n K:=⟨i.toNat,b,o,Y6,Y6,rfl,h⟩
theorem qph{b:Bool}{Ky Kn:Prop}(hy:b=true→Ky)(hn:b=false→Kn):Br b Ky Kn:=⟨hy,hn⟩
end rules
end Go.Proofs.YtbhbldllneadeaaGreatDoor
