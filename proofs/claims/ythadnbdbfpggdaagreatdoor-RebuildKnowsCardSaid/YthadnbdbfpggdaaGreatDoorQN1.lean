/- Parts of the proof. No condition. -/
import Derived.Test.YthadnbdbfpggdaaGreatDoorQO0
import Derived.Test.YthadnbdbfpggdaaGreatDoorQO1
import Derived.Test.YthadnbdbfpggdaaGreatDoorQO2
import Derived.Test.YthadnbdbfpggdaaGreatDoorQO3
import Derived.Test.YthadnbdbfpggdaaGreatDoorQO4
import Derived.Test.YthadnbdbfpggdaaGreatDoorQO5
import Derived.Test.YthadnbdbfpggdaaGreatDoorQO6
import Derived.Test.YthadnbdbfpggdaaGreatDoorQO7
import Derived.Test.YthadnbdbfpggdaaGreatDoorQO8
import Derived.Test.YthadnbdbfpggdaaGreatDoorQO9
import Derived.Test.YthadnbdbfpggdaaGreatDoorQO10
import Derived.Test.YthadnbdbfpggdaaGreatDoorQO11
import Derived.Test.YthadnbdbfpggdaaGreatDoorQO12
import Derived.Test.YthadnbdbfpggdaaGreatDoorQO13
import Derived.Test.YthadnbdbfpggdaaGreatDoorQO14
import Derived.Laws.Externs
import Derived.KernelRfl
import Derived.Laws.StructEq
import Derived.Laws.CopyRow
import Derived.Laws.AppendOwn
import Derived.Laws.OwnMore
import Derived.Laws.MakeOwn
import Derived.Great.BuildSlice
import Derived.WalkKit
import Derived.WalkSpells
import Derived.WalkLawsBesides
import Derived.Lib.Hide
import Derived.Orders
import Derived.RegionTactic
import Derived.Deep.RegionHeld
import Derived.IntWalk
noncomputable section
namespace Go.Proofs.YthadnbdbfpggdaaGreatDoor
open Go.RowKit
set_option linter.unusedSimpArgs false
set_option linter.unusedVariables false
section
variable{P:Program}{nt n0:Nat}{Q:Exit->DSt->Prop}{st:DSt}
theorem ZA.frz{env:Env}{sto:Sto}{nxt s:Nat}{k:Ob}(l:sto.get s=some k):ZA n0 ⟨env,sto,nxt⟩ ⟨env,(s,{ k with frz:=true }) :: sto,nxt⟩:=λC _ a w q=>by
 obtain ⟨m,rfl,c,o⟩:=q;obtain ⟨p,g⟩:=QeN c.inv [s];refine ⟨Go.Proofs.YthadnbdbfpggdaaGreatDoor.frz m [s],rfl,⟨p,c.M,c.size,c.defers,c.org.trans g.ent,c.lim0,λj=>(c.env j).ext g.toExt,λf h b=>?_⟩,λf b=>?_⟩
 ·simp only[Sto.get_cons]at b;split at b
  ·rename_i d;subst d;injection b with b;subst b;exact frz_holds c.inv Os (c.sto _ _ l)
  ·rename_i d;exact frz_keeps c.inv (c.sto f h b) (by simpa using d)
 ·have d:=o f b;have n:f≠s:=λe=>by subst e;obtain ⟨e,i,_⟩:=c.sto f _ l;rw[d]at i;cases i
  rw[g.same f (by simpa using n)];exact d
end
end Go.Proofs.YthadnbdbfpggdaaGreatDoor
