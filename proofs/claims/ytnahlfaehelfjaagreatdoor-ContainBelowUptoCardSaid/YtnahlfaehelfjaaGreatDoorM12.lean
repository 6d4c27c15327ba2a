/- Of my texts: TextT. -/
import Derived.Test.YtnahlfaehelfjaaGreatDoorM03
import Derived.Test.YtnahlfaehelfjaaGreatDoorM04
import Derived.Test.YtnahlfaehelfjaaGreatDoorM05
import Derived.Lib.ItoaLen
import Derived.Laws.IdiomStrings
import Derived.Laws.Concat
namespace Go.Proofs.YtnahlfaehelfjaaGreatDoor
set_option linter.unusedVariables false
set_option linter.unusedSimpArgs false
open Go.RowKit Go.Lib
theorem ba_app (l m:List UInt8):(⟨l.toArray⟩++⟨m.toArray⟩:ByteArray)=⟨(l++m).toArray⟩:=by
 apply ByteArray.ext
 simp
end Go.Proofs.YtnahlfaehelfjaaGreatDoor
