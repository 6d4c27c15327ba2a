/- Of my texts: CondB. -/
import Derived.Test.YtnbkbenkhkinoaaGreatDoorM03
import Derived.Deep.LoopGhost
namespace Go.Proofs.YtnbkbenkhkinoaaGreatDoor
set_option linter.unusedVariables false
set_option linter.unusedSimpArgs false
open Go.RowKit
def tr (x:Int):Int:=if x=0∨x=2 then x else 1
structure Ints (w:World) (oa:Option Addr) (len cap:Nat) (b o:Nat) (l:List Int):Prop where
 hlen:len=l.length
 hcap:len≤cap
 small:cap≤maxLen
 at_:0<len→oa=some ⟨b,o,none⟩
 lt:0<len→b<w.heap.size
 c0:∀ (i:Nat) (x:Int),l[i]?=some x→w.cell? ⟨b,o+i,none⟩=some (.int .i64 x)
 is64:∀ (i:Nat) (x:Int),l[i]?=some x→-9223372036854775808≤x∧x≤9223372036854775807
theorem Ints.below {w w':World} {oa:Option Addr} {len cap b o:Nat} {l:List Int} (h:Ints w oa len cap b o l) (hb:Below w.heap.size w w'):Ints w' oa len cap b o l:=by
 have key:∀ (i:Nat) (r:Int),l[i]?=some r→0<len:=fun i r hr=>by
  have:=(List.getElem?_eq_some_iff.1 hr).1;rw[h.hlen];omega
 refine⟨h.hlen,h.hcap,h.small,h.at_,fun hl=>Nat.lt_of_lt_of_le (h.lt hl) hb.size,fun i r hr=>?_,h.is64⟩;rw[hb.cell (h.lt (key i r hr))];exact h.c0 i r hr
end Go.Proofs.YtnbkbenkhkinoaaGreatDoor
