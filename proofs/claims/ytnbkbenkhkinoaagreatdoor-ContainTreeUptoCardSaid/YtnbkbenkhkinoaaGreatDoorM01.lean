/- Of my texts: RatMath. -/
namespace Go.Proofs.YtnbkbenkhkinoaaGreatDoor
set_option linter.unusedVariables false
set_option linter.unusedSimpArgs false
abbrev Rt:=Int×Int
def Is64 (r:Rt):Prop:=-9223372036854775808≤r.1∧r.1≤9223372036854775807∧-9223372036854775808≤r.2∧r.2≤9223372036854775807
def cmpI (a b:Rt):Int:=if a.1*b.2<b.1*a.2 then -1 else if b.1*a.2<a.1*b.2 then 1 else 0
end Go.Proofs.YtnbkbenkhkinoaaGreatDoor
