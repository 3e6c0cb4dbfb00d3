import Derived.Test.YtojkpenjeglipaaGreatTZM
set_option linter.unusedSimpArgs false
set_option linter.unusedVariables false
namespace Go.Ax
set_option maxRecDepth 1000000 in
theorem Cc9 : Br4 TBL (orS SS (BT8 ZML)) 10000 200 C7 [] [] = some (.d (.bool true), []) := by kernel_rfl
def BG7 : Bool := true
theorem Bz8 {r : Bool} (hr : BG7 = r) {st : List Content} {K : PV → List Content → Prop} (h : K (.d (.bool r)) st) : Aw PR C7 [] st K := by
 subst hr
 have h1 := AL4 BM2 (BY8 BU8 (BF3 Ch4)) 200 C7 [] [] _ _ Cc9
 exact ((h1.mono fun p st' hp => hp.1).anywhere st).mono fun p st' hp => by rw [hp.1, hp.2]; exact h
end Go.Ax
