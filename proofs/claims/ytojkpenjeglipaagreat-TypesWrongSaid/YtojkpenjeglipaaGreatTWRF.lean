import Derived.Test.YtojkpenjeglipaaGreatTAxRow3
import Derived.Test.YtojkpenjeglipaaGreatRows
import Derived.KernelRfl
set_option linter.unusedSimpArgs false
set_option linter.unusedVariables false
namespace Go.Proofs.YtojkpenjeglipaaGreat
open Go.Ax
theorem jw1 : (Rows.typesWrongRow.wf (OpenSpec.ofChange Rows.typesWrongSpec)) = true := by kernel_rfl
theorem jw2 : (laidOutB Tryz.prog) = true := by kernel_rfl
theorem jw3 : (mapsRowed Tryz.prog) = true := by kernel_rfl
theorem jw4 : (Tryz.f3.params.all (Tryz.prog.readableRec ·)) = true := by kernel_rfl
theorem jw5 : (namedTie Tryz.prog Rows.typesWrongRow.named Rows.typesWrongSpec.vars) = true := by kernel_rfl
theorem jw6 : ((Rows.typesWrongRow.stops == [])) = true := by kernel_rfl
theorem jw7 : ((Tryz.prog.stops == [])) = true := by kernel_rfl
theorem jw8 : ((Rows.typesWrongRow.knobs == [])) = true := by kernel_rfl
theorem jw9 : ((Tryz.prog.stopKnobs == [])) = true := by kernel_rfl
theorem Cl8 : ((Rows.typesWrongRow.inPlace == Tryz.prog.inPlace 3)) = true := by kernel_rfl
theorem Cm4 : ((Rows.typesWrongRow.unfollowed == Tryz.prog.unfollowed 3)) = true := by kernel_rfl
theorem Ck5 : ((Rows.typesWrongRow.recurses == Tryz.prog.recurses 3)) = true := by kernel_rfl
theorem Cm3 : ((Rows.typesWrongRow.named == Tryz.prog.varsNamed 3)) = true := by kernel_rfl
theorem Cm8 : ((Rows.typesWrongRow.maps == (Tryz.f3.params.toList ++ Rows.typesWrongSpec.plain.varTypes Tryz.prog).any (Tryz.prog.mapsRec ·))) = true := by kernel_rfl
theorem Cl1 : ((Rows.typesWrongRow.ifaces == (Tryz.f3.params.toList ++ Rows.typesWrongSpec.plain.varTypes Tryz.prog).any (Tryz.prog.ifacesRec ·))) = true := by kernel_rfl
theorem Cl6 : ((Rows.typesWrongRow.mapsOut == Tryz.prog.mapsAmong Tryz.f3.resultTypes.toList)) = true := by kernel_rfl
theorem Cn1 : ((Rows.typesWrongRow.loops == (Tryz.f3.params.toList ++ Rows.typesWrongSpec.plain.varTypes Tryz.prog).any (Tryz.prog.loopsFrom ·))) = true := by kernel_rfl
theorem Cm5 : ((Rows.typesWrongRow.wideKeys == (Tryz.f3.params.toList ++ Rows.typesWrongSpec.plain.varTypes Tryz.prog ++ Tryz.f3.resultTypes.toList).any (Tryz.prog.wideKeysFrom ·))) = true := by kernel_rfl
theorem Ck9 : (Rows.typesWrongSpec.vars.all (Tryz.prog.varReadable ·)) = true := by kernel_rfl
theorem Cn2 : (Tryz.f3.resultTypes.all (fun t => Tryz.prog.readableRec t && decide (t < Tryz.prog.types.size))) = true := by kernel_rfl
theorem Cm6 : ((Rows.typesWrongRow.ifacesOut == Tryz.f3.resultTypes.toList.any (Tryz.prog.ifacesRec ·))) = true := by kernel_rfl
theorem Cm9 : ((Rows.typesWrongRow.loopsOut == Tryz.f3.resultTypes.toList.any (Tryz.prog.loopsFrom ·))) = true := by kernel_rfl
theorem Cm7 : ((Rows.typesWrongRow.plainKeys == Tryz.prog.plainKeys)) = true := by kernel_rfl
theorem Cl2 : (Rows.typesWrongRow.shortTexts.isNone) = true := by kernel_rfl
theorem Cm1 : (Tryz.prog.stopsHeard) = true := by kernel_rfl
theorem Cl0 : (Tryz.prog.mayEnter) = true := by kernel_rfl
theorem Ck6 : ((Rows.typesWrongRow.lifted == Tryz.prog.liftsFinal)) = true := by kernel_rfl
theorem Cl5 : ((Tryz.prog.make == some Rows.typesWrongRow.make)) = true := by kernel_rfl
theorem Ck8 : ((Rows.typesWrongRow.kinds == (if Rows.typesWrongRow.domain.isEmpty then [] else Tryz.f3.params.toList.map fun t => match Tryz.prog.underlying t with | some (.int k) => some k | _ => none))) = true := by kernel_rfl
theorem Cl7 : ((Rows.typesWrongRow.pinned == Rows.typesWrongRow.pinnedBy)) = true := by kernel_rfl
theorem Ck7 : ((Rows.typesWrongRow.veiled == (Tryz.f3.params.toList ++ Rows.typesWrongSpec.plain.varTypes Tryz.prog ++ Tryz.f3.resultTypes.toList).any (Tryz.prog.veiledRec ·))) = true := by kernel_rfl
theorem Cn0 : (Rows.typesWrongRow.veiledFits Tryz.prog Tryz.f3.params.toList (Tryz.f3.params.toList ++ Rows.typesWrongSpec.plain.varTypes Tryz.prog ++ Tryz.f3.resultTypes.toList)) = true := by kernel_rfl
theorem BN0 : Tryz.pinned.checked.prog.funcNamed Rows.typesWrongRow.func = some 3 := by kernel_rfl
end Go.Proofs.YtojkpenjeglipaaGreat
