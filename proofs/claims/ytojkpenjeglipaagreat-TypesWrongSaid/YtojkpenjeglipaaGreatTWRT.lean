/- A procedure that isn't right doesn't fit any catalog, and no place in it is told: the function answers true for any catalog and any saying, and leaves them as they are. No condition. -/
import Derived.Test.YtojkpenjeglipaaGreatTWP10
import Derived.Test.YtojkpenjeglipaaGreatTWTy
import Derived.Test.YtojkpenjeglipaaGreatTWRF
import Derived.WalkKit
import Derived.OpenShut
set_option linter.unusedSimpArgs false
set_option linter.unusedVariables false
namespace Go.Proofs.YtojkpenjeglipaaGreat
open Go.Ax
theorem BW2 : ownKnob Tryz.prog.godebug = none := by kernel_rfl
set_option maxRecDepth 100000 in
theorem BS8 (dss : List (List D)) (h : AJ4 Tryz.prog Tryz.f3.params.toList dss) : Aw Tryz.prog 3 (AO9 Tryz.prog Tryz.f3.params.toList dss) [] (fun p st' => p = .d (.bool true)) := by
 rw [Tryz.params3] at h ⊢
 obtain ⟨d1, r1, rfl, ⟨_, t1⟩, d2, r2, rfl, ⟨_, t2⟩, rfl⟩ := h
 obtain ⟨c, rfl⟩ := BI4 _ _ t1
 obtain ⟨x, rfl⟩ := BI0 _ _ t2
 obtain ⟨n, hn⟩ := Cb1 c x
 have := Ur (st := []) n c x hn (K := fun p st' => p = .d (.bool true)) rfl
 have e : AO9 Tryz.prog [27, 33] [c.row, x.row] = [.agg (c.row.map .d), .agg (x.row.map .d)] := by
   simp only [AO9, Bt4, Tryz.underlying27, Tryz.underlying33]
 exact e ▸ this
set_option maxRecDepth 100000 in
theorem Bz5 (os : Os) (started : os.Started) (H : Type) (enc : TypeId × Value → H) :
   ReturnsInHanded {} Tryz.checked os 3 .any (Rows.typesWrongSpec.pre6 enc Tryz.prog Tryz.f3 Rows.typesWrongRow.domain false) (Rows.typesWrongSpec.post enc Tryz.prog Tryz.f3 false true false false) :=
 law_lift (C := Tryz.checked) (tb := 4) (T := Bu5) BW2 started (by kernel_rfl) Tryz.func3
   (ChangeSpec.witness6 (enc := enc) (C := Tryz.checked) false ⟨#[], #[.agg #[.slice none 0 0, .slice none 0 0, .slice none 0 0, .slice none 0 0, .slice none 0 0], .agg #[.string ⟨#[]⟩, .string ⟨#[]⟩, .string ⟨#[]⟩, .int .i64 0, .slice none 0 0, .slice none 0 0, .slice none 0 0, .slice none 0 0]], []⟩ 8 (by kernel_rfl) (by kernel_rfl) (by kernel_rfl) (by kernel_rfl))
   rfl (fun ds h => by
     match ds, h with
     | [a, b], _ => rfl) rfl Tryz.underlying4 (show Bu5.all (EV Tryz.prog Bu5) = true by kernel_rfl) (show Tryz.f3.params.toList.all (fun t => Bu5.contains t) = true by kernel_rfl)
   (fun dss h => BS8 dss h)
set_option maxRecDepth 100000 in
theorem Bx7 : joinedFacts Tryz.prog 3 Tryz.f3 Rows.typesWrongSpec Rows.typesWrongRow = true := BS6 jw1 jw2 jw3 jw4 jw5 jw6 jw7 jw8 jw9 Cl8 Cm4 Ck5 Cm3 Cm8 Cl1 Cl6 Cn1 Cm5 Ck9 Cn2 Cm6 Cm9 Cm7 Cl2 Cm1 Cl0 Ck6 Cl5 Ck8 Cl7 Ck7 Cn0
set_option maxRecDepth 100000 in
theorem BS1 : Tryz.f3.isInstance Tryz.pinned.checked.prog Rows.typesWrongRow.origin Rows.typesWrongRow.targs := of_decide_eq_true (by kernel_rfl)
theorem BR1 : Tryz.f3.isWrapper Tryz.pinned.checked.prog Rows.typesWrongRow.wrapper Rows.typesWrongRow.mainSum := by
 unfold Func.isWrapper; first | (rw [if_pos (by decide +kernel)]; kernel_rfl) | (rw [if_neg (by decide +kernel)]; exact ⟨rfl, rfl⟩)
theorem BR6 : Rows.typesWrongRow.holds Tryz.pinned (OpenSpec.ofChange Rows.typesWrongSpec) :=
 OpenClaim.holds_of_wide 3 Tryz.f3 rfl rfl rfl rfl rfl rfl rfl ⟨rfl, rfl, rfl, rfl, rfl⟩ rfl rfl rfl rfl rfl BN0 Tryz.func3 Bx7 BS1 BR1
   (fun os started H enc _ => Bz5 os started H enc)
theorem wrong_holds : Rows.TypesWrongSaid := BR6
end Go.Proofs.YtojkpenjeglipaaGreat
