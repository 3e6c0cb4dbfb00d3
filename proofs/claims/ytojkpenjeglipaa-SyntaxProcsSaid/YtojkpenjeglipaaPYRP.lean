/- What a tree of a procedure reads, writes and emits, how great it is, whether it is right: the function answers true for any saying, and leaves it as it is. No condition. -/
import Derived.Test.YtojkpenjeglipaaPYP7
import Derived.Test.YtojkpenjeglipaaPYD11
import Derived.Test.YtojkpenjeglipaaPYP12
import Derived.Test.YtojkpenjeglipaaPYD20
import Derived.Test.YtojkpenjeglipaaPYT
import Derived.Test.YtojkpenjeglipaaPAxRow
import Derived.Test.YtojkpenjeglipaaRows
import Derived.WalkKit
import Derived.OpenShut
set_option linter.unusedVariables false
set_option linter.unusedSimpArgs false
namespace Go.Ax
set_option maxRecDepth 100000 in
theorem AQ4 (k : Nat) : LN (k + 60) = some true := by rfl
theorem AN6 : Ev (fun n => LN n) true := ⟨60, fun n hn => by
 obtain ⟨k, rfl⟩ : ∃ k, n = k + 60 := ⟨n - 60, by omega⟩
 exact AQ4 k⟩
end Go.Ax
set_option linter.unusedVariables false
set_option linter.unusedSimpArgs false
namespace Go.Ax
theorem AY6 (x : LSay) : ∃ v, Ev (fun n => Ly n x) v ∧ (v.2.2.2.2 = false ∨ Good v) := by
 obtain ⟨n, v, h, g⟩ := AZ2 x
 exact ⟨v, Ev.mono (fun n n' hn => AT9 hn) h, g⟩
theorem AR2 (x : LSay) : Ev (fun n => DD n x) true := by
 obtain ⟨N0, h0⟩ := AN6
 obtain ⟨v, ⟨N1, h1⟩, hg⟩ := AY6 x
 rcases hg with hg | hg
 · refine ⟨N0 + N1, fun n hn => ?_⟩
   have h0 := h0 n (by omega)
   have h1 := h1 n (by omega)
   simp only at h0 h1
   show DD n x = _
   rw [DD, h1, Option.bind_some, hg, h0]; rfl
 · obtain ⟨⟨hp, hb, hlim, hdeep⟩, hn', hd', hr, hok⟩ := hg
   obtain ⟨p, sn, sd, right, ok⟩ := v
   simp only at hp hb hlim hdeep hn' hd' hr hok
   subst hok hn' hd'
   obtain ⟨N2, h2⟩ := AU4 (p := p) (by omega) hlim (by omega)
   obtain ⟨N3, h3⟩ := As7 (p := p) hp (by omega) hlim (by omega)
   obtain ⟨N4, h4⟩ := AR1 (p := p) hp (by omega) hlim (by omega)
   obtain ⟨N5, h5⟩ := AK3 (p := p) hp (by omega) hlim (by omega)
   obtain ⟨N6, h6⟩ := AM4 (p := p) hp (by omega) hlim (by omega)
   have hw : ∀ w, (Hb p w).length ≤ 300 := fun w => by
     have h1 := Lw (if Ho p = true then uP p w else []) []
     have h2 := MV hlim w
     rw [W1] at h1
     simp only [List.length_nil] at h1
     unfold Hb; omega
   obtain ⟨N7, h7⟩ := Aq8 (Hb p 0) (Hb p 0) (by have := hw 0; omega)
   obtain ⟨N8, h8⟩ := Aq8 (Hb p 1) (Hb p 1) (by have := hw 1; omega)
   obtain ⟨N9, h9⟩ := Aq8 (Hb p 2) (Hb p 2) (by have := hw 2; omega)
   cases hrb : Ho p
   · have e : ∀ w, Hb p w = [] := fun w => by rw [Hb, hrb]; rfl
     refine ⟨N0 + N1 + N2 + N3 + N4 + N5 + N6 + N7 + N8 + N9, fun n hn => ?_⟩
     have h0 := h0 n (by omega)
     have h1 := h1 n (by omega)
     have h2 := h2 n (by omega)
     have h3 := h3 n (by omega)
     have h4 := h4 n (by omega)
     have h5 := h5 n (by omega)
     have h6 := h6 n (by omega)
     have h7 := h7 n (by omega)
     simp only [e] at h0 h1 h2 h3 h4 h5 h6 h7
     show DD n x = _
     rw [DD, h1, Option.bind_some]
     simp only [hr, hrb, Bool.not_true, cond_false, h2, Option.bind_some, decide_true, cond_true, FV, FY, F1, F9, h3, h4, h5, h6, h7, h0, beq_self_eq_true]
   · obtain ⟨Ma, ha⟩ := SW (p := p) 0 (by omega) (by omega) hlim hrb
     obtain ⟨Mb, hb'⟩ := SW (p := p) 1 (by omega) (by omega) hlim hrb
     obtain ⟨Mc, hc⟩ := SW (p := p) 2 (by omega) (by omega) hlim hrb
     refine ⟨N0 + N1 + N2 + N3 + N4 + N5 + N6 + N7 + N8 + N9 + Ma + Mb + Mc, fun n hn => ?_⟩
     have h0 := h0 n (by omega)
     have h1 := h1 n (by omega)
     have h2 := h2 n (by omega)
     have h3 := h3 n (by omega)
     have h4 := h4 n (by omega)
     have h5 := h5 n (by omega)
     have h6 := h6 n (by omega)
     have h7 := h7 n (by omega)
     have h8 := h8 n (by omega)
     have h9 := h9 n (by omega)
     have ha := ha n (by omega)
     have hb' := hb' n (by omega)
     have hc := hc n (by omega)
     simp only at h0 h1 h2 h3 h4 h5 h6 h7 h8 h9 ha hb' hc
     show DD n x = _
     rw [DD, h1, Option.bind_some]
     simp only [hr, hrb, Bool.not_true, cond_false, h2, Option.bind_some, decide_true, cond_true, ha, hb', hc, F3, FW, Gc, FS, h3, h4, h5, h6, h7, h8, h9, h0, beq_self_eq_true]
end Go.Ax
set_option linter.unusedVariables false
namespace Go.Proofs.Ytojkpenjeglipaa
open Go.Ax
theorem Hm {n : Nat} {t : TypeId} {d : List D} (hu : Try.prog.underlying t = some .string) (h : Dv Try.prog n t d) : ∃ s : ByteArray, d = rS s := by
 cases n with
 | zero => exact h.elim
 | succ n =>
   unfold Dv at h
   rw [hu] at h
   obtain ⟨s, h, _⟩ := h
   exact ⟨s, h⟩
theorem Ka {n : Nat} {t : TypeId} {k : IntKind} {d : List D} (hu : Try.prog.underlying t = some (.int k)) (h : Dv Try.prog n t d) : ∃ i : Int, d = rI k i := by
 cases n with
 | zero => exact h.elim
 | succ n =>
   unfold Dv at h
   rw [hu] at h
   obtain ⟨s, h, _⟩ := h
   exact ⟨s, h⟩
theorem AE6 {α : Type} {f : α → List D} : ∀ {rows : List (List D)}, (∀ r, r ∈ rows → ∃ a, r = f a) → ∃ l : List α, rows = l.map f
 | [], _ => ⟨[], rfl⟩
 | r :: rs, h => by
   obtain ⟨a, ha⟩ := h r (by simp)
   obtain ⟨l, hl⟩ := AE6 (rows := rs) fun x hx => h x (by simp [hx])
   exact ⟨a :: l, by rw [ha, hl]; rfl⟩
theorem KN {α : Type} {f : α → List D} {n : Nat} {t e : TypeId} {d : List D} (hu : Try.prog.underlying t = some (.slice e)) (he : ∀ n r, Dv Try.prog n e r → ∃ a, r = f a) (h : Dv Try.prog n t d) : ∃ l : List α, d = [.sl (l.map f)] := by
 cases n with
 | zero => exact h.elim
 | succ n =>
   unfold Dv at h
   rw [hu] at h
   obtain ⟨rows, rfl, _, h⟩ := h
   obtain ⟨l, rfl⟩ := AE6 fun r hr => he n r (h r hr)
   exact ⟨l, rfl⟩
set_option maxRecDepth 100000 in
theorem Ao6 (n : Nat) (d : List D) (h : Dv Try.prog n 84 d) : ∃ a : T_api_Column, d = a.row := by
 cases n with
 | zero => exact h.elim
 | succ n =>
   unfold Dv at h
   rw [Try.underlying84] at h
   obtain ⟨_, _, rfl, h1, _, _, rfl, h2, h⟩ := h
   obtain ⟨a, rfl⟩ := Hm Try.underlying9 h1
   obtain ⟨b, rfl⟩ := Ka Try.underlying3 h2
   cases h
   exact ⟨⟨a, b⟩, rfl⟩
theorem L6 (n : Nat) (d : List D) (h : Dv Try.prog n 29 d) : ∃ l : List Int, d = [.sl (l.map (rI .i64))] :=
 KN Try.underlying29 (fun n r h => Ka Try.underlying3 h) h
theorem AC8 (n : Nat) (d : List D) (h : Dv Try.prog n 40 d) : ∃ l : List ByteArray, d = [.sl (l.map rS)] :=
 KN Try.underlying40 (fun n r h => Hm Try.underlying9 h) h
set_option maxRecDepth 100000 in
theorem AC0 (n : Nat) (d : List D) (h : Dv Try.prog n 79 d) : ∃ a : TLeaf, d = a.row := by
 cases n with
 | zero => exact h.elim
 | succ n =>
   unfold Dv at h
   rw [Try.underlying79] at h
   obtain ⟨_, _, rfl, h1, _, _, rfl, h2, _, _, rfl, h3, _, _, rfl, h4, _, _, rfl, h5, _, _, rfl, h6, h⟩ := h
   obtain ⟨a1, rfl⟩ := Ka Try.underlying3 h1
   obtain ⟨a2, rfl⟩ := Ka Try.underlying2 h2
   obtain ⟨a3, rfl⟩ := Hm Try.underlying9 h3
   obtain ⟨a4, rfl⟩ := Hm Try.underlying9 h4
   obtain ⟨a5, rfl⟩ := Hm Try.underlying9 h5
   obtain ⟨a6, rfl⟩ := L6 _ _ h6
   cases h
   exact ⟨⟨a1, a2, a3, a4, a5, a6⟩, rfl⟩
set_option maxRecDepth 100000 in
theorem AD7 (n : Nat) (d : List D) (h : Dv Try.prog n 81 d) : ∃ a : TKnot, d = a.row := by
 cases n with
 | zero => exact h.elim
 | succ n =>
   unfold Dv at h
   rw [Try.underlying81] at h
   obtain ⟨_, _, rfl, h1, _, _, rfl, h2, _, _, rfl, h3, _, _, rfl, h4, _, _, rfl, h5, _, _, rfl, h6, _, _, rfl, h7, _, _, rfl, h8, h⟩ := h
   obtain ⟨a1, rfl⟩ := Ka Try.underlying3 h1
   obtain ⟨a2, rfl⟩ := Hm Try.underlying9 h2
   obtain ⟨a3, rfl⟩ := Hm Try.underlying9 h3
   obtain ⟨a4, rfl⟩ := Ka Try.underlying3 h4
   obtain ⟨a5, rfl⟩ := AC8 _ _ h5
   obtain ⟨a6, rfl⟩ := L6 _ _ h6
   obtain ⟨a7, rfl⟩ := L6 _ _ h7
   obtain ⟨a8, rfl⟩ := L6 _ _ h8
   cases h
   exact ⟨⟨a1, a2, a3, a4, a5, a6, a7, a8⟩, rfl⟩
set_option maxRecDepth 100000 in
theorem AI7 (n : Nat) (d : List D) (h : Dv Try.prog n 31 d) : ∃ a : LSay, d = a.row := by
 cases n with
 | zero => exact h.elim
 | succ n =>
   unfold Dv at h
   rw [Try.underlying31] at h
   obtain ⟨_, _, rfl, h1, _, _, rfl, h2, _, _, rfl, h3, _, _, rfl, h4, _, _, rfl, h5, _, _, rfl, h6, _, _, rfl, h7, _, _, rfl, h8, h⟩ := h
   obtain ⟨a1, rfl⟩ := Hm Try.underlying9 h1
   obtain ⟨a2, rfl⟩ := Hm Try.underlying9 h2
   obtain ⟨a3, rfl⟩ := Hm Try.underlying9 h3
   obtain ⟨a4, rfl⟩ := Ka Try.underlying3 h4
   obtain ⟨a5, rfl⟩ := KN (f := T_api_Column.row) Try.underlying26 Ao6 h5
   obtain ⟨a6, rfl⟩ := KN (f := TLeaf.row) Try.underlying27 AC0 h6
   obtain ⟨a7, rfl⟩ := KN (f := TKnot.row) Try.underlying28 AD7 h7
   obtain ⟨a8, rfl⟩ := L6 _ _ h8
   cases h
   exact ⟨⟨a1, a2, a3, a4, a5, a6, a7, a8⟩, rfl⟩
end Go.Proofs.Ytojkpenjeglipaa
set_option linter.unusedVariables false
namespace Go.Proofs.Ytojkpenjeglipaa
open Go.Ax
theorem AP3 : ownKnob Try.prog.godebug = none := by kernel_rfl
set_option maxRecDepth 100000 in
theorem AI4 (dss : List (List D)) (h : T5 Try.prog 8 Try.f5.params.toList dss) : Av Try.prog 5 (Wp Try.prog Try.f5.params.toList dss) [] (fun p st' => p = .d (.bool true)) := by
 rw [Try.params5] at h ⊢
 obtain ⟨d1, r1, rfl, t1, rfl⟩ := h
 obtain ⟨x, rfl⟩ := AI7 _ _ t1
 obtain ⟨n, hn⟩ := (AR2 x).at
 have := Ab6 (st := []) n x hn (K := fun p st' => p = .d (.bool true)) rfl
 have e : Wp Try.prog [31] [x.row] = [.agg (x.row.map .d)] := by
   simp only [Wp, Am4, Try.underlying31]
 exact e ▸ this
set_option maxRecDepth 100000 in
theorem Ax6 (os : Os) (started : os.Started) (H : Type) (enc : TypeId × Value → H) :
   ReturnsInHanded {} Try.checked os 5 .any (Rows.syntaxProcsSpec.pre6 enc Try.prog Try.f5 Rows.syntaxProcsRow.domain false) (Rows.syntaxProcsSpec.post enc Try.prog Try.f5 false true false false) :=
 law_lift (C := Try.checked) (tb := 4) (n := 7) AP3 started (by kernel_rfl) Try.func5
   (ChangeSpec.witness6 (enc := enc) (C := Try.checked) false ⟨#[], #[.agg #[.string ⟨#[]⟩, .string ⟨#[]⟩, .string ⟨#[]⟩, .int .i64 0, .slice none 0 0, .slice none 0 0, .slice none 0 0, .slice none 0 0]], []⟩ 8 (by kernel_rfl) (by kernel_rfl) (by kernel_rfl) (by kernel_rfl))
   rfl (fun ds h => by
     match ds, h with
     | [a], _ => rfl) rfl Try.underlying4 (List.all_eq_true.1 (show Try.f5.params.toList.all (CP Try.prog 8) = true by kernel_rfl))
   (fun dss h => AI4 dss h)
theorem AJ6 : Rows.syntaxProcsRow.holds Try.pinned (OpenSpec.ofChange Rows.syntaxProcsSpec) :=
 OpenClaim.holds_of_wide 5 Try.f5 rfl rfl rfl rfl rfl rfl rfl ⟨rfl, rfl, rfl, rfl, rfl⟩ rfl rfl rfl rfl rfl (by kernel_rfl) Try.func5 (by kernel_rfl)
   (of_decide_eq_true (by kernel_rfl)) (by unfold Func.isWrapper; first | (rw [if_pos (by decide +kernel)]; kernel_rfl) | (rw [if_neg (by decide +kernel)]; exact ⟨rfl, rfl⟩))
   (fun os started H enc _ => Ax6 os started H enc)
theorem procs_holds : Rows.SyntaxProcsSaid := AJ6
end Go.Proofs.Ytojkpenjeglipaa
