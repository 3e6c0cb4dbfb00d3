/- A right tree without one of its first statements is right, smaller, no deeper, and reads nothing new: the function answers true for any saying and any number, and leaves them as they are. No condition. -/
import Derived.Test.YtojkpenjeglipaaIYP7
import Derived.Test.YtojkpenjeglipaaIYD11
import Derived.Test.YtojkpenjeglipaaIYP12
import Derived.Test.YtojkpenjeglipaaIYD20
import Derived.Test.YtojkpenjeglipaaIYT
import Derived.Test.YtojkpenjeglipaaIAxRow
import Derived.Test.YtojkpenjeglipaaRows
import Derived.WalkKit
import Derived.OpenShut
set_option linter.unusedVariables false
set_option linter.unusedSimpArgs false
namespace Go.Ax
set_option maxRecDepth 100000 in
theorem AF5 (k : Nat) : N9 (k + 60) = some true := by rfl
theorem AG7 : Ev (fun n => N9 n) true := ⟨60, fun n hn => by
 obtain ⟨k, rfl⟩ : ∃ k, n = k + 60 := ⟨n - 60, by omega⟩
 exact AF5 k⟩
end Go.Ax
set_option linter.unusedVariables false
set_option linter.unusedSimpArgs false
namespace Go.Ax
theorem AR0 (x : LSay) : ∃ v, Ev (fun n => Md n x) v ∧ (v.2.2.2.2 = false ∨ Good v) := by
 obtain ⟨n, v, h, g⟩ := AR3 x
 exact ⟨v, Ev.mono (fun n n' hn => AM9 hn) h, g⟩
end Go.Ax
set_option linter.unusedVariables false
set_option linter.unusedSimpArgs false
namespace Go.Ax
theorem AD1 {α : Type} (N : α → Nat) (l : List α) (i : Nat) (hi : i < l.length) : sumN N l = sumN N (l.take i ++ l.drop (i + 1)) + N l[i] := by
 have h : l = l.take i ++ (l[i] :: l.drop (i + 1)) := by rw [← List.drop_eq_getElem_cons hi, List.take_append_drop]
 have e : sumN N l = sumN N (l.take i ++ (l[i] :: l.drop (i + 1))) := by rw [← h]
 rw [e, Qp, Qp]; simp only [sumN]; omega
theorem AP6 (x : TS) : 1 ≤ nS x := by rw [Ac0]; omega
theorem Al6 {p : TP} {body : List TS} (hr : GP p = true) (hsub : ∀ x, x ∈ body → x ∈ p.Body) (hn : sumN nS body ≤ sumN nS p.Body) : GP (⟨p.Name, p.From, p.At, p.Fuel, p.Params, body⟩ : TP) = true := by
 have hm : maxD dS body ≤ maxD dS p.Body := Jj fun x hx => M5 dS (hsub x hx)
 simp only [GP, Bool.and_eq_true, decide_eq_true_eq, List.all_eq_true] at hr ⊢
 refine ⟨?_, ⟨by omega, by omega⟩, fun x hx => hr.2.2 x (hsub x hx)⟩
 exact hr.1
theorem AH8 {x : ByteArray} {l : List ByteArray} (hl : He l) (hx : x ∈ l) : Nv x l = l :=
 rising_ext (Mu hl) hl fun s => by
   rw [Qt]
   constructor
   · rintro (rfl | h)
     · exact hx
     · exact h
   · exact .inr
theorem AD7 (x : LSay) (k : Int) : Ev (fun n => CI n x k) true := by
 obtain ⟨N0, h0⟩ := AG7
 obtain ⟨v, ⟨N1, h1⟩, hg⟩ := AR0 x
 have hj : ∀ n, N0 ≤ n → C3 k n v true = some true := fun n hn => by
   have h0 := h0 n hn
   simp only at h0
   rw [C3, cond_true, h0]; rfl
 rcases hg with hg | hg
 · refine ⟨N0 + N1, fun n hn => ?_⟩
   have h1 := h1 n (by omega)
   simp only at h1
   show CI n x k = _
   rw [CI, h1, Option.bind_some, hg]
   exact hj n (by omega)
 · obtain ⟨⟨hp, hb, hlim, hdeep⟩, hn', hd', hr, hok⟩ := hg
   obtain ⟨p, sn, sd, right, ok⟩ := v
   simp only at hp hb hlim hdeep hn' hd' hr hok
   subst hok hn' hd' hr
   cases hrb : GP p
   · rw [hrb] at h1 hj
     refine ⟨N0 + N1, fun n hn => ?_⟩
     have h1 := h1 n (by omega)
     simp only at h1
     show CI n x k = _
     rw [CI, h1, Option.bind_some]
     exact hj n (by omega)
   rw [hrb] at h1 hj
   by_cases hlen : p.Body.length = 0
   · refine ⟨N0 + N1, fun n hn => ?_⟩
     have h1 := h1 n (by omega)
     simp only at h1
     show CI n x k = _
     rw [CI, h1, Option.bind_some]
     have e : decide ((p.Body.length : Int) = 0) = true := by simp [hlen]
     simp only [Bool.not_true, cond_false, e]
     exact hj n (by omega)
   -- the place
   have hu : IntKind.wrap .u64 (p.Body.length : Int) = (p.Body.length : Int) := by
     simp [IntKind.wrap, IntKind.bits, IntKind.signed]; omega
   obtain ⟨i, hi, hik⟩ : ∃ i : Nat, i < p.Body.length ∧ Int.tmod (IntKind.wrap .u64 k) (p.Body.length : Int) = (i : Int) := by
     have hk := Aq2 k
     generalize IntKind.wrap .u64 k = q at hk ⊢
     have hm0 : 0 ≤ Int.tmod q (p.Body.length : Int) := Int.tmod_nonneg _ hk.1
     have hm1 : Int.tmod q (p.Body.length : Int) < (p.Body.length : Int) := Int.tmod_lt_of_pos _ (by omega)
     exact ⟨(Int.tmod q (p.Body.length : Int)).toNat, by omega, by omega⟩
   generalize hbody : p.Body.take i ++ p.Body.drop (i + 1) = body
   have hsub : ∀ a, a ∈ body → a ∈ p.Body := fun a ha => by
     rw [← hbody] at ha
     rcases List.mem_append.1 ha with h | h
     · exact List.mem_of_mem_take h
     · exact List.mem_of_mem_drop h
   have hsum : sumN nS p.Body = sumN nS body + nS p.Body[i] := by rw [← hbody]; exact AD1 nS p.Body i hi
   have hpos := AP6 p.Body[i]
   have hblen : body.length ≤ 12 := by
     rw [← hbody]; simp only [List.length_append, List.length_take, List.length_drop]; omega
   have hm : maxD dS body ≤ maxD dS p.Body := Jj fun x hx => M5 dS (hsub x hx)
   have hrq := Al6 (body := body) hrb hsub (by omega)
   have hsz : sumN nS p.Body ≤ 300 ∧ maxD dS p.Body ≤ 12 := by
     simp only [GP, Bool.and_eq_true, decide_eq_true_eq] at hrb; exact hrb.2.1
   obtain ⟨N2, h2⟩ := Ay2 (p := p) (by omega) hlim (by omega)
   obtain ⟨N3, h3⟩ := Ay2 (p := ⟨p.Name, p.From, p.At, p.Fuel, p.Params, body⟩) (by simp only; omega) (fun a ha => hlim a (hsub a ha)) (by simp only; omega)
   obtain ⟨N4, h4⟩ := Al2 (p := p) hp (by omega) hlim (by omega)
   obtain ⟨N5, h5⟩ := Al2 (p := ⟨p.Name, p.From, p.At, p.Fuel, p.Params, body⟩) hp (by simp only; omega) (fun a ha => hlim a (hsub a ha)) (by simp only; omega)
   obtain ⟨N6, h6⟩ := Ar9 (p := ⟨p.Name, p.From, p.At, p.Fuel, p.Params, body⟩) hp (by simp only; omega) (fun a ha => hlim a (hsub a ha)) (by simp only; omega)
   have hw : ∀ {p : TP}, (∀ x, x ∈ p.Body → LimS x) → (HG p 0).length ≤ 300 := fun {p} hlim => by
     have h1 := XM (if GP p = true then uP p 0 else []) []
     have h2 := Wx hlim 0
     rw [Aq3] at h1
     simp only [List.length_nil] at h1
     unfold HG; omega
   have hwp := hw hlim
   have hwq := hw (p := ⟨p.Name, p.From, p.At, p.Fuel, p.Params, body⟩) (fun a ha => hlim a (hsub a ha))
   obtain ⟨N7, h7⟩ := AL2 (HG p 0) (HG p 0) (by omega)
   have hin : ∀ s, s ∈ HG (⟨p.Name, p.From, p.At, p.Fuel, p.Params, body⟩ : TP) 0 → s ∈ HG p 0 := fun s hs => by
     unfold HG at hs ⊢
     rw [Rk] at hs ⊢
     rw [if_pos hrq] at hs
     rw [if_pos hrb]
     unfold uP at hs ⊢
     rw [List.mem_flatMap] at hs ⊢
     obtain ⟨a, ha, hs⟩ := hs
     exact ⟨a, hsub a ha, hs⟩
   refine ⟨N0 + N1 + N2 + N3 + N4 + N5 + N6 + N7 + 1002, fun n hn => ?_⟩
   have h0 := h0 n (by omega)
   have h1 := h1 n (by omega)
   have h2 := h2 n (by omega)
   have h3 := h3 n (by omega)
   have h4 := h4 n (by omega)
   have h5 := h5 n (by omega)
   have h6 := h6 n (by omega)
   have h7 := h7 n (by omega)
   simp only at h0 h1 h2 h3 h4 h5 h6 h7
   show CI n x k = _
   rw [CI, h1, Option.bind_some]
   have e : decide ((p.Body.length : Int) = 0) = false := decide_eq_false (by omega)
   simp only [Bool.not_true, cond_false, e, C3]
   have w1 : IntKind.wrap .i64 (i : Int) = (i : Int) := DZ (by omega) (by omega)
   have w2 : IntKind.wrap .i64 ((i : Int) + 1) = ((i + 1 : Nat) : Int) := Bj (by omega)
   have hne : decide ((p.Body.length : Int) ≠ 0) = true := decide_eq_true (by omega)
   have s1 : UJ p.Body 0 (i : Int) = some (p.Body.take i) := by
     unfold UJ; rw [if_pos (by omega)]; simp
   have s2 : UJ p.Body ((i + 1 : Nat) : Int) (p.Body.length : Int) = some (p.Body.drop (i + 1)) := by
     unfold UJ; rw [if_pos (by omega)]; simp
   have t1 : (p.Body.take i).length ≤ 12 := by rw [List.length_take]; omega
   have t2 : (p.Body.drop (i + 1)).length ≤ 12 := by rw [List.length_drop]; omega
   have a1 : Gq 144 ([] : List TS) (p.Body.take i) = some (p.Body.take i) := (FU (by simp only [List.length_nil]; omega) (by omega)).trans rfl
   have a2 : Gq 144 (p.Body.take i) (p.Body.drop (i + 1)) = some body := (FU (by omega) (by omega)).trans (by rw [hbody])
   simp only [hu, hik, w1, w2, hne, VX, if_true, Option.bind_some, s1, a1, s2, a2, h2, h3, h5, h4]
   generalize hrq' : HG (⟨p.Name, p.From, p.At, p.Fuel, p.Params, body⟩ : TP) 0 = wq at hin hwq ⊢
   have hj1 : Fo n (p, (B2 (sumN nS p.Body) (maxD dS p.Body)).1, (B2 (sumN nS p.Body) (maxD dS p.Body)).2, true, true) body (B2 (sumN nS p.Body) (maxD dS p.Body)) (B2 (sumN nS body) (maxD dS body)) = some true := by
     have q1 : B2 (sumN nS p.Body) (maxD dS p.Body) = (((sumN nS p.Body : Nat) : Int), ((maxD dS p.Body : Nat) : Int)) := by unfold B2; rw [if_neg (by omega)]
     have q2 : B2 (sumN nS body) (maxD dS body) = (((sumN nS body : Nat) : Int), ((maxD dS body : Nat) : Int)) := by unfold B2; rw [if_neg (by omega)]
     have c1 : decide (((sumN nS body : Nat) : Int) < ((sumN nS p.Body : Nat) : Int)) = true := decide_eq_true (by omega)
     have c2 : decide (((maxD dS body : Nat) : Int) ≤ ((maxD dS p.Body : Nat) : Int)) = true := decide_eq_true (by omega)
     simp only [Fo, h6, hrq, Option.bind_some, cond_true, Fq, q1, q2, c1, c2, h0]
   have := loop_inv0 (F := fun m (_ : Unit) v => CG n (p, (B2 (sumN nS p.Body) (maxD dS p.Body)).1, (B2 (sumN nS p.Body) (maxD dS p.Body)).2, true, true) body (B2 (sumN nS p.Body) (maxD dS p.Body)) (B2 (sumN nS body) (maxD dS body)) wq (HG p 0) m v) (Inv := fun i _ => i ≤ wq.length)
     (P := fun v => v = some true) 300 (fun m i u hil hi300 => by
       show CG n _ body _ _ wq (HG p 0) (m + 1) (i : Int) = _ ∨ (_ ∧ ∃ s', _ ∧ CG n _ body _ _ wq (HG p 0) (m + 1) (i : Int) = _)
       rw [CG, HZ]
       by_cases hik : (i : Int) < (wq.length : Int)
       · right
         have hil2 : i < wq.length := by omega
         refine ⟨by omega, (), by omega, ?_⟩
         simp only [hik, decide_true, cond_true, Bn, List.getElem?_eq_getElem hil2, Option.bind_some]
         have hmem := hin _ (List.getElem_mem hil2)
         rw [AQ5 (by omega) (by omega), AH8 (l := HG p 0) (K3 _) hmem, Option.bind_some, h7]
         simp only [Option.bind_some, decide_true, Bool.not_true, cond_false]
         rw [Bj (by omega)]
       · left
         simp only [hik, decide_false, cond_false]
         exact hj1) (m := n) (by omega) (s := ()) (by omega)
   exact this
end Go.Ax
set_option linter.unusedVariables false
namespace Go.Proofs.Ytojkpenjeglipaa
open Go.Ax
theorem Ha {n : Nat} {t : TypeId} {d : List D} (hu : Try.prog.underlying t = some .string) (h : Ds Try.prog n t d) : ∃ s : ByteArray, d = rS s := by
 cases n with
 | zero => exact h.elim
 | succ n =>
   unfold Ds at h
   rw [hu] at h
   obtain ⟨s, h, _⟩ := h
   exact ⟨s, h⟩
theorem IM {n : Nat} {t : TypeId} {k : IntKind} {d : List D} (hu : Try.prog.underlying t = some (.int k)) (h : Ds Try.prog n t d) : ∃ i : Int, d = rI k i := by
 cases n with
 | zero => exact h.elim
 | succ n =>
   unfold Ds at h
   rw [hu] at h
   obtain ⟨s, h, _⟩ := h
   exact ⟨s, h⟩
theorem Ax9 {α : Type} {f : α → List D} : ∀ {rows : List (List D)}, (∀ r, r ∈ rows → ∃ a, r = f a) → ∃ l : List α, rows = l.map f
 | [], _ => ⟨[], rfl⟩
 | r :: rs, h => by
   obtain ⟨a, ha⟩ := h r (by simp)
   obtain ⟨l, hl⟩ := Ax9 (rows := rs) fun x hx => h x (by simp [hx])
   exact ⟨a :: l, by rw [ha, hl]; rfl⟩
theorem JY {α : Type} {f : α → List D} {n : Nat} {t e : TypeId} {d : List D} (hu : Try.prog.underlying t = some (.slice e)) (he : ∀ n r, Ds Try.prog n e r → ∃ a, r = f a) (h : Ds Try.prog n t d) : ∃ l : List α, d = [.sl (l.map f)] := by
 cases n with
 | zero => exact h.elim
 | succ n =>
   unfold Ds at h
   rw [hu] at h
   obtain ⟨rows, rfl, _, h⟩ := h
   obtain ⟨l, rfl⟩ := Ax9 fun r hr => he n r (h r hr)
   exact ⟨l, rfl⟩
set_option maxRecDepth 100000 in
theorem Ak1 (n : Nat) (d : List D) (h : Ds Try.prog n 84 d) : ∃ a : T_api_Column, d = a.row := by
 cases n with
 | zero => exact h.elim
 | succ n =>
   unfold Ds at h
   rw [Try.underlying84] at h
   obtain ⟨_, _, rfl, h1, _, _, rfl, h2, h⟩ := h
   obtain ⟨a, rfl⟩ := Ha Try.underlying9 h1
   obtain ⟨b, rfl⟩ := IM Try.underlying3 h2
   cases h
   exact ⟨⟨a, b⟩, rfl⟩
theorem L9 (n : Nat) (d : List D) (h : Ds Try.prog n 29 d) : ∃ l : List Int, d = [.sl (l.map (rI .i64))] :=
 JY Try.underlying29 (fun n r h => IM Try.underlying3 h) h
theorem Aw9 (n : Nat) (d : List D) (h : Ds Try.prog n 40 d) : ∃ l : List ByteArray, d = [.sl (l.map rS)] :=
 JY Try.underlying40 (fun n r h => Ha Try.underlying9 h) h
set_option maxRecDepth 100000 in
theorem At8 (n : Nat) (d : List D) (h : Ds Try.prog n 79 d) : ∃ a : TLeaf, d = a.row := by
 cases n with
 | zero => exact h.elim
 | succ n =>
   unfold Ds at h
   rw [Try.underlying79] at h
   obtain ⟨_, _, rfl, h1, _, _, rfl, h2, _, _, rfl, h3, _, _, rfl, h4, _, _, rfl, h5, _, _, rfl, h6, h⟩ := h
   obtain ⟨a1, rfl⟩ := IM Try.underlying3 h1
   obtain ⟨a2, rfl⟩ := IM Try.underlying2 h2
   obtain ⟨a3, rfl⟩ := Ha Try.underlying9 h3
   obtain ⟨a4, rfl⟩ := Ha Try.underlying9 h4
   obtain ⟨a5, rfl⟩ := Ha Try.underlying9 h5
   obtain ⟨a6, rfl⟩ := L9 _ _ h6
   cases h
   exact ⟨⟨a1, a2, a3, a4, a5, a6⟩, rfl⟩
set_option maxRecDepth 100000 in
theorem Av9 (n : Nat) (d : List D) (h : Ds Try.prog n 81 d) : ∃ a : TKnot, d = a.row := by
 cases n with
 | zero => exact h.elim
 | succ n =>
   unfold Ds at h
   rw [Try.underlying81] at h
   obtain ⟨_, _, rfl, h1, _, _, rfl, h2, _, _, rfl, h3, _, _, rfl, h4, _, _, rfl, h5, _, _, rfl, h6, _, _, rfl, h7, _, _, rfl, h8, h⟩ := h
   obtain ⟨a1, rfl⟩ := IM Try.underlying3 h1
   obtain ⟨a2, rfl⟩ := Ha Try.underlying9 h2
   obtain ⟨a3, rfl⟩ := Ha Try.underlying9 h3
   obtain ⟨a4, rfl⟩ := IM Try.underlying3 h4
   obtain ⟨a5, rfl⟩ := Aw9 _ _ h5
   obtain ⟨a6, rfl⟩ := L9 _ _ h6
   obtain ⟨a7, rfl⟩ := L9 _ _ h7
   obtain ⟨a8, rfl⟩ := L9 _ _ h8
   cases h
   exact ⟨⟨a1, a2, a3, a4, a5, a6, a7, a8⟩, rfl⟩
set_option maxRecDepth 100000 in
theorem AD4 (n : Nat) (d : List D) (h : Ds Try.prog n 31 d) : ∃ a : LSay, d = a.row := by
 cases n with
 | zero => exact h.elim
 | succ n =>
   unfold Ds at h
   rw [Try.underlying31] at h
   obtain ⟨_, _, rfl, h1, _, _, rfl, h2, _, _, rfl, h3, _, _, rfl, h4, _, _, rfl, h5, _, _, rfl, h6, _, _, rfl, h7, _, _, rfl, h8, h⟩ := h
   obtain ⟨a1, rfl⟩ := Ha Try.underlying9 h1
   obtain ⟨a2, rfl⟩ := Ha Try.underlying9 h2
   obtain ⟨a3, rfl⟩ := Ha Try.underlying9 h3
   obtain ⟨a4, rfl⟩ := IM Try.underlying3 h4
   obtain ⟨a5, rfl⟩ := JY (f := T_api_Column.row) Try.underlying26 Ak1 h5
   obtain ⟨a6, rfl⟩ := JY (f := TLeaf.row) Try.underlying27 At8 h6
   obtain ⟨a7, rfl⟩ := JY (f := TKnot.row) Try.underlying28 Av9 h7
   obtain ⟨a8, rfl⟩ := L9 _ _ h8
   cases h
   exact ⟨⟨a1, a2, a3, a4, a5, a6, a7, a8⟩, rfl⟩
end Go.Proofs.Ytojkpenjeglipaa
set_option linter.unusedVariables false
namespace Go.Proofs.Ytojkpenjeglipaa
open Go.Ax
theorem AA7 : ownKnob Try.prog.godebug = none := by kernel_rfl
set_option maxRecDepth 100000 in
theorem At1 (dss : List (List D)) (h : SS Try.prog 8 Try.f4.params.toList dss) : Aw Try.prog 4 (Vu Try.prog Try.f4.params.toList dss) [] (fun p st' => p = .d (.bool true)) := by
 rw [Try.params4] at h ⊢
 obtain ⟨d1, r1, rfl, t1, d2, r2, rfl, t2, rfl⟩ := h
 obtain ⟨x, rfl⟩ := AD4 _ _ t1
 obtain ⟨k, rfl⟩ := IM Try.underlying3 t2
 obtain ⟨n, hn⟩ := (AD7 x k).at
 have := Xi (st := []) n x k hn (K := fun p st' => p = .d (.bool true)) rfl
 have e : Vu Try.prog [31, 3] [x.row, rI .i64 k] = [.agg (x.row.map .d), .d (.int .i64 k)] := by
   simp only [Vu, Ab8, Try.underlying31, Try.underlying3, rI]
 exact e ▸ this
set_option maxRecDepth 100000 in
theorem Ag4 (os : Os) (started : os.Started) (H : Type) (enc : TypeId × Value → H) :
   ReturnsInHanded {} Try.checked os 4 .any (Rows.syntaxWithinSpec.pre6 enc Try.prog Try.f4 Rows.syntaxWithinRow.domain false) (Rows.syntaxWithinSpec.post enc Try.prog Try.f4 false true false false) :=
 law_lift (C := Try.checked) (tb := 4) (n := 7) AA7 started (by kernel_rfl) Try.func4
   (ChangeSpec.witness6 (enc := enc) (C := Try.checked) false ⟨#[], #[.agg #[.string ⟨#[]⟩, .string ⟨#[]⟩, .string ⟨#[]⟩, .int .i64 0, .slice none 0 0, .slice none 0 0, .slice none 0 0, .slice none 0 0], .int .i64 0], []⟩ 8 (by kernel_rfl) (by kernel_rfl) (by kernel_rfl) (by kernel_rfl))
   rfl (fun ds h => by
     match ds, h with
     | [a, b], _ => rfl) rfl Try.underlying4 (List.all_eq_true.1 (show Try.f4.params.toList.all (CQ Try.prog 8) = true by kernel_rfl))
   (fun dss h => At1 dss h)
theorem Au7 : Rows.syntaxWithinRow.holds Try.pinned (OpenSpec.ofChange Rows.syntaxWithinSpec) :=
 OpenClaim.holds_of_wide 4 Try.f4 rfl rfl rfl rfl rfl rfl rfl ⟨rfl, rfl, rfl, rfl, rfl⟩ rfl rfl rfl rfl rfl (by kernel_rfl) Try.func4 (by kernel_rfl)
   (of_decide_eq_true (by kernel_rfl)) (by unfold Func.isWrapper; first | (rw [if_pos (by decide +kernel)]; kernel_rfl) | (rw [if_neg (by decide +kernel)]; exact ⟨rfl, rfl⟩))
   (fun os started H enc _ => Ag4 os started H enc)
theorem within_holds : Rows.SyntaxWithinSaid := Au7
end Go.Proofs.Ytojkpenjeglipaa
