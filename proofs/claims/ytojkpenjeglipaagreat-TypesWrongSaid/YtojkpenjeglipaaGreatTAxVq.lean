import Derived.Test.YtojkpenjeglipaaGreatTAxVn
set_option linter.unusedVariables false
namespace Go.Ax
open Go.RowKit
section
variable {P : Program} {s : XS}
theorem BJ5 {o : XOp} (h : CZ o = 0) : ER o s = [] := by cases o <;> first | rfl | (simp [CZ] at h)
theorem AN6 {o : XOp} {idx : Nat} {K K' : PV → List (Nat × Content) → List Nat → Prop} (hk : Gp P o idx K s) (himp : ∀ v U R, (U = [] ∨ CZ o = 2) → (R = [] ∨ CZ o ≠ 0) → K v U R → K' v U R) : Gp P o idx K' s := by
 by_cases hp : Dp o = true
 · have hk' : xop P o (fun v _ => K v [] (ER o s)) s := by cases o <;> first | exact hk | simp [Dp] at hp
   obtain ⟨v, h1, h2⟩ := Cc6 hp hk'
   have h3 : xop P o (fun v _ => K' v [] (ER o s)) s := h2 (fun v => K' v [] (ER o s)) (himp _ _ _ (.inl rfl) (by
     by_cases h0 : CZ o = 0
     · exact .inl (BJ5 h0)
     · exact .inr h0) h1)
   cases o <;> first | exact h3 | simp [Dp] at hp
 · cases o with
   | box x => exact ⟨hk.1, hk.2.1, himp _ _ _ (.inr rfl) (.inr (by simp [CZ])) hk.2.2⟩
   | alloc z => exact ⟨hk.1, himp _ _ _ (.inr rfl) (.inr (by simp [CZ])) hk.2⟩
   | store size x y =>
     simp only [Gp] at hk ⊢
     split at hk
     · split at hk
       · exact ⟨hk.1, hk.2.1, hk.2.2.1, himp _ _ _ (.inr rfl) (.inr (by simp [CZ])) hk.2.2.2⟩
       · exact hk.elim
     · exact hk.elim
   | append e size bytes x y =>
     simp only [Gp] at hk ⊢
     split at hk
     · rename_i ys hys
       try simp only [hys]
       obtain ⟨h1, hk⟩ := hk
       refine ⟨h1, ?_⟩
       split at hk
       · exact ⟨hk.1, hk.2.1, hk.2.2.1, himp _ _ _ (.inr rfl) (.inr (by simp [CZ])) hk.2.2.2⟩
       · split at hk
         · exact ⟨hk.1, hk.2.1, hk.2.2.1, himp _ _ _ (.inr rfl) (.inr (by simp [CZ])) hk.2.2.2⟩
         · exact hk.elim
       · exact hk.elim
     · exact hk.elim
   | call f args =>
     obtain ⟨v, U, R, h1, h2⟩ := hk
     exact ⟨v, U, R, h1, himp _ _ _ (.inr rfl) (.inr (by simp [CZ])) h2⟩
   | dyn x args =>
     simp only [Gp] at hk ⊢
     split at hk
     · obtain ⟨v, U, R, h1, h2⟩ := hk
       exact ⟨v, U, R, h1, himp _ _ _ (.inr rfl) (.inr (by simp [CZ])) h2⟩
     · exact hk.elim
   | mapSet k e m x y =>
     simp only [Gp] at hk ⊢
     split at hk
     · split at hk
       · exact ⟨hk.1, hk.2.1, hk.2.2.1, hk.2.2.2.1, himp _ _ _ (.inr rfl) (.inr (by simp [CZ])) hk.2.2.2.2⟩
       · exact hk.elim
     · exact hk.elim
   | mkMap => exact hk.elim
   | eqNil => exact hk.elim
   | _ => simp [Dp] at hp
def Cf1 (all : List XI) (acc : List (List Nat × List Nat)) : Prop := ∀ i p, acc[i]? = some p → (p.1 = [] ∨ AP2 all i = 2) ∧ (p.2 = [] ∨ AP2 all i ≠ 0)
theorem Bh4 {ak : List Nat} {ns R : List Nat} : ∀ (acc : List (List Nat × List Nat)) (i0 : Nat), (∀ i p, acc[i]? = some p → ak.contains (i0 + i) = true ∨ (FY p.1 R ∧ FY ns p.2)) → okPairs ak ns R i0 acc
 | [], i0, h => trivial
 | (n, r) :: rest, i0, h => by
   refine ⟨?_, Bh4 rest (i0 + 1) fun i p hp => ?_⟩
   · split
     · trivial
     · rename_i hc
       rcases h 0 (n, r) rfl with h0 | h0
       · exact absurd (by simpa using h0) hc
       · exact h0
   · have := h (i + 1) p (by simpa using hp)
     rwa [show i0 + (i + 1) = i0 + 1 + i by omega] at this
theorem Bi7 (xs : List Nat) : FY [] xs := fun x hx => by cases hx
theorem Bj8 (xs : List Nat) : FY xs [] := fun x hx y hy => by cases hy
theorem AJ0 {anc : List (List Nat)} {base : Nat} {K : XS → Prop} {all : List XI} (hst : BH1 all anc = true) : ∀ (is : List XI) (k : Nat) (acc : List (List Nat × List Nat)) (s : XS), (∀ j i, is[j]? = some i → all[k + j]? = some i) → acc.length = k → Cf1 all acc → F2 P base is K s → IS P anc base k is acc K s
 | [], k, acc, s, hal, hl, hacc, h => h
 | i :: r, k, acc, s, hal, hl, hacc, h => by
   have hi : all[k]? = some i := by simpa using hal 0 i rfl
   have hk : k < all.length := (List.getElem?_eq_some_iff.1 hi).1
   have hkind : AP2 all k = CZ i.op := by simp [AP2, hi]
   have pairs : ∀ U R, (U = [] ∨ CZ i.op = 2) → (R = [] ∨ CZ i.op ≠ 0) → okPairs (BP anc k) U R 0 acc := fun U R hU hR => by
     refine Bh4 acc 0 fun j p hp => ?_
     rw [Nat.zero_add]
     have hjk : j < k := by rw [← hl]; exact (List.getElem?_eq_some_iff.1 hp).1
     have h1 := List.all_eq_true.1 hst k (List.mem_range.2 hk)
     have h2 := List.all_eq_true.1 h1 j (List.mem_range.2 hjk)
     rcases Bool.or_eq_true _ _ ▸ h2 with h3 | h3
     · exact .inl h3
     · right
       simp only [BV0, Bool.and_eq_true, Bool.or_eq_true, bne_iff_ne, ne_eq, beq_iff_eq] at h3
       obtain ⟨a1, a2⟩ := hacc j p hp
       rw [hkind] at h3
       constructor
       · rcases a1 with a1 | a1
         · rw [a1]; exact Bi7 R
         · rcases h3.1 with h4 | h4
           · exact absurd a1 h4
           · rcases hR with hR | hR
             · rw [hR]; exact Bj8 _
             · exact absurd h4 hR
       · rcases hU with hU | hU
         · rw [hU]; exact Bi7 _
         · rcases h3.2 with h4 | h4
           · exact absurd hU h4
           · rcases a2 with a2 | a2
             · rw [a2]; exact Bj8 _
             · exact absurd h4 a2
   have next : ∀ U R, (U = [] ∨ CZ i.op = 2) → (R = [] ∨ CZ i.op ≠ 0) → Cf1 all (acc ++ [(U, R)]) := fun U R hU hR j p hp => by
     rcases Nb hp with ⟨_, hp⟩ | ⟨rfl, rfl⟩
     · exact hacc j p hp
     · rw [hl, hkind]; exact ⟨hU, hR⟩
   have rest : ∀ U R s', (U = [] ∨ CZ i.op = 2) → (R = [] ∨ CZ i.op ≠ 0) → F2 P base r K s' → IS P anc base (k + 1) r (acc ++ [(U, R)]) K s' := fun U R s' hU hR hx =>
     AJ0 hst r (k + 1) _ s' (fun j i' hj => by have := hal (j + 1) i' (by simpa using hj); rwa [show k + (j + 1) = k + 1 + j by omega] at this) (by simp [hl]) (next U R hU hR) hx
   simp only [F2] at h
   simp only [IS]
   split at h
   · rename_i hg
     try simp only [hg]
     have hu : ∀ {U : List (Nat × Content)}, (U = [] ∨ CZ i.op = 2) → (U.map (·.1) = [] ∨ CZ i.op = 2) := fun hU => hU.imp_left fun e => by rw [e]; rfl
     exact AN6 h fun v U R hU hR hx => ⟨pairs _ R (hu hU) hR, rest _ R _ (hu hU) hR hx⟩
   · rename_i t want hg
     try simp only [hg]
     have hu : ∀ {U : List (Nat × Content)}, (U = [] ∨ CZ i.op = 2) → (U.map (·.1) = [] ∨ CZ i.op = 2) := fun hU => hU.imp_left fun e => by rw [e]; rfl
     split at h
     · rename_i b hb
       exact ⟨fun e => AN6 (h.1 e) fun v U R hU hR hx => ⟨pairs _ R (hu hU) hR, rest _ R _ (hu hU) hR hx⟩,
         fun e => ⟨pairs [] [] (.inl rfl) (.inl rfl), rest [] [] _ (.inl rfl) (.inl rfl) (h.2 e)⟩⟩
     · exact ⟨pairs [] [] (.inl rfl) (.inl rfl), rest [] [] _ (.inl rfl) (.inl rfl) h⟩
     · exact h.elim
theorem Ca1 {anc : List (List Nat)} {base : Nat} {K : XS → Prop} {is : List XI} (hst : BH1 is anc = true) (h : F2 P base is K s) : IS P anc base 0 is [] K s :=
 AJ0 hst is 0 [] s (fun j i hj => by simpa using hj) rfl (fun i p hp => by simp at hp) h
end
end Go.Ax
