import Derived.Test.YtojkpenjeglipaaIAxVn
set_option linter.unusedVariables false
set_option linter.unusedSimpArgs false
namespace Go.Ax
open Go.RowKit
section
variable {P : Program} {s : XS}
theorem Au1 {o : XOp} (h : EL o = 0) : Fx o s = [] := by cases o <;> first | rfl | (simp [EL] at h)
theorem Vq {o : XOp} {idx : Nat} {K K' : PV → List (Nat × Content) → List Nat → Prop} (hk : G1 P o idx K s) (himp : ∀ v U R, (U = [] ∨ EL o = 2) → (R = [] ∨ EL o ≠ 0) → K v U R → K' v U R) : G1 P o idx K' s := by
 by_cases hp : Dk o = true
 · have hk' : xop P o (fun v _ => K v [] (Fx o s)) s := by cases o <;> first | exact hk | simp [Dk] at hp
   obtain ⟨v, h1, h2⟩ := AN0 hp hk'
   have h3 : xop P o (fun v _ => K' v [] (Fx o s)) s := h2 (fun v => K' v [] (Fx o s)) (himp _ _ _ (.inl rfl) (by
     by_cases h0 : EL o = 0
     · exact .inl (Au1 h0)
     · exact .inr h0) h1)
   cases o <;> first | exact h3 | simp [Dk] at hp
 · cases o with
   | box x => exact ⟨hk.1, hk.2.1, himp _ _ _ (.inr rfl) (.inr (by simp [EL])) hk.2.2⟩
   | alloc z => exact ⟨hk.1, himp _ _ _ (.inr rfl) (.inr (by simp [EL])) hk.2⟩
   | store size x y =>
     simp only [G1] at hk ⊢
     split at hk
     · split at hk
       · exact ⟨hk.1, hk.2.1, hk.2.2.1, himp _ _ _ (.inr rfl) (.inr (by simp [EL])) hk.2.2.2⟩
       · exact hk.elim
     · exact hk.elim
   | append e size bytes x y =>
     simp only [G1] at hk ⊢
     split at hk
     · rename_i ys hys
       try simp only [hys]
       obtain ⟨h1, hk⟩ := hk
       refine ⟨h1, ?_⟩
       split at hk
       · exact ⟨hk.1, hk.2.1, hk.2.2.1, himp _ _ _ (.inr rfl) (.inr (by simp [EL])) hk.2.2.2⟩
       · split at hk
         · exact ⟨hk.1, hk.2.1, hk.2.2.1, himp _ _ _ (.inr rfl) (.inr (by simp [EL])) hk.2.2.2⟩
         · exact hk.elim
       · exact hk.elim
     · exact hk.elim
   | call f args =>
     obtain ⟨v, U, R, h1, h2⟩ := hk
     exact ⟨v, U, R, h1, himp _ _ _ (.inr rfl) (.inr (by simp [EL])) h2⟩
   | dyn x args =>
     simp only [G1] at hk ⊢
     split at hk
     · obtain ⟨v, U, R, h1, h2⟩ := hk
       exact ⟨v, U, R, h1, himp _ _ _ (.inr rfl) (.inr (by simp [EL])) h2⟩
     · exact hk.elim
   | mapSet k e m x y =>
     simp only [G1] at hk ⊢
     split at hk
     · split at hk
       · exact ⟨hk.1, hk.2.1, hk.2.2.1, hk.2.2.2.1, himp _ _ _ (.inr rfl) (.inr (by simp [EL])) hk.2.2.2.2⟩
       · exact hk.elim
     · exact hk.elim
   | mkMap => exact hk.elim
   | eqNil => exact hk.elim
   | _ => simp [Dk] at hp
def AO4 (all : List XI) (acc : List (List Nat × List Nat)) : Prop := ∀ i p, acc[i]? = some p → (p.1 = [] ∨ Vs all i = 2) ∧ (p.2 = [] ∨ Vs all i ≠ 0)
theorem Yn {ak : List Nat} {ns R : List Nat} : ∀ (acc : List (List Nat × List Nat)) (i0 : Nat), (∀ i p, acc[i]? = some p → ak.contains (i0 + i) = true ∨ (FE p.1 R ∧ FE ns p.2)) → okPairs ak ns R i0 acc
 | [], i0, h => trivial
 | (n, r) :: rest, i0, h => by
   refine ⟨?_, Yn rest (i0 + 1) fun i p hp => ?_⟩
   · split
     · trivial
     · rename_i hc
       rcases h 0 (n, r) rfl with h0 | h0
       · exact absurd (by simpa using h0) hc
       · exact h0
   · have := h (i + 1) p (by simpa using hp)
     rwa [show i0 + (i + 1) = i0 + 1 + i by omega] at this
theorem XH (xs : List Nat) : FE [] xs := fun x hx => by cases hx
theorem X0 (xs : List Nat) : FE xs [] := fun x hx y hy => by cases hy
theorem TC {anc : List (List Nat)} {base : Nat} {K : XS → Prop} {all : List XI} (hst : As9 all anc = true) : ∀ (is : List XI) (k : Nat) (acc : List (List Nat × List Nat)) (s : XS), (∀ j i, is[j]? = some i → all[k + j]? = some i) → acc.length = k → AO4 all acc → FD P base is K s → Ja P anc base k is acc K s
 | [], k, acc, s, hal, hl, hacc, h => h
 | i :: r, k, acc, s, hal, hl, hacc, h => by
   have hi : all[k]? = some i := by simpa using hal 0 i rfl
   have hk : k < all.length := (List.getElem?_eq_some_iff.1 hi).1
   have hkind : Vs all k = EL i.op := by simp [Vs, hi]
   have pairs : ∀ U R, (U = [] ∨ EL i.op = 2) → (R = [] ∨ EL i.op ≠ 0) → okPairs (BS anc k) U R 0 acc := fun U R hU hR => by
     refine Yn acc 0 fun j p hp => ?_
     rw [Nat.zero_add]
     have hjk : j < k := by rw [← hl]; exact (List.getElem?_eq_some_iff.1 hp).1
     have h1 := List.all_eq_true.1 hst k (List.mem_range.2 hk)
     have h2 := List.all_eq_true.1 h1 j (List.mem_range.2 hjk)
     rcases Bool.or_eq_true _ _ ▸ h2 with h3 | h3
     · exact .inl h3
     · right
       simp only [AJ8, Bool.and_eq_true, Bool.or_eq_true, bne_iff_ne, ne_eq, beq_iff_eq] at h3
       obtain ⟨a1, a2⟩ := hacc j p hp
       rw [hkind] at h3
       constructor
       · rcases a1 with a1 | a1
         · rw [a1]; exact XH R
         · rcases h3.1 with h4 | h4
           · exact absurd a1 h4
           · rcases hR with hR | hR
             · rw [hR]; exact X0 _
             · exact absurd h4 hR
       · rcases hU with hU | hU
         · rw [hU]; exact XH _
         · rcases h3.2 with h4 | h4
           · exact absurd hU h4
           · rcases a2 with a2 | a2
             · rw [a2]; exact X0 _
             · exact absurd h4 a2
   have next : ∀ U R, (U = [] ∨ EL i.op = 2) → (R = [] ∨ EL i.op ≠ 0) → AO4 all (acc ++ [(U, R)]) := fun U R hU hR j p hp => by
     rcases J9 hp with ⟨_, hp⟩ | ⟨rfl, rfl⟩
     · exact hacc j p hp
     · rw [hl, hkind]; exact ⟨hU, hR⟩
   have rest : ∀ U R s', (U = [] ∨ EL i.op = 2) → (R = [] ∨ EL i.op ≠ 0) → FD P base r K s' → Ja P anc base (k + 1) r (acc ++ [(U, R)]) K s' := fun U R s' hU hR hx =>
     TC hst r (k + 1) _ s' (fun j i' hj => by have := hal (j + 1) i' (by simpa using hj); rwa [show k + (j + 1) = k + 1 + j by omega] at this) (by simp [hl]) (next U R hU hR) hx
   simp only [FD] at h
   simp only [Ja]
   split at h
   · rename_i hg
     try simp only [hg]
     have hu : ∀ {U : List (Nat × Content)}, (U = [] ∨ EL i.op = 2) → (U.map (·.1) = [] ∨ EL i.op = 2) := fun hU => hU.imp_left fun e => by rw [e]; rfl
     exact Vq h fun v U R hU hR hx => ⟨pairs _ R (hu hU) hR, rest _ R _ (hu hU) hR hx⟩
   · rename_i t want hg
     try simp only [hg]
     have hu : ∀ {U : List (Nat × Content)}, (U = [] ∨ EL i.op = 2) → (U.map (·.1) = [] ∨ EL i.op = 2) := fun hU => hU.imp_left fun e => by rw [e]; rfl
     split at h
     · rename_i b hb
       exact ⟨fun e => Vq (h.1 e) fun v U R hU hR hx => ⟨pairs _ R (hu hU) hR, rest _ R _ (hu hU) hR hx⟩,
         fun e => ⟨pairs [] [] (.inl rfl) (.inl rfl), rest [] [] _ (.inl rfl) (.inl rfl) (h.2 e)⟩⟩
     · exact ⟨pairs [] [] (.inl rfl) (.inl rfl), rest [] [] _ (.inl rfl) (.inl rfl) h⟩
     · exact h.elim
theorem AF1 {anc : List (List Nat)} {base : Nat} {K : XS → Prop} {is : List XI} (hst : As9 is anc = true) (h : FD P base is K s) : Ja P anc base 0 is [] K s :=
 TC hst is 0 [] s (fun j i hj => by simpa using hj) rfl (fun i p hp => by simp at hp) h
end
end Go.Ax
