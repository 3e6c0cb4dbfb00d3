import Derived.Test.YtojkpenjeglipaaGreatTAxRb
set_option linter.unusedSimpArgs false
set_option linter.unusedVariables false
namespace Go.Ax
def Al8 (E size bytes : Nat) : XC :=
 (.seq (.region [{ dst := some 2, op := .move (.c (.ex [])) }])
 (.seq (.seq (.region [{ dst := some 3, op := .move (.t 0) }, { dst := some 4, op := .eqNil false (.t 3) }])
 (.cond (.t 4)
 (.seq (.region [{ dst := some 2, op := .move (.c (.ex [])) }])
 .ret)
 .skip))
 (.seq (.region [{ dst := some 5, op := .buildSlice size [] }, { dst := some 6, op := .move (.t 0) }, { dst := some 7, op := .append E size bytes (.t 5) (.t 6) }, { dst := some 2, op := .move (.t 7) }])
 .ret)))
section
attribute [local irreducible] BH FA F2 Bf DM Hp Cq V4 Lz upd ev u0 Dh frz A4 EO mmD bnd Ch Gk DU C2 Ie JH FZ cutV NL CO
set_option maxRecDepth 100000 in
theorem BB6 {P : Program} {f : FuncId} {E size bytes : Nat} (F : Fn P f 8 (Al8 E size bytes) [.tmp 2]) (hi : (P.info? E).map (·.size) = some size) {rows : List (List D)} {st : List Content}
   (hz : ∀ row, row ∈ rows → row.length = size) (hb : rows.length * bytes ≤ 140737488355328) : Aw P f [.d (.sl rows)] st (fun p st' => p = .own st.length 1 ∧ st' = st ++ [.row E 1 rows]) := by
 refine Aw.of_ownG F (Nat.le_of_ble_eq_true rfl) fun hwf => ?_
 rw [CE]
 refine AS ?_
 unfold Al8
 refine Al (Af (Ab e_c (Aa (Ae (Al ?_)))))
 refine Al (Af (Ab (e_t (em rfl eh)) ?_))
 refine Cd0 (AN (e_t eh) Bo) (fun h0 => ?_) ?_
 · refine Aa (Ae ?_)
   refine DC (e_t eh) ?_
   refine Al (Af (Ab e_c (Aa (Ae (AH ?_)))))
   refine Ay ?_
   have hl : (st ++ [] : List Content).length = st.length := by simp
   refine ⟨_, Ghost.adoptV _ 2 [] E size 1 eh hi (by simp), [.own st.length 1], st.length + 1, AE (by simp only [hl]; exact eh) AG, by omega, ?_, ?_⟩
   · simp [FZ, cutV, AP]
   · rw [h0]; simp only [List.append_nil]; exact Bw5 (hwf.push (fun cells h => by cases h)) (by simp)
 · refine Aa (Ae ?_)
   refine FO (e_t eh) ?_
   refine AM (Ae (Al (Af ?_)))
   refine DW (rows := []) FJ ?_
   refine Ab (e_t (Ad rfl eh)) ?_
   refine Ch3 (k := 0) rfl rfl (AN (e_t eh) Bo) hz (e_t (em rfl eh)) (by simp) (by simpa using hb) ?_
   refine Ab (e_t eh) (Aa (Ae (AH ?_)))
   refine ⟨_, Ghost.refl _, [.own (st.length + 0) 1], st.length + 1, AE eh AG, by omega, ?_, ?_⟩
   · simp [FZ, cutV, AP]
   · simp only [List.nil_append]; exact Bw5 (hwf.push (fun cells h => by cases h)) (by simp)
end
theorem Aw.freezeRow {P : Program} {f : FuncId} {args : List PV} {st : List Content} {e ver : Nat} {rows : List (List D)} (h : Aw P f args st (fun p st' => p = .own st.length ver ∧ st' = st ++ [.row e ver rows])) :
   Aw P f args st (fun p st' => p = .d (.sl rows) ∧ st' = st) := by
 refine ⟨h.1, fun B w0 M g w vs hs hr => (h.2 B w0 M g w vs hs hr).mono fun en w' ⟨v, p, st', M', g', a1, a2, a3, a4, a5, a6, a7⟩ => ?_⟩
 obtain ⟨rfl, rfl⟩ := a7
 obtain ⟨M2, b1, b2, b3⟩ := a5.frz_ok a6
 have hf : frz (st ++ [.row e ver rows]) (.own st.length ver) = .d (.sl rows) := by simp [frz]
 rw [hf] at b3
 have hc := b2.cut st.length
 rw [As hs.wf] at hc
 exact ⟨v, _, st, M2, g'.cut st.length, a1, a2.trans b1, a3.trans (NLe.cut g' _), Nat.le_refl _, hc, b3.cut (.d _), rfl, rfl⟩
noncomputable section
structure CloneF where
 own : Bool
 E : Nat
 size : Nat
 bytes : Nat
def BZ8 (l : List (FuncId × CloneF)) (f : FuncId) : Option CloneF := List.rec none (fun q _ ih => bif Nat.beq q.1 f then some q.2 else ih) l
def AB9 (P : Program) : List (FuncId × CloneF) → Prop
 | [] => True
 | (g, F) :: r => (Fn P g 8 (Al8 F.E F.size F.bytes) [.tmp 2] ∧ (P.info? F.E).map (·.size) = some F.size) ∧ AB9 P r
theorem Bz2 {P : Program} : ∀ {T : List (FuncId × CloneF)}, AB9 P T → ∀ {f F}, BZ8 T f = some F → Fn P f 8 (Al8 F.E F.size F.bytes) [.tmp 2] ∧ (P.info? F.E).map (·.size) = some F.size
 | [], _, f, F, h => by cases h
 | (g, G) :: r, ht, f, F, h => by
   replace h : (bif Nat.beq g f then some G else BZ8 r f) = some F := h
   rcases bif_some h with ⟨e, h⟩ | ⟨e, h⟩
   · cases h; have := Nat.eq_of_beq_eq_true e; subst this; exact ht.1
   · exact Bz2 ht.2 h
def BG6 (L : List (FuncId × CloneF)) : Bp := fun f args st =>
 match BZ8 L f with
 | some F => match args with
   | [.d (.sl rows)] => if Ix F.size rows = true ∧ rows.length * F.bytes ≤ 140737488355328 then (match F.own with
     | true => some (.own st.length 1, st ++ [.row F.E 1 rows])
     | false => some (.d (.sl rows), st)) else none
   | _ => none
 | none => none
theorem BR7 {P : Program} {L : List (FuncId × CloneF)} (hL : AB9 P L) : G5 P (BG6 L) := fun f args st v st' h => by
 unfold BG6 at h
 split at h
 · rename_i F hF
   obtain ⟨h1, h2⟩ := Bz2 hL hF
   split at h
   · split at h
     · rename_i hc
       have hcall := BB6 (st := st) h1 h2 (C0 hc.1) hc.2
       split at h
       · cases h; exact hcall
       · cases h; exact hcall.freezeRow
     · cases h
   · cases h
 · cases h
def orS (A B : Bp) : Bp := fun f args st => match A f args st with
 | some r => some r
 | none => B f args st
theorem BY8 {P : Program} {A B : Bp} (hA : G5 P A) (hB : G5 P B) : G5 P (orS A B) := fun f args st v st' h => by
 unfold orS at h
 split at h
 · cases h; exact hA _ _ _ _ _ ‹_›
 · exact hB _ _ _ _ _ h
end
end Go.Ax
namespace Go.Ax
open Go.RowKit
theorem Aw.anywhere {P : Program} {f : FuncId} {b : Bool} (h : Aw P f [] [] (fun p _ => p = .d (.bool b))) (st : List Content) : Aw P f [] st (fun p st' => p = .d (.bool b) ∧ st' = st) := by
 refine ⟨h.1, fun B w0 M g w vs hs hr => ?_⟩
 have hvs : vs = [] := List.eq_nil_of_length_eq_zero hr.1
 subst hvs
 have hS : SRel P w.heap.size w M (fun _ _ => none) [] w := ⟨Below.refl _ _, Nat.le_refl _, hs.mem, fun x c h => (by simp at h), fun x ver v h => (by cases h), fun x y c d b hne h => (by simp at h)⟩
 refine (h.2 w.heap.size w M (fun _ _ => none) w [] hS (CK.nil _ _)).mono fun e w' ⟨v, p, st', M', g', a1, a2, a3, a4, a5, a6, a7⟩ => ?_
 subst a7
 have hv : v = .bool b := by cases a6 with | d h => cases h; rfl
 subst hv
 exact ⟨_, .d (.bool b), st, M, g, a1, MLe.refl M, NLe.refl _ g, Nat.le_refl _, hs.grow a5.below (MLe.refl M) (fun a u e ha => by have := PN hs e; omega) (fun _ _ => rfl), .d (.bool b), rfl, rfl⟩
end Go.Ax
namespace Go.Ax
noncomputable section
structure Memo where
 f : FuncId
 args : List PV
 st : List Content
 v : PV
 st' : List Content
def BI7 : List Content → List Content → Bool
 | [], [] => true
 | a :: r, b :: s => eqC a b && BI7 r s
 | _, _ => false
theorem BN5 : ∀ a b, BI7 a b = true → a = b
 | [], b, h => by cases b with | nil => rfl | cons => simp [BI7] at h
 | a :: r, b, h => by
   cases b with
   | nil => simp [BI7] at h
   | cons b s =>
     rw [BI7, Bool.and_eq_true] at h
     rw [BX4 h.1, BN5 r s h.2]
def Bv8 (P : Program) : List Memo → Prop
 | [] => True
 | m :: r => Aw P m.f m.args m.st (fun p s => p = m.v ∧ s = m.st') ∧ Bv8 P r
def BT8 (L : List Memo) : Bp := fun f args st => List.rec none (fun m _ ih => bif (Nat.beq m.f f && (AZ9 m.args args && BI7 m.st st)) then some (m.v, m.st') else ih) L
theorem BF3 {P : Program} : ∀ {L : List Memo}, Bv8 P L → G5 P (BT8 L)
 | [], _ => fun f args st v st' h => by cases h
 | m :: r, hm => fun f args st v st' h => by
   replace h : (bif (Nat.beq m.f f && (AZ9 m.args args && BI7 m.st st)) then some (m.v, m.st') else BT8 r f args st) = some (v, st') := h
   rcases bif_some h with ⟨e, h⟩ | ⟨e, h⟩
   · simp only [Bool.and_eq_true] at e
     have h1 := Nat.eq_of_beq_eq_true e.1
     have h2 := Yu _ _ e.2.1
     have h3 := BN5 _ _ e.2.2
     cases h
     subst h1 h2 h3
     exact hm.1
   · exact BF3 hm.2 _ _ _ _ _ h
end
end Go.Ax
