import Derived.Test.YtojkpenjeglipaaGreatTWT
import Derived.Test.YtojkpenjeglipaaGreatTAxRow3
import Derived.Test.YtojkpenjeglipaaGreatRows
set_option linter.unusedSimpArgs false
set_option linter.unusedVariables false
namespace Go.Proofs.YtojkpenjeglipaaGreat
open Go.Ax
theorem Gr {α : Type} {f : α → List D} : ∀ {rows : List (List D)}, (∀ r, r ∈ rows → ∃ a, r = f a) → ∃ l : List α, rows = l.map f
 | [], _ => ⟨[], rfl⟩
 | r :: rs, h => by
   obtain ⟨a, ha⟩ := h r (by simp)
   obtain ⟨l, hl⟩ := Gr (rows := rs) fun x hx => h x (by simp [hx])
   exact ⟨a :: l, by rw [ha, hl]; rfl⟩
set_option maxRecDepth 100000 in
theorem Cj : ∀ (n : Nat) (d : List D), Bd Tryz.prog n 9 d → ∃ a : ByteArray, d = rS a
 | 0, d, h => h.elim
 | n + 1, d, h => by
   unfold Bd at h
   rw [Tryz.underlying9] at h
   obtain ⟨s, h, _⟩ := h
   exact ⟨s, h⟩
set_option maxRecDepth 100000 in
theorem Ec : ∀ (n : Nat) (d : List D), Bd Tryz.prog n 3 d → ∃ a : Int, d = (rI .i64) a
 | 0, d, h => h.elim
 | n + 1, d, h => by
   unfold Bd at h
   rw [Tryz.underlying3] at h
   obtain ⟨s, h, _⟩ := h
   exact ⟨s, h⟩
set_option maxRecDepth 100000 in
theorem BC9 : ∀ (n : Nat) (d : List D), Bd Tryz.prog n 106 d → ∃ a : T_api_Column, d = a.row
 | 0, d, h => h.elim
 | n + 1, d, h => by
   unfold Bd at h
   rw [Tryz.underlying106] at h
   obtain ⟨w0, _, rfl, h0, w1, _, rfl, h1, h⟩ := h
   obtain ⟨a0, rfl⟩ := Cj _ _ h0
   obtain ⟨a1, rfl⟩ := Ec _ _ h1
   cases h
   exact ⟨⟨a0, a1⟩, rfl⟩
set_option maxRecDepth 100000 in
theorem YC : ∀ (n : Nat) (d : List D), Bd Tryz.prog n 28 d → ∃ a : (List T_api_Column), d = (rL T_api_Column.row) a
 | 0, d, h => h.elim
 | n + 1, d, h => by
   unfold Bd at h
   rw [Tryz.underlying28] at h
   obtain ⟨rows, rfl, _, h⟩ := h
   obtain ⟨l, rfl⟩ := Gr fun r hr => BC9 n r (h r hr)
   exact ⟨l, rfl⟩
set_option maxRecDepth 100000 in
theorem L0 : ∀ (n : Nat) (d : List D), Bd Tryz.prog n 31 d → ∃ a : (List Int), d = (rL (rI .i64)) a
 | 0, d, h => h.elim
 | n + 1, d, h => by
   unfold Bd at h
   rw [Tryz.underlying31] at h
   obtain ⟨rows, rfl, _, h⟩ := h
   obtain ⟨l, rfl⟩ := Gr fun r hr => Ec n r (h r hr)
   exact ⟨l, rfl⟩
set_option maxRecDepth 100000 in
theorem Bs1 : ∀ (n : Nat) (d : List D), Bd Tryz.prog n 4 d → ∃ a : Bool, d = rB a
 | 0, d, h => h.elim
 | n + 1, d, h => by
   unfold Bd at h
   rw [Tryz.underlying4] at h
   obtain ⟨s, h⟩ := h
   exact ⟨s, h⟩
set_option maxRecDepth 100000 in
theorem BD4 : ∀ (n : Nat) (d : List D), Bd Tryz.prog n 108 d → ∃ a : T_api_Index, d = a.row
 | 0, d, h => h.elim
 | n + 1, d, h => by
   unfold Bd at h
   rw [Tryz.underlying108] at h
   obtain ⟨w0, _, rfl, h0, w1, _, rfl, h1, h⟩ := h
   obtain ⟨a0, rfl⟩ := L0 _ _ h0
   obtain ⟨a1, rfl⟩ := Bs1 _ _ h1
   cases h
   exact ⟨⟨a0, a1⟩, rfl⟩
set_option maxRecDepth 100000 in
theorem BN1 : ∀ (n : Nat) (d : List D), Bd Tryz.prog n 48 d → ∃ a : (List T_api_Index), d = (rL T_api_Index.row) a
 | 0, d, h => h.elim
 | n + 1, d, h => by
   unfold Bd at h
   rw [Tryz.underlying48] at h
   obtain ⟨rows, rfl, _, h⟩ := h
   obtain ⟨l, rfl⟩ := Gr fun r hr => BD4 n r (h r hr)
   exact ⟨l, rfl⟩
set_option maxRecDepth 100000 in
theorem BN3 : ∀ (n : Nat) (d : List D), Bd Tryz.prog n 50 d → ∃ a : T_api_Schema, d = a.row
 | 0, d, h => h.elim
 | n + 1, d, h => by
   unfold Bd at h
   rw [Tryz.underlying50] at h
   obtain ⟨w0, _, rfl, h0, w1, _, rfl, h1, w2, _, rfl, h2, w3, _, rfl, h3, w4, _, rfl, h4, w5, _, rfl, h5, h⟩ := h
   obtain ⟨a0, rfl⟩ := Cj _ _ h0
   obtain ⟨a1, rfl⟩ := YC _ _ h1
   obtain ⟨a2, rfl⟩ := BN1 _ _ h2
   obtain ⟨a3, rfl⟩ := Ec _ _ h3
   obtain ⟨a4, rfl⟩ := Ec _ _ h4
   obtain ⟨a5, rfl⟩ := Ec _ _ h5
   cases h
   exact ⟨⟨a0, a1, a2, a3, a4, a5⟩, rfl⟩
set_option maxRecDepth 100000 in
theorem BH2 : ∀ (n : Nat) (d : List D), Bd Tryz.prog n 22 d → ∃ a : (List T_api_Schema), d = (rL T_api_Schema.row) a
 | 0, d, h => h.elim
 | n + 1, d, h => by
   unfold Bd at h
   rw [Tryz.underlying22] at h
   obtain ⟨rows, rfl, _, h⟩ := h
   obtain ⟨l, rfl⟩ := Gr fun r hr => BN3 n r (h r hr)
   exact ⟨l, rfl⟩
set_option maxRecDepth 100000 in
theorem BG9 : ∀ (n : Nat) (d : List D), Bd Tryz.prog n 52 d → ∃ a : T_api_Stream, d = a.row
 | 0, d, h => h.elim
 | n + 1, d, h => by
   unfold Bd at h
   rw [Tryz.underlying52] at h
   obtain ⟨w0, _, rfl, h0, w1, _, rfl, h1, h⟩ := h
   obtain ⟨a0, rfl⟩ := Cj _ _ h0
   obtain ⟨a1, rfl⟩ := YC _ _ h1
   cases h
   exact ⟨⟨a0, a1⟩, rfl⟩
set_option maxRecDepth 100000 in
theorem Bg9 : ∀ (n : Nat) (d : List D), Bd Tryz.prog n 23 d → ∃ a : (List T_api_Stream), d = (rL T_api_Stream.row) a
 | 0, d, h => h.elim
 | n + 1, d, h => by
   unfold Bd at h
   rw [Tryz.underlying23] at h
   obtain ⟨rows, rfl, _, h⟩ := h
   obtain ⟨l, rfl⟩ := Gr fun r hr => BG9 n r (h r hr)
   exact ⟨l, rfl⟩
set_option maxRecDepth 100000 in
theorem BJ7 : ∀ (n : Nat) (d : List D), Bd Tryz.prog n 56 d → ∃ a : T_api_Window, d = a.row
 | 0, d, h => h.elim
 | n + 1, d, h => by
   unfold Bd at h
   rw [Tryz.underlying56] at h
   obtain ⟨w0, _, rfl, h0, w1, _, rfl, h1, w2, _, rfl, h2, w3, _, rfl, h3, w4, _, rfl, h4, w5, _, rfl, h5, h⟩ := h
   obtain ⟨a0, rfl⟩ := Cj _ _ h0
   obtain ⟨a1, rfl⟩ := Cj _ _ h1
   obtain ⟨a2, rfl⟩ := Cj _ _ h2
   obtain ⟨a3, rfl⟩ := Bs1 _ _ h3
   obtain ⟨a4, rfl⟩ := Ec _ _ h4
   obtain ⟨a5, rfl⟩ := Ec _ _ h5
   cases h
   exact ⟨⟨a0, a1, a2, a3, a4, a5⟩, rfl⟩
set_option maxRecDepth 100000 in
theorem BK3 : ∀ (n : Nat) (d : List D), Bd Tryz.prog n 24 d → ∃ a : (List T_api_Window), d = (rL T_api_Window.row) a
 | 0, d, h => h.elim
 | n + 1, d, h => by
   unfold Bd at h
   rw [Tryz.underlying24] at h
   obtain ⟨rows, rfl, _, h⟩ := h
   obtain ⟨l, rfl⟩ := Gr fun r hr => BJ7 n r (h r hr)
   exact ⟨l, rfl⟩
set_option maxRecDepth 100000 in
theorem Be8 : ∀ (n : Nat) (d : List D), Bd Tryz.prog n 53 d → ∃ a : (List ByteArray), d = (rL rS) a
 | 0, d, h => h.elim
 | n + 1, d, h => by
   unfold Bd at h
   rw [Tryz.underlying53] at h
   obtain ⟨rows, rfl, _, h⟩ := h
   obtain ⟨l, rfl⟩ := Gr fun r hr => Cj n r (h r hr)
   exact ⟨l, rfl⟩
set_option maxRecDepth 100000 in
theorem Bs0 : ∀ (n : Nat) (d : List D), Bd Tryz.prog n 2 d → ∃ a : Int, d = (rI .i64) a
 | 0, d, h => h.elim
 | n + 1, d, h => by
   unfold Bd at h
   rw [Tryz.underlying2] at h
   obtain ⟨s, h, _⟩ := h
   exact ⟨s, h⟩
set_option maxRecDepth 100000 in
theorem Bd9 : ∀ (n : Nat) (d : List D), Bd Tryz.prog n 89 d → ∃ a : TE, d = a.row
 | 0, d, h => h.elim
 | n + 1, d, h => by
   unfold Bd at h
   rw [Tryz.underlying89] at h
   obtain ⟨w0, _, rfl, h0, w1, _, rfl, h1, w2, _, rfl, h2, w3, _, rfl, h3, w4, _, rfl, h4, w5, _, rfl, h5, h⟩ := h
   obtain ⟨a0, rfl⟩ := Ec _ _ h0
   obtain ⟨a1, rfl⟩ := Bs0 _ _ h1
   obtain ⟨a2, rfl⟩ := Cj _ _ h2
   obtain ⟨a3, rfl⟩ := Cj _ _ h3
   obtain ⟨a4, rfl⟩ := Cj _ _ h4
   obtain ⟨a5, rfl⟩ : ∃ l : List TE, w5 = [D.sl (l.map TE.row)] := by
     cases n with
     | zero => exact h5.elim
     | succ n =>
       unfold Bd at h5
       rw [Tryz.underlying87] at h5
       obtain ⟨rows, rfl, _, h5⟩ := h5
       obtain ⟨l, rfl⟩ := Gr fun r hr => Bd9 n r (h5 r hr)
       exact ⟨l, rfl⟩
   cases h
   exact ⟨⟨a0, a1, a2, a3, a4, a5⟩, (TE.row_eq _).symm ▸ rfl⟩
set_option maxRecDepth 100000 in
theorem BJ8 : ∀ (n : Nat) (d : List D), Bd Tryz.prog n 87 d → ∃ a : (List TE), d = (rL TE.row) a
 | 0, d, h => h.elim
 | n + 1, d, h => by
   unfold Bd at h
   rw [Tryz.underlying87] at h
   obtain ⟨rows, rfl, _, h⟩ := h
   obtain ⟨l, rfl⟩ := Gr fun r hr => Bd9 n r (h r hr)
   exact ⟨l, rfl⟩
set_option maxRecDepth 100000 in
theorem Ai6 : ∀ (n : Nat) (d : List D), Bd Tryz.prog n 101 d → ∃ a : TS, d = a.row
 | 0, d, h => h.elim
 | n + 1, d, h => by
   unfold Bd at h
   rw [Tryz.underlying101] at h
   obtain ⟨w0, _, rfl, h0, w1, _, rfl, h1, w2, _, rfl, h2, w3, _, rfl, h3, w4, _, rfl, h4, w5, _, rfl, h5, w6, _, rfl, h6, w7, _, rfl, h7, h⟩ := h
   obtain ⟨a0, rfl⟩ := Ec _ _ h0
   obtain ⟨a1, rfl⟩ := Cj _ _ h1
   obtain ⟨a2, rfl⟩ := Cj _ _ h2
   obtain ⟨a3, rfl⟩ := Ec _ _ h3
   obtain ⟨a4, rfl⟩ := Be8 _ _ h4
   obtain ⟨a5, rfl⟩ := BJ8 _ _ h5
   obtain ⟨a6, rfl⟩ : ∃ l : List TS, w6 = [D.sl (l.map TS.row)] := by
     cases n with
     | zero => exact h6.elim
     | succ n =>
       unfold Bd at h6
       rw [Tryz.underlying34] at h6
       obtain ⟨rows, rfl, _, h6⟩ := h6
       obtain ⟨l, rfl⟩ := Gr fun r hr => Ai6 n r (h6 r hr)
       exact ⟨l, rfl⟩
   obtain ⟨a7, rfl⟩ : ∃ l : List TS, w7 = [D.sl (l.map TS.row)] := by
     cases n with
     | zero => exact h7.elim
     | succ n =>
       unfold Bd at h7
       rw [Tryz.underlying34] at h7
       obtain ⟨rows, rfl, _, h7⟩ := h7
       obtain ⟨l, rfl⟩ := Gr fun r hr => Ai6 n r (h7 r hr)
       exact ⟨l, rfl⟩
   cases h
   exact ⟨⟨a0, a1, a2, a3, a4, a5, a6, a7⟩, (TS.row_eq _).symm ▸ rfl⟩
set_option maxRecDepth 100000 in
theorem BK2 : ∀ (n : Nat) (d : List D), Bd Tryz.prog n 34 d → ∃ a : (List TS), d = (rL TS.row) a
 | 0, d, h => h.elim
 | n + 1, d, h => by
   unfold Bd at h
   rw [Tryz.underlying34] at h
   obtain ⟨rows, rfl, _, h⟩ := h
   obtain ⟨l, rfl⟩ := Gr fun r hr => Ai6 n r (h r hr)
   exact ⟨l, rfl⟩
set_option maxRecDepth 100000 in
theorem BM6 : ∀ (n : Nat) (d : List D), Bd Tryz.prog n 36 d → ∃ a : TP, d = a.row
 | 0, d, h => h.elim
 | n + 1, d, h => by
   unfold Bd at h
   rw [Tryz.underlying36] at h
   obtain ⟨w0, _, rfl, h0, w1, _, rfl, h1, w2, _, rfl, h2, w3, _, rfl, h3, w4, _, rfl, h4, w5, _, rfl, h5, h⟩ := h
   obtain ⟨a0, rfl⟩ := Cj _ _ h0
   obtain ⟨a1, rfl⟩ := Cj _ _ h1
   obtain ⟨a2, rfl⟩ := Cj _ _ h2
   obtain ⟨a3, rfl⟩ := Ec _ _ h3
   obtain ⟨a4, rfl⟩ := YC _ _ h4
   obtain ⟨a5, rfl⟩ := BK2 _ _ h5
   cases h
   exact ⟨⟨a0, a1, a2, a3, a4, a5⟩, rfl⟩
set_option maxRecDepth 100000 in
theorem BH5 : ∀ (n : Nat) (d : List D), Bd Tryz.prog n 25 d → ∃ a : (List TP), d = (rL TP.row) a
 | 0, d, h => h.elim
 | n + 1, d, h => by
   unfold Bd at h
   rw [Tryz.underlying25] at h
   obtain ⟨rows, rfl, _, h⟩ := h
   obtain ⟨l, rfl⟩ := Gr fun r hr => BM6 n r (h r hr)
   exact ⟨l, rfl⟩
set_option maxRecDepth 100000 in
theorem BI4 : ∀ (n : Nat) (d : List D), Bd Tryz.prog n 27 d → ∃ a : T_api_Catalog, d = a.row
 | 0, d, h => h.elim
 | n + 1, d, h => by
   unfold Bd at h
   rw [Tryz.underlying27] at h
   obtain ⟨w0, _, rfl, h0, w1, _, rfl, h1, w2, _, rfl, h2, w3, _, rfl, h3, w4, _, rfl, h4, h⟩ := h
   obtain ⟨a0, rfl⟩ := BH2 _ _ h0
   obtain ⟨a1, rfl⟩ := Bg9 _ _ h1
   obtain ⟨a2, rfl⟩ := BK3 _ _ h2
   obtain ⟨a3, rfl⟩ := Bg9 _ _ h3
   obtain ⟨a4, rfl⟩ := BH5 _ _ h4
   cases h
   exact ⟨⟨a0, a1, a2, a3, a4⟩, rfl⟩
set_option maxRecDepth 100000 in
theorem BB0 : ∀ (n : Nat) (d : List D), Bd Tryz.prog n 152 d → ∃ a : TLeaf, d = a.row
 | 0, d, h => h.elim
 | n + 1, d, h => by
   unfold Bd at h
   rw [Tryz.underlying152] at h
   obtain ⟨w0, _, rfl, h0, w1, _, rfl, h1, w2, _, rfl, h2, w3, _, rfl, h3, w4, _, rfl, h4, w5, _, rfl, h5, h⟩ := h
   obtain ⟨a0, rfl⟩ := Ec _ _ h0
   obtain ⟨a1, rfl⟩ := Bs0 _ _ h1
   obtain ⟨a2, rfl⟩ := Cj _ _ h2
   obtain ⟨a3, rfl⟩ := Cj _ _ h3
   obtain ⟨a4, rfl⟩ := Cj _ _ h4
   obtain ⟨a5, rfl⟩ := L0 _ _ h5
   cases h
   exact ⟨⟨a0, a1, a2, a3, a4, a5⟩, rfl⟩
set_option maxRecDepth 100000 in
theorem BL9 : ∀ (n : Nat) (d : List D), Bd Tryz.prog n 29 d → ∃ a : (List TLeaf), d = (rL TLeaf.row) a
 | 0, d, h => h.elim
 | n + 1, d, h => by
   unfold Bd at h
   rw [Tryz.underlying29] at h
   obtain ⟨rows, rfl, _, h⟩ := h
   obtain ⟨l, rfl⟩ := Gr fun r hr => BB0 n r (h r hr)
   exact ⟨l, rfl⟩
set_option maxRecDepth 100000 in
theorem BD7 : ∀ (n : Nat) (d : List D), Bd Tryz.prog n 154 d → ∃ a : TKnot, d = a.row
 | 0, d, h => h.elim
 | n + 1, d, h => by
   unfold Bd at h
   rw [Tryz.underlying154] at h
   obtain ⟨w0, _, rfl, h0, w1, _, rfl, h1, w2, _, rfl, h2, w3, _, rfl, h3, w4, _, rfl, h4, w5, _, rfl, h5, w6, _, rfl, h6, w7, _, rfl, h7, h⟩ := h
   obtain ⟨a0, rfl⟩ := Ec _ _ h0
   obtain ⟨a1, rfl⟩ := Cj _ _ h1
   obtain ⟨a2, rfl⟩ := Cj _ _ h2
   obtain ⟨a3, rfl⟩ := Ec _ _ h3
   obtain ⟨a4, rfl⟩ := Be8 _ _ h4
   obtain ⟨a5, rfl⟩ := L0 _ _ h5
   obtain ⟨a6, rfl⟩ := L0 _ _ h6
   obtain ⟨a7, rfl⟩ := L0 _ _ h7
   cases h
   exact ⟨⟨a0, a1, a2, a3, a4, a5, a6, a7⟩, rfl⟩
set_option maxRecDepth 100000 in
theorem BG8 : ∀ (n : Nat) (d : List D), Bd Tryz.prog n 30 d → ∃ a : (List TKnot), d = (rL TKnot.row) a
 | 0, d, h => h.elim
 | n + 1, d, h => by
   unfold Bd at h
   rw [Tryz.underlying30] at h
   obtain ⟨rows, rfl, _, h⟩ := h
   obtain ⟨l, rfl⟩ := Gr fun r hr => BD7 n r (h r hr)
   exact ⟨l, rfl⟩
set_option maxRecDepth 100000 in
theorem BI0 : ∀ (n : Nat) (d : List D), Bd Tryz.prog n 33 d → ∃ a : LSay, d = a.row
 | 0, d, h => h.elim
 | n + 1, d, h => by
   unfold Bd at h
   rw [Tryz.underlying33] at h
   obtain ⟨w0, _, rfl, h0, w1, _, rfl, h1, w2, _, rfl, h2, w3, _, rfl, h3, w4, _, rfl, h4, w5, _, rfl, h5, w6, _, rfl, h6, w7, _, rfl, h7, h⟩ := h
   obtain ⟨a0, rfl⟩ := Cj _ _ h0
   obtain ⟨a1, rfl⟩ := Cj _ _ h1
   obtain ⟨a2, rfl⟩ := Cj _ _ h2
   obtain ⟨a3, rfl⟩ := Ec _ _ h3
   obtain ⟨a4, rfl⟩ := YC _ _ h4
   obtain ⟨a5, rfl⟩ := BL9 _ _ h5
   obtain ⟨a6, rfl⟩ := BG8 _ _ h6
   obtain ⟨a7, rfl⟩ := L0 _ _ h7
   cases h
   exact ⟨⟨a0, a1, a2, a3, a4, a5, a6, a7⟩, rfl⟩
def Bu5 : List TypeId := [9, 3, 106, 28, 31, 4, 108, 48, 50, 22, 52, 23, 56, 24, 53, 2, 89, 87, 101, 34, 36, 25, 27, 152, 29, 154, 30, 33]
end Go.Proofs.YtojkpenjeglipaaGreat
