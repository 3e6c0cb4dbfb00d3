import Derived.Test.YtojkpenjeglipaaPYT
import Derived.Test.YtojkpenjeglipaaPCVX
import Derived.Test.YtojkpenjeglipaaPCPrim
import Derived.Test.YtojkpenjeglipaaPYD2
import Derived.Test.YtojkpenjeglipaaPYD5
set_option linter.unusedVariables false
set_option linter.unusedSimpArgs false
namespace Go.Ax
attribute [local irreducible] BQ EX FK Bg CQ FI B8 Le Ii upd ev u0 Dw frz A9 EK mmD bnd B2 FD Dq CR G3 HS Hg cutV JT Cy
variable {st : List Content}
def JC (p0 : TE) (v3 : Bool) : Option Bool :=
 (bif v3 then some (decide ((⟨#[]⟩ : ByteArray) = p0.Src)) else some false)
def Ji (p0 : TE) (v2 : Bool) : Option Bool :=
 (bif v2 then (JC p0 (decide ((⟨#[]⟩ : ByteArray) = p0.Name))) else (JC p0 false))
def Jv (p0 : TE) (v1 : Bool) : Option Bool :=
 (bif v1 then (Ji p0 (decide ((⟨#[]⟩ : ByteArray) = p0.S))) else (Ji p0 false))
def Jn (p0 : TE) (v6 : Bool) : Option Bool :=
 (bif v6 then some (decide ((⟨#[]⟩ : ByteArray) = p0.Src)) else some false)
def JP (p0 : TE) (v5 : Bool) : Option Bool :=
 (bif v5 then (Jn p0 (decide ((⟨#[]⟩ : ByteArray) = p0.Name))) else (Jn p0 false))
def Jz (p0 : TE) (v4 : Bool) : Option Bool :=
 (bif v4 then (JP p0 (decide (p0.S = p0.S))) else (JP p0 false))
def JY (p0 : TE) (v9 : Bool) : Option Bool :=
 (bif v9 then some (decide ((⟨#[]⟩ : ByteArray) = p0.Src)) else some false)
def JS (p0 : TE) (v8 : Bool) : Option Bool :=
 (bif v8 then (JY p0 (decide ((⟨#[]⟩ : ByteArray) = p0.Name))) else (JY p0 false))
def JM (p0 : TE) (v7 : Bool) : Option Bool :=
 (bif v7 then (JS p0 (decide ((⟨#[]⟩ : ByteArray) = p0.S))) else (JS p0 false))
def IF (p0 : TE) (v13 : Bool) : Option Bool :=
 (bif v13 then some (decide ((⟨#[]⟩ : ByteArray) = p0.Src)) else some false)
def IH (p0 : TE) (v12 : Bool) : Option Bool :=
 (bif v12 then (IF p0 (decide (p0.Name = p0.Name))) else (IF p0 false))
def JO (p0 : TE) (v11 : Bool) : Option Bool :=
 (bif v11 then (IH p0 (decide ((⟨#[]⟩ : ByteArray) = p0.S))) else (IH p0 false))
def Iv (p0 : TE) (v17 : Bool) : Option Bool :=
 (bif v17 then some (decide ((⟨#[]⟩ : ByteArray) = p0.Src)) else some false)
def IG (p0 : TE) (v16 : Bool) : Option Bool :=
 (bif v16 then (Iv p0 (decide (p0.Name = p0.Name))) else (Iv p0 false))
def Iy (p0 : TE) (v15 : Bool) : Option Bool :=
 (bif v15 then (IG p0 (decide (p0.S = p0.S))) else (IG p0 false))
def Iu (p0 : TE) (v21 : Bool) : Option Bool :=
 (bif v21 then some (decide (p0.Src = p0.Src)) else some false)
def Is (p0 : TE) (v20 : Bool) : Option Bool :=
 (bif v20 then (Iu p0 (decide (p0.Name = p0.Name))) else (Iu p0 false))
def IE (p0 : TE) (v19 : Bool) : Option Bool :=
 (bif v19 then (Is p0 (decide ((⟨#[]⟩ : ByteArray) = p0.S))) else (Is p0 false))
def IC (p0 : TE) (v23 : Bool) : Option Bool :=
 (bif v23 then some (decide ((⟨#[]⟩ : ByteArray) = p0.Src)) else some false)
def IA (p0 : TE) (v22 : Bool) : Option Bool :=
 (bif v22 then (IC p0 (decide ((⟨#[]⟩ : ByteArray) = p0.Name))) else (IC p0 false))
def Lk (n : Nat) (p0 : TE) : Option Bool :=
 (bif (decide (p0.Op = (1 : Int))) then (bif (decide ((0 : Int) ≤ p0.N)) then (Jv p0 (decide (p0.N = p0.N))) else (Jv p0 false)) else (bif (decide (p0.Op = (2 : Int))) then (bif (decide ((p0.S.size : Int) ≤ (200 : Int))) then (Jz p0 (decide ((0 : Int) = p0.N))) else (Jz p0 false)) else (bif (decide (p0.Op = (3 : Int))) then (bif (decide ((Int.fdiv p0.N (2 ^ (min (Int.toNat (1 : Int)) (IntKind.bits .i64)))) = (0 : Int))) then (JM p0 (decide (p0.N = p0.N))) else (JM p0 false)) else (bif (decide (p0.Op = (4 : Int))) then ((Gw n ([p0.Name])).bind fun v10 => (bif v10 then (JO p0 (decide ((0 : Int) = p0.N))) else (JO p0 false))) else (bif (decide (p0.Op = (5 : Int))) then ((Gw n ([p0.Name, p0.S])).bind fun v14 => (bif v14 then (Iy p0 (decide ((0 : Int) = p0.N))) else (Iy p0 false))) else (bif (O0 p0.Op).2 then ((Gw n ([p0.Name, p0.Src])).bind fun v18 => (bif v18 then (IE p0 (decide ((0 : Int) = p0.N))) else (IE p0 false))) else (bif (decide ((0 : Int) = p0.N)) then (IA p0 (decide ((⟨#[]⟩ : ByteArray) = p0.S))) else (IA p0 false))))))))
set_option maxRecDepth 100000 in
set_option maxHeartbeats 4000000 in
theorem AJ8 (n : Nat) (p0 : TE) {r : Bool} (hr : Lk n p0 = some r) {K : PV → List Content → Prop} (h : K (.d (.bool r)) st) : Av PR Wn [(.agg [(.d (.int .i64 p0.Op)), (.d (.int .i64 p0.N)), (.d (.str p0.S)), (.d (.str p0.Name)), (.d (.str p0.Src)), (.d (.sl (List.map TE.row p0.Args)))])] st K := by
 refine Av.of AI1 (Nat.le_of_ble_eq_true rfl) fun hwf => ?_
 rw [B5]
 refine AQ ?_
 unfold Aj4
 rw [Lk] at hr
 refine Al (Af ?_)
 unfold Tr
 refine Gq (k := 0) rfl rfl (e_t eh) Bf (by exact rfl) ?_
 refine Ab e_c (Aa (Ae (Al (Af ?_))))
 unfold UV
 refine AB (e_t (em rfl eh)) (by exact rfl) ?_
 refine Ap (e_t eh) ((Am rfl 0).trans rfl) (by exact rfl) ?_
 refine AJ (Ar (e_t eh) AF AM) ?_
 refine Ap3 p0.Op rfl ?_
 refine Ab (e_t eh) ?_
 refine HP (e_t eh) (by exact rfl) ?_
 refine HP (e_t (em rfl eh)) (by exact rfl) ?_
 refine Ab (e_t (em rfl eh)) (Ab (e_t (em rfl eh)) (Aa (Ae (Al (Af ?_)))))
 unfold U0
 refine Ab e_c (Aa (Ae (Al (Af ?_))))
 unfold Vu
 refine Cn (k := 1) rfl rfl ?_
 refine Aa (Ae (Al ?_))
 refine AT ?_
 refine Al (Af ?_)
 unfold TD
 refine AB (e_t (Ak rfl (Ac rfl (em rfl eh)))) (by exact rfl) ?_
 refine Ap (e_t eh) ((Am rfl 0).trans rfl) (by exact rfl) ?_
 refine As (e_t eh) e_c (BK ?_)
 refine Ab (e_t eh) (Aa (Ae ?_))
 refine AC (e_t eh) hr (fun hr => ?_) (fun hr => ?_)
 · refine DP (k := 2) rfl rfl ?_
   unfold V7
   refine AB (e_t (Ak rfl (Ad rfl (Ac rfl (em rfl eh))))) (by exact rfl) ?_
   refine Ap (e_t eh) ((Am rfl 0).trans rfl) (by exact rfl) ?_
   refine As (e_t eh) e_c (Ei ?_)
   refine AB (e_t (Aj rfl (Ac rfl eh))) (by exact rfl) ?_
   refine Ap (e_t eh) ((Am rfl 0).trans rfl) (by exact rfl) ?_
   refine Ab (e_t (Ac rfl eh)) ?_
   refine AB (e_t (Ak rfl (Ac rfl eh))) (by exact rfl) ?_
   refine Bl (e_t eh) ((Am rfl 1).trans rfl) (e_t (Ac rfl eh)) A0 rfl (Nat.le_of_ble_eq_true rfl) (by exact rfl) (cells' := [(.d (.int .i64 (0 : Int))), (.d (.int .i64 p0.N)), (.d (.str (⟨#[]⟩ : ByteArray))), (.d (.str (⟨#[]⟩ : ByteArray))), (.d (.str (⟨#[]⟩ : ByteArray))), (.ex [])]) (by exact rfl) (Bo rfl _ _) ?_
   refine Aa ?_
   refine BB ?_
   refine Ae (Al (Af ?_))
   unfold Fc
   refine A1 (fun f st' => ∃ (v1 : Bool), Jv p0 v1 = some r ∧ f 1 = (.ptr (st.length + 0) 0) ∧ f 6 = (.ptr (st.length + 1) 0) ∧ f 93 = (.d (.bool v1)) ∧ st' = st ++ [(.box [(.d (.int .i64 p0.Op)), (.d (.int .i64 p0.N)), (.d (.str p0.S)), (.d (.str p0.Name)), (.d (.str p0.Src)), (.d (.sl (List.map TE.row p0.Args)))]), (.box [(.d (.int .i64 (0 : Int))), (.d (.int .i64 p0.N)), (.d (.str (⟨#[]⟩ : ByteArray))), (.d (.str (⟨#[]⟩ : ByteArray))), (.d (.str (⟨#[]⟩ : ByteArray))), (.ex [])])]) ?_ ?_
   · unfold DX
     refine Ab (e_t (em rfl eh)) (Ab (e_t eh) ?_)
     refine Au eh hr (fun hr => ?_) (fun hr => ?_)
     rotate_left
     · refine Ag eh (Ag (em rfl eh) (Ag (Ac rfl eh) (Ag (Ac rfl (em rfl eh)) (Ag (Ad rfl eh) (Ao (e_t (Ad rfl (em rfl eh))) e_c ?_)))))
       refine Aa ?_
       exact ⟨false, hr, (Aj rfl (Ak rfl (Ad rfl (Ac rfl (em rfl eh))))), (Aj rfl (Ad rfl eh)), eh, rfl⟩
     refine Ai eh ?_
     refine AB (e_t (Ak rfl (Ad rfl (Ac rfl eh)))) (by exact rfl) ?_
     refine Ai (em rfl eh) ?_
     refine Ap (e_t eh) ((Am rfl 1).trans rfl) (by exact rfl) ?_
     refine Ai (Ac rfl eh) ?_
     refine AB (e_t (Aj rfl (Ak rfl (Ac rfl (em rfl eh))))) (by exact rfl) ?_
     refine Ai (Ac rfl (em rfl eh)) ?_
     refine Ap (e_t eh) ((Am rfl 0).trans rfl) (by exact rfl) ?_
     refine Ai (Ad rfl eh) ?_
     refine As (e_t (Ac rfl eh)) (e_t eh) (BK ?_)
     refine An (e_t (Ad rfl (em rfl eh))) (e_t eh) (Aa ?_)
     exact ⟨(decide (p0.N = p0.N)), hr, (Aj rfl (Ak rfl (Ad rfl (Ac rfl (em rfl eh))))), (Aj rfl (Ad rfl eh)), eh, rfl⟩
   rintro f st' ⟨v1, hr, h1, h6, h93, rfl⟩
   rw [Jv] at hr
   refine A1 (fun f st' => ∃ (v2 : Bool), Ji p0 v2 = some r ∧ f 1 = (.ptr (st.length + 0) 0) ∧ f 6 = (.ptr (st.length + 1) 0) ∧ f 100 = (.d (.bool v2)) ∧ st' = st ++ [(.box [(.d (.int .i64 p0.Op)), (.d (.int .i64 p0.N)), (.d (.str p0.S)), (.d (.str p0.Name)), (.d (.str p0.Src)), (.d (.sl (List.map TE.row p0.Args)))]), (.box [(.d (.int .i64 (0 : Int))), (.d (.int .i64 p0.N)), (.d (.str (⟨#[]⟩ : ByteArray))), (.d (.str (⟨#[]⟩ : ByteArray))), (.d (.str (⟨#[]⟩ : ByteArray))), (.ex [])])]) ?_ ?_
   · unfold Eb
     refine Ab (e_t h93) ?_
     refine Au eh hr (fun hr => ?_) (fun hr => ?_)
     rotate_left
     · refine Ag eh (Ag (em rfl eh) (Ag (Ac rfl eh) (Ag (Ac rfl (em rfl eh)) (Ag (Ad rfl eh) (Ao (e_t (Ad rfl (em rfl eh))) e_c ?_)))))
       refine Aa ?_
       exact ⟨false, hr, (Ad rfl (Ad rfl h1)), (Ad rfl (Ad rfl h6)), eh, rfl⟩
     refine Ai eh ?_
     refine AB (e_t (Ac rfl h6)) (by exact rfl) ?_
     refine Ai (em rfl eh) ?_
     refine Ap (e_t eh) ((Am rfl 1).trans rfl) (by exact rfl) ?_
     refine Ai (Ac rfl eh) ?_
     refine AB (e_t (Ad rfl h1)) (by exact rfl) ?_
     refine Ai (Ac rfl (em rfl eh)) ?_
     refine Ap (e_t eh) ((Am rfl 0).trans rfl) (by exact rfl) ?_
     refine Ai (Ad rfl eh) ?_
     refine As (e_t (Ac rfl eh)) (e_t eh) (Dg ?_)
     refine An (e_t (Ad rfl (em rfl eh))) (e_t eh) (Aa ?_)
     exact ⟨(decide ((⟨#[]⟩ : ByteArray) = p0.S)), hr, (Ad rfl (Ad rfl h1)), (Ad rfl (Ad rfl h6)), eh, rfl⟩
   rintro f st' ⟨v2, hr, h1, h6, h100, rfl⟩
   rw [Ji] at hr
   refine A1 (fun f st' => ∃ (v3 : Bool), JC p0 v3 = some r ∧ f 1 = (.ptr (st.length + 0) 0) ∧ f 6 = (.ptr (st.length + 1) 0) ∧ f 107 = (.d (.bool v3)) ∧ st' = st ++ [(.box [(.d (.int .i64 p0.Op)), (.d (.int .i64 p0.N)), (.d (.str p0.S)), (.d (.str p0.Name)), (.d (.str p0.Src)), (.d (.sl (List.map TE.row p0.Args)))]), (.box [(.d (.int .i64 (0 : Int))), (.d (.int .i64 p0.N)), (.d (.str (⟨#[]⟩ : ByteArray))), (.d (.str (⟨#[]⟩ : ByteArray))), (.d (.str (⟨#[]⟩ : ByteArray))), (.ex [])])]) ?_ ?_
   · unfold Ea
     refine Ab (e_t h100) ?_
     refine Au eh hr (fun hr => ?_) (fun hr => ?_)
     rotate_left
     · refine Ag eh (Ag (em rfl eh) (Ag (Ac rfl eh) (Ag (Ac rfl (em rfl eh)) (Ag (Ad rfl eh) (Ao (e_t (Ad rfl (em rfl eh))) e_c ?_)))))
       refine Aa ?_
       exact ⟨false, hr, (Ad rfl (Ad rfl h1)), (Ad rfl (Ad rfl h6)), eh, rfl⟩
     refine Ai eh ?_
     refine AB (e_t (Ac rfl h6)) (by exact rfl) ?_
     refine Ai (em rfl eh) ?_
     refine Ap (e_t eh) ((Am rfl 1).trans rfl) (by exact rfl) ?_
     refine Ai (Ac rfl eh) ?_
     refine AB (e_t (Ad rfl h1)) (by exact rfl) ?_
     refine Ai (Ac rfl (em rfl eh)) ?_
     refine Ap (e_t eh) ((Am rfl 0).trans rfl) (by exact rfl) ?_
     refine Ai (Ad rfl eh) ?_
     refine As (e_t (Ac rfl eh)) (e_t eh) (Dg ?_)
     refine An (e_t (Ad rfl (em rfl eh))) (e_t eh) (Aa ?_)
     exact ⟨(decide ((⟨#[]⟩ : ByteArray) = p0.Name)), hr, (Ad rfl (Ad rfl h1)), (Ad rfl (Ad rfl h6)), eh, rfl⟩
   rintro f st' ⟨v3, hr, h1, h6, h107, rfl⟩
   rw [JC] at hr
   refine Bn ?_
   unfold DW
   refine Ab (e_t h107) ?_
   refine Au eh hr (fun hr => ?_) (fun hr => ?_)
   rotate_left
   · refine Ag eh (Ag (em rfl eh) (Ag (Ac rfl eh) (Ag (Ac rfl (em rfl eh)) (Ag (Ad rfl eh) (Ao (e_t (Ad rfl (em rfl eh))) e_c ?_)))))
     refine Aa ?_
     unfold BN
     refine Ab (e_t eh) (Aa (Ae (AI ?_)))
     cases hr
     exact A7 (AG eh AH) (AN AF v_d) (Ay hwf) h
   refine Ai eh ?_
   refine AB (e_t (Ac rfl h6)) (by exact rfl) ?_
   refine Ai (em rfl eh) ?_
   refine Ap (e_t eh) ((Am rfl 1).trans rfl) (by exact rfl) ?_
   refine Ai (Ac rfl eh) ?_
   refine AB (e_t (Ad rfl h1)) (by exact rfl) ?_
   refine Ai (Ac rfl (em rfl eh)) ?_
   refine Ap (e_t eh) ((Am rfl 0).trans rfl) (by exact rfl) ?_
   refine Ai (Ad rfl eh) ?_
   refine As (e_t (Ac rfl eh)) (e_t eh) (Dg ?_)
   refine An (e_t (Ad rfl (em rfl eh))) (e_t eh) (Aa ?_)
   unfold BN
   refine Ab (e_t eh) (Aa (Ae (AI ?_)))
   cases hr
   exact A7 (AG eh AH) (AN AF v_d) (Ay hwf) h
 refine Al (Af ?_)
 unfold UK
 refine AB (e_t (Ak rfl (Ad rfl (Ac rfl (em rfl eh))))) (by exact rfl) ?_
 refine Ap (e_t eh) ((Am rfl 0).trans rfl) (by exact rfl) ?_
 refine As (e_t eh) e_c (BK ?_)
 refine Ab (e_t eh) (Aa (Ae ?_))
 refine AC (e_t eh) hr (fun hr => ?_) (fun hr => ?_)
 · refine DP (k := 2) rfl rfl ?_
   unfold U3
   refine AB (e_t (Aj rfl (Ac rfl (em rfl eh)))) (by exact rfl) ?_
   refine Ap (e_t eh) ((Am rfl 0).trans rfl) (by exact rfl) ?_
   refine Ij (e_t eh) ?_
   refine As (e_t eh) e_c (JI ?_)
   refine AB (e_t (Aj rfl (Ad rfl (Ac rfl (em rfl eh))))) (by exact rfl) ?_
   refine Ap (e_t eh) ((Am rfl 0).trans rfl) (by exact rfl) ?_
   refine Ab (e_t (Ac rfl eh)) ?_
   refine AB (e_t (Ak rfl (Ad rfl (Ac rfl (em rfl eh))))) (by exact rfl) ?_
   refine Bl (e_t eh) ((Am rfl 1).trans rfl) (e_t (Ac rfl eh)) A0 rfl (Nat.le_of_ble_eq_true rfl) (by exact rfl) (cells' := [(.d (.int .i64 (0 : Int))), (.d (.int .i64 (0 : Int))), (.d (.str p0.S)), (.d (.str (⟨#[]⟩ : ByteArray))), (.d (.str (⟨#[]⟩ : ByteArray))), (.ex [])]) (by exact rfl) (Bo rfl _ _) ?_
   refine Aa ?_
   refine BB ?_
   refine Ae (Al (Af ?_))
   unfold Fc
   refine A1 (fun f st' => ∃ (v4 : Bool), Jz p0 v4 = some r ∧ f 1 = (.ptr (st.length + 0) 0) ∧ f 6 = (.ptr (st.length + 1) 0) ∧ f 93 = (.d (.bool v4)) ∧ st' = st ++ [(.box [(.d (.int .i64 p0.Op)), (.d (.int .i64 p0.N)), (.d (.str p0.S)), (.d (.str p0.Name)), (.d (.str p0.Src)), (.d (.sl (List.map TE.row p0.Args)))]), (.box [(.d (.int .i64 (0 : Int))), (.d (.int .i64 (0 : Int))), (.d (.str p0.S)), (.d (.str (⟨#[]⟩ : ByteArray))), (.d (.str (⟨#[]⟩ : ByteArray))), (.ex [])])]) ?_ ?_
   · unfold DX
     refine Ab (e_t (em rfl eh)) (Ab (e_t eh) ?_)
     refine Au eh hr (fun hr => ?_) (fun hr => ?_)
     rotate_left
     · refine Ag eh (Ag (em rfl eh) (Ag (Ac rfl eh) (Ag (Ac rfl (em rfl eh)) (Ag (Ad rfl eh) (Ao (e_t (Ad rfl (em rfl eh))) e_c ?_)))))
       refine Aa ?_
       exact ⟨false, hr, (Aj rfl (Aj rfl (Ad rfl eh))), (Aj rfl (Ak rfl (em rfl eh))), eh, rfl⟩
     refine Ai eh ?_
     refine AB (e_t (Aj rfl (Ac rfl (em rfl eh)))) (by exact rfl) ?_
     refine Ai (em rfl eh) ?_
     refine Ap (e_t eh) ((Am rfl 1).trans rfl) (by exact rfl) ?_
     refine Ai (Ac rfl eh) ?_
     refine AB (e_t (Aj rfl (Ak rfl (Ad rfl (Ad rfl eh))))) (by exact rfl) ?_
     refine Ai (Ac rfl (em rfl eh)) ?_
     refine Ap (e_t eh) ((Am rfl 0).trans rfl) (by exact rfl) ?_
     refine Ai (Ad rfl eh) ?_
     refine As (e_t (Ac rfl eh)) (e_t eh) (BK ?_)
     refine An (e_t (Ad rfl (em rfl eh))) (e_t eh) (Aa ?_)
     exact ⟨(decide ((0 : Int) = p0.N)), hr, (Aj rfl (Aj rfl (Ad rfl eh))), (Aj rfl (Ak rfl (em rfl eh))), eh, rfl⟩
   rintro f st' ⟨v4, hr, h1, h6, h93, rfl⟩
   rw [Jz] at hr
   refine A1 (fun f st' => ∃ (v5 : Bool), JP p0 v5 = some r ∧ f 1 = (.ptr (st.length + 0) 0) ∧ f 6 = (.ptr (st.length + 1) 0) ∧ f 100 = (.d (.bool v5)) ∧ st' = st ++ [(.box [(.d (.int .i64 p0.Op)), (.d (.int .i64 p0.N)), (.d (.str p0.S)), (.d (.str p0.Name)), (.d (.str p0.Src)), (.d (.sl (List.map TE.row p0.Args)))]), (.box [(.d (.int .i64 (0 : Int))), (.d (.int .i64 (0 : Int))), (.d (.str p0.S)), (.d (.str (⟨#[]⟩ : ByteArray))), (.d (.str (⟨#[]⟩ : ByteArray))), (.ex [])])]) ?_ ?_
   · unfold Eb
     refine Ab (e_t h93) ?_
     refine Au eh hr (fun hr => ?_) (fun hr => ?_)
     rotate_left
     · refine Ag eh (Ag (em rfl eh) (Ag (Ac rfl eh) (Ag (Ac rfl (em rfl eh)) (Ag (Ad rfl eh) (Ao (e_t (Ad rfl (em rfl eh))) e_c ?_)))))
       refine Aa ?_
       exact ⟨false, hr, (Ad rfl (Ad rfl h1)), (Ad rfl (Ad rfl h6)), eh, rfl⟩
     refine Ai eh ?_
     refine AB (e_t (Ac rfl h6)) (by exact rfl) ?_
     refine Ai (em rfl eh) ?_
     refine Ap (e_t eh) ((Am rfl 1).trans rfl) (by exact rfl) ?_
     refine Ai (Ac rfl eh) ?_
     refine AB (e_t (Ad rfl h1)) (by exact rfl) ?_
     refine Ai (Ac rfl (em rfl eh)) ?_
     refine Ap (e_t eh) ((Am rfl 0).trans rfl) (by exact rfl) ?_
     refine Ai (Ad rfl eh) ?_
     refine As (e_t (Ac rfl eh)) (e_t eh) (Dg ?_)
     refine An (e_t (Ad rfl (em rfl eh))) (e_t eh) (Aa ?_)
     exact ⟨(decide (p0.S = p0.S)), hr, (Ad rfl (Ad rfl h1)), (Ad rfl (Ad rfl h6)), eh, rfl⟩
   rintro f st' ⟨v5, hr, h1, h6, h100, rfl⟩
   rw [JP] at hr
   refine A1 (fun f st' => ∃ (v6 : Bool), Jn p0 v6 = some r ∧ f 1 = (.ptr (st.length + 0) 0) ∧ f 6 = (.ptr (st.length + 1) 0) ∧ f 107 = (.d (.bool v6)) ∧ st' = st ++ [(.box [(.d (.int .i64 p0.Op)), (.d (.int .i64 p0.N)), (.d (.str p0.S)), (.d (.str p0.Name)), (.d (.str p0.Src)), (.d (.sl (List.map TE.row p0.Args)))]), (.box [(.d (.int .i64 (0 : Int))), (.d (.int .i64 (0 : Int))), (.d (.str p0.S)), (.d (.str (⟨#[]⟩ : ByteArray))), (.d (.str (⟨#[]⟩ : ByteArray))), (.ex [])])]) ?_ ?_
   · unfold Ea
     refine Ab (e_t h100) ?_
     refine Au eh hr (fun hr => ?_) (fun hr => ?_)
     rotate_left
     · refine Ag eh (Ag (em rfl eh) (Ag (Ac rfl eh) (Ag (Ac rfl (em rfl eh)) (Ag (Ad rfl eh) (Ao (e_t (Ad rfl (em rfl eh))) e_c ?_)))))
       refine Aa ?_
       exact ⟨false, hr, (Ad rfl (Ad rfl h1)), (Ad rfl (Ad rfl h6)), eh, rfl⟩
     refine Ai eh ?_
     refine AB (e_t (Ac rfl h6)) (by exact rfl) ?_
     refine Ai (em rfl eh) ?_
     refine Ap (e_t eh) ((Am rfl 1).trans rfl) (by exact rfl) ?_
     refine Ai (Ac rfl eh) ?_
     refine AB (e_t (Ad rfl h1)) (by exact rfl) ?_
     refine Ai (Ac rfl (em rfl eh)) ?_
     refine Ap (e_t eh) ((Am rfl 0).trans rfl) (by exact rfl) ?_
     refine Ai (Ad rfl eh) ?_
     refine As (e_t (Ac rfl eh)) (e_t eh) (Dg ?_)
     refine An (e_t (Ad rfl (em rfl eh))) (e_t eh) (Aa ?_)
     exact ⟨(decide ((⟨#[]⟩ : ByteArray) = p0.Name)), hr, (Ad rfl (Ad rfl h1)), (Ad rfl (Ad rfl h6)), eh, rfl⟩
   rintro f st' ⟨v6, hr, h1, h6, h107, rfl⟩
   rw [Jn] at hr
   refine Bn ?_
   unfold DW
   refine Ab (e_t h107) ?_
   refine Au eh hr (fun hr => ?_) (fun hr => ?_)
   rotate_left
   · refine Ag eh (Ag (em rfl eh) (Ag (Ac rfl eh) (Ag (Ac rfl (em rfl eh)) (Ag (Ad rfl eh) (Ao (e_t (Ad rfl (em rfl eh))) e_c ?_)))))
     refine Aa ?_
     unfold BN
     refine Ab (e_t eh) (Aa (Ae (AI ?_)))
     cases hr
     exact A7 (AG eh AH) (AN AF v_d) (Ay hwf) h
   refine Ai eh ?_
   refine AB (e_t (Ac rfl h6)) (by exact rfl) ?_
   refine Ai (em rfl eh) ?_
   refine Ap (e_t eh) ((Am rfl 1).trans rfl) (by exact rfl) ?_
   refine Ai (Ac rfl eh) ?_
   refine AB (e_t (Ad rfl h1)) (by exact rfl) ?_
   refine Ai (Ac rfl (em rfl eh)) ?_
   refine Ap (e_t eh) ((Am rfl 0).trans rfl) (by exact rfl) ?_
   refine Ai (Ad rfl eh) ?_
   refine As (e_t (Ac rfl eh)) (e_t eh) (Dg ?_)
   refine An (e_t (Ad rfl (em rfl eh))) (e_t eh) (Aa ?_)
   unfold BN
   refine Ab (e_t eh) (Aa (Ae (AI ?_)))
   cases hr
   exact A7 (AG eh AH) (AN AF v_d) (Ay hwf) h
 refine Al (Af ?_)
 unfold Vm
 refine AB (e_t (Aj rfl (Ac rfl (em rfl eh)))) (by exact rfl) ?_
 refine Ap (e_t eh) ((Am rfl 0).trans rfl) (by exact rfl) ?_
 refine As (e_t eh) e_c (BK ?_)
 refine Ab (e_t eh) (Aa (Ae ?_))
 refine AC (e_t eh) hr (fun hr => ?_) (fun hr => ?_)
 · refine DP (k := 2) rfl rfl ?_
   unfold TO
   refine AB (e_t (Aj rfl (Ad rfl (Ac rfl (em rfl eh))))) (by exact rfl) ?_
   refine Ap (e_t eh) ((Am rfl 0).trans rfl) (by exact rfl) ?_
   refine As (e_t eh) e_c (AZ0 (by decide) ?_)
   refine As (e_t eh) e_c (BK ?_)
   refine AB (e_t (Aj rfl (Ak rfl (Ac rfl (em rfl eh))))) (by exact rfl) ?_
   refine Ap (e_t eh) ((Am rfl 0).trans rfl) (by exact rfl) ?_
   refine Ab (e_t (Ac rfl eh)) ?_
   refine AB (e_t (Aj rfl (Ac rfl (em rfl eh)))) (by exact rfl) ?_
   refine Bl (e_t eh) ((Am rfl 1).trans rfl) (e_t (Ac rfl eh)) A0 rfl (Nat.le_of_ble_eq_true rfl) (by exact rfl) (cells' := [(.d (.int .i64 (0 : Int))), (.d (.int .i64 p0.N)), (.d (.str (⟨#[]⟩ : ByteArray))), (.d (.str (⟨#[]⟩ : ByteArray))), (.d (.str (⟨#[]⟩ : ByteArray))), (.ex [])]) (by exact rfl) (Bo rfl _ _) ?_
   refine Aa ?_
   refine BB ?_
   refine Ae (Al (Af ?_))
   unfold Fc
   refine A1 (fun f st' => ∃ (v7 : Bool), JM p0 v7 = some r ∧ f 1 = (.ptr (st.length + 0) 0) ∧ f 6 = (.ptr (st.length + 1) 0) ∧ f 93 = (.d (.bool v7)) ∧ st' = st ++ [(.box [(.d (.int .i64 p0.Op)), (.d (.int .i64 p0.N)), (.d (.str p0.S)), (.d (.str p0.Name)), (.d (.str p0.Src)), (.d (.sl (List.map TE.row p0.Args)))]), (.box [(.d (.int .i64 (0 : Int))), (.d (.int .i64 p0.N)), (.d (.str (⟨#[]⟩ : ByteArray))), (.d (.str (⟨#[]⟩ : ByteArray))), (.d (.str (⟨#[]⟩ : ByteArray))), (.ex [])])]) ?_ ?_
   · unfold DX
     refine Ab (e_t (em rfl eh)) (Ab (e_t eh) ?_)
     refine Au eh hr (fun hr => ?_) (fun hr => ?_)
     rotate_left
     · refine Ag eh (Ag (em rfl eh) (Ag (Ac rfl eh) (Ag (Ac rfl (em rfl eh)) (Ag (Ad rfl eh) (Ao (e_t (Ad rfl (em rfl eh))) e_c ?_)))))
       refine Aa ?_
       exact ⟨false, hr, (Aj rfl (Aj rfl (Ad rfl (Ad rfl eh)))), (Aj rfl (Ak rfl (Ad rfl (em rfl eh)))), eh, rfl⟩
     refine Ai eh ?_
     refine AB (e_t (Aj rfl (Ad rfl (Ac rfl (em rfl eh))))) (by exact rfl) ?_
     refine Ai (em rfl eh) ?_
     refine Ap (e_t eh) ((Am rfl 1).trans rfl) (by exact rfl) ?_
     refine Ai (Ac rfl eh) ?_
     refine AB (e_t (Aj rfl (Aj rfl (Ad rfl eh)))) (by exact rfl) ?_
     refine Ai (Ac rfl (em rfl eh)) ?_
     refine Ap (e_t eh) ((Am rfl 0).trans rfl) (by exact rfl) ?_
     refine Ai (Ad rfl eh) ?_
     refine As (e_t (Ac rfl eh)) (e_t eh) (BK ?_)
     refine An (e_t (Ad rfl (em rfl eh))) (e_t eh) (Aa ?_)
     exact ⟨(decide (p0.N = p0.N)), hr, (Aj rfl (Aj rfl (Ad rfl (Ad rfl eh)))), (Aj rfl (Ak rfl (Ad rfl (em rfl eh)))), eh, rfl⟩
   rintro f st' ⟨v7, hr, h1, h6, h93, rfl⟩
   rw [JM] at hr
   refine A1 (fun f st' => ∃ (v8 : Bool), JS p0 v8 = some r ∧ f 1 = (.ptr (st.length + 0) 0) ∧ f 6 = (.ptr (st.length + 1) 0) ∧ f 100 = (.d (.bool v8)) ∧ st' = st ++ [(.box [(.d (.int .i64 p0.Op)), (.d (.int .i64 p0.N)), (.d (.str p0.S)), (.d (.str p0.Name)), (.d (.str p0.Src)), (.d (.sl (List.map TE.row p0.Args)))]), (.box [(.d (.int .i64 (0 : Int))), (.d (.int .i64 p0.N)), (.d (.str (⟨#[]⟩ : ByteArray))), (.d (.str (⟨#[]⟩ : ByteArray))), (.d (.str (⟨#[]⟩ : ByteArray))), (.ex [])])]) ?_ ?_
   · unfold Eb
     refine Ab (e_t h93) ?_
     refine Au eh hr (fun hr => ?_) (fun hr => ?_)
     rotate_left
     · refine Ag eh (Ag (em rfl eh) (Ag (Ac rfl eh) (Ag (Ac rfl (em rfl eh)) (Ag (Ad rfl eh) (Ao (e_t (Ad rfl (em rfl eh))) e_c ?_)))))
       refine Aa ?_
       exact ⟨false, hr, (Ad rfl (Ad rfl h1)), (Ad rfl (Ad rfl h6)), eh, rfl⟩
     refine Ai eh ?_
     refine AB (e_t (Ac rfl h6)) (by exact rfl) ?_
     refine Ai (em rfl eh) ?_
     refine Ap (e_t eh) ((Am rfl 1).trans rfl) (by exact rfl) ?_
     refine Ai (Ac rfl eh) ?_
     refine AB (e_t (Ad rfl h1)) (by exact rfl) ?_
     refine Ai (Ac rfl (em rfl eh)) ?_
     refine Ap (e_t eh) ((Am rfl 0).trans rfl) (by exact rfl) ?_
     refine Ai (Ad rfl eh) ?_
     refine As (e_t (Ac rfl eh)) (e_t eh) (Dg ?_)
     refine An (e_t (Ad rfl (em rfl eh))) (e_t eh) (Aa ?_)
     exact ⟨(decide ((⟨#[]⟩ : ByteArray) = p0.S)), hr, (Ad rfl (Ad rfl h1)), (Ad rfl (Ad rfl h6)), eh, rfl⟩
   rintro f st' ⟨v8, hr, h1, h6, h100, rfl⟩
   rw [JS] at hr
   refine A1 (fun f st' => ∃ (v9 : Bool), JY p0 v9 = some r ∧ f 1 = (.ptr (st.length + 0) 0) ∧ f 6 = (.ptr (st.length + 1) 0) ∧ f 107 = (.d (.bool v9)) ∧ st' = st ++ [(.box [(.d (.int .i64 p0.Op)), (.d (.int .i64 p0.N)), (.d (.str p0.S)), (.d (.str p0.Name)), (.d (.str p0.Src)), (.d (.sl (List.map TE.row p0.Args)))]), (.box [(.d (.int .i64 (0 : Int))), (.d (.int .i64 p0.N)), (.d (.str (⟨#[]⟩ : ByteArray))), (.d (.str (⟨#[]⟩ : ByteArray))), (.d (.str (⟨#[]⟩ : ByteArray))), (.ex [])])]) ?_ ?_
   · unfold Ea
     refine Ab (e_t h100) ?_
     refine Au eh hr (fun hr => ?_) (fun hr => ?_)
     rotate_left
     · refine Ag eh (Ag (em rfl eh) (Ag (Ac rfl eh) (Ag (Ac rfl (em rfl eh)) (Ag (Ad rfl eh) (Ao (e_t (Ad rfl (em rfl eh))) e_c ?_)))))
       refine Aa ?_
       exact ⟨false, hr, (Ad rfl (Ad rfl h1)), (Ad rfl (Ad rfl h6)), eh, rfl⟩
     refine Ai eh ?_
     refine AB (e_t (Ac rfl h6)) (by exact rfl) ?_
     refine Ai (em rfl eh) ?_
     refine Ap (e_t eh) ((Am rfl 1).trans rfl) (by exact rfl) ?_
     refine Ai (Ac rfl eh) ?_
     refine AB (e_t (Ad rfl h1)) (by exact rfl) ?_
     refine Ai (Ac rfl (em rfl eh)) ?_
     refine Ap (e_t eh) ((Am rfl 0).trans rfl) (by exact rfl) ?_
     refine Ai (Ad rfl eh) ?_
     refine As (e_t (Ac rfl eh)) (e_t eh) (Dg ?_)
     refine An (e_t (Ad rfl (em rfl eh))) (e_t eh) (Aa ?_)
     exact ⟨(decide ((⟨#[]⟩ : ByteArray) = p0.Name)), hr, (Ad rfl (Ad rfl h1)), (Ad rfl (Ad rfl h6)), eh, rfl⟩
   rintro f st' ⟨v9, hr, h1, h6, h107, rfl⟩
   rw [JY] at hr
   refine Bn ?_
   unfold DW
   refine Ab (e_t h107) ?_
   refine Au eh hr (fun hr => ?_) (fun hr => ?_)
   rotate_left
   · refine Ag eh (Ag (em rfl eh) (Ag (Ac rfl eh) (Ag (Ac rfl (em rfl eh)) (Ag (Ad rfl eh) (Ao (e_t (Ad rfl (em rfl eh))) e_c ?_)))))
     refine Aa ?_
     unfold BN
     refine Ab (e_t eh) (Aa (Ae (AI ?_)))
     cases hr
     exact A7 (AG eh AH) (AN AF v_d) (Ay hwf) h
   refine Ai eh ?_
   refine AB (e_t (Ac rfl h6)) (by exact rfl) ?_
   refine Ai (em rfl eh) ?_
   refine Ap (e_t eh) ((Am rfl 1).trans rfl) (by exact rfl) ?_
   refine Ai (Ac rfl eh) ?_
   refine AB (e_t (Ad rfl h1)) (by exact rfl) ?_
   refine Ai (Ac rfl (em rfl eh)) ?_
   refine Ap (e_t eh) ((Am rfl 0).trans rfl) (by exact rfl) ?_
   refine Ai (Ad rfl eh) ?_
   refine As (e_t (Ac rfl eh)) (e_t eh) (Dg ?_)
   refine An (e_t (Ad rfl (em rfl eh))) (e_t eh) (Aa ?_)
   unfold BN
   refine Ab (e_t eh) (Aa (Ae (AI ?_)))
   cases hr
   exact A7 (AG eh AH) (AN AF v_d) (Ay hwf) h
 refine Al (Af ?_)
 unfold SI
 refine AB (e_t (Aj rfl (Ad rfl (Ac rfl (em rfl eh))))) (by exact rfl) ?_
 refine Ap (e_t eh) ((Am rfl 0).trans rfl) (by exact rfl) ?_
 refine As (e_t eh) e_c (BK ?_)
 refine Ab (e_t eh) (Aa (Ae ?_))
 refine AC (e_t eh) hr (fun hr => ?_) (fun hr => ?_)
 · refine HX (k := 2) rfl rfl ?_
   unfold Sl
   refine Ah (R := []) rfl rfl (AB (e_t (Aj rfl (Ak rfl (Ac rfl (em rfl eh))))) (by exact rfl) (Aa ?_))
   refine Ah rfl (BL (e_t eh)) (Ap (e_t eh) ((Am rfl 0).trans rfl) (by exact rfl) (Aa ?_))
   refine Ah rfl (Vw (e_t eh) (by exact rfl) AC4) (Db (rows := List.map rS [p0.Name]) ((AE (e_t eh) A0 (Aw f_d AL) rfl Eg)) (Aa ?_))
   obtain ⟨v10, hc_v10, hr⟩ := bind_some hr
   refine Gg (Ar (e_t eh) K0 AM) (Cf (e_t eh) (by exact rfl) FL) (fun st2 => La n ([p0.Name]) hc_v10 ⟨rfl, rfl⟩) ?_
   refine Ah (R := []) rfl rfl (AB (e_t (Aj rfl (Ak rfl (Ad rfl (Ac rfl (em rfl eh)))))) (by exact rfl) (Aa ?_))
   refine Ah rfl (BL (e_t eh)) (Ap (e_t eh) ((Am rfl 0).trans rfl) (by exact rfl) (Aa ?_))
   refine Ah (R := []) rfl rfl (Ab (e_t (Ac rfl eh)) (Aa ?_))
   refine Ah (R := []) rfl rfl (AB (e_t (Aj rfl (Ad rfl (Ac rfl (em rfl eh))))) (by exact rfl) (Aa ?_))
   refine JW (e_t eh) ((Am rfl 1).trans rfl) (e_t (Ac rfl eh)) A0 rfl (Nat.le_of_ble_eq_true rfl) (by exact rfl) (cells' := [(.d (.int .i64 (0 : Int))), (.d (.int .i64 (0 : Int))), (.d (.str (⟨#[]⟩ : ByteArray))), (.d (.str p0.Name)), (.d (.str (⟨#[]⟩ : ByteArray))), (.ex [])]) (by exact rfl) (Bo rfl _ _) ?_
   refine BJ ?_
   refine ⟨by simp [B2, okPairs, BZ, Ga], ?_⟩
   refine BB ?_
   refine Ae (Al (Af ?_))
   unfold Fc
   refine A1 (fun f st' => ∃ (v11 : Bool), JO p0 v11 = some r ∧ f 1 = (.ptr (st.length + 0) 0) ∧ f 6 = (.ptr (st.length + 1) 0) ∧ f 93 = (.d (.bool v11)) ∧ st' = st ++ [(.box [(.d (.int .i64 p0.Op)), (.d (.int .i64 p0.N)), (.d (.str p0.S)), (.d (.str p0.Name)), (.d (.str p0.Src)), (.d (.sl (List.map TE.row p0.Args)))]), (.box [(.d (.int .i64 (0 : Int))), (.d (.int .i64 (0 : Int))), (.d (.str (⟨#[]⟩ : ByteArray))), (.d (.str p0.Name)), (.d (.str (⟨#[]⟩ : ByteArray))), (.ex [])]), .fresh]) ?_ ?_
   · unfold DX
     refine Ab (e_t (em rfl eh)) (Ab (e_t eh) ?_)
     refine Au eh hr (fun hr => ?_) (fun hr => ?_)
     rotate_left
     · refine Ag eh (Ag (em rfl eh) (Ag (Ac rfl eh) (Ag (Ac rfl (em rfl eh)) (Ag (Ad rfl eh) (Ao (e_t (Ad rfl (em rfl eh))) e_c ?_)))))
       refine Aa ?_
       exact ⟨false, hr, (Aj rfl (Aj rfl (Ak rfl (Ad rfl eh)))), (Aj rfl (Aj rfl (em rfl eh))), eh, rfl⟩
     refine Ai eh ?_
     refine AB (e_t (Aj rfl (Ak rfl (Ac rfl (em rfl eh))))) (by exact rfl) ?_
     refine Ai (em rfl eh) ?_
     refine Ap (e_t eh) ((Am rfl 1).trans rfl) (by exact rfl) ?_
     refine Ai (Ac rfl eh) ?_
     refine AB (e_t (Aj rfl (Aj rfl (Ad rfl (Ad rfl eh))))) (by exact rfl) ?_
     refine Ai (Ac rfl (em rfl eh)) ?_
     refine Ap (e_t eh) ((Am rfl 0).trans rfl) (by exact rfl) ?_
     refine Ai (Ad rfl eh) ?_
     refine As (e_t (Ac rfl eh)) (e_t eh) (BK ?_)
     refine An (e_t (Ad rfl (em rfl eh))) (e_t eh) (Aa ?_)
     exact ⟨(decide ((0 : Int) = p0.N)), hr, (Aj rfl (Aj rfl (Ak rfl (Ad rfl eh)))), (Aj rfl (Aj rfl (em rfl eh))), eh, rfl⟩
   rintro f st' ⟨v11, hr, h1, h6, h93, rfl⟩
   rw [JO] at hr
   refine A1 (fun f st' => ∃ (v12 : Bool), IH p0 v12 = some r ∧ f 1 = (.ptr (st.length + 0) 0) ∧ f 6 = (.ptr (st.length + 1) 0) ∧ f 100 = (.d (.bool v12)) ∧ st' = st ++ [(.box [(.d (.int .i64 p0.Op)), (.d (.int .i64 p0.N)), (.d (.str p0.S)), (.d (.str p0.Name)), (.d (.str p0.Src)), (.d (.sl (List.map TE.row p0.Args)))]), (.box [(.d (.int .i64 (0 : Int))), (.d (.int .i64 (0 : Int))), (.d (.str (⟨#[]⟩ : ByteArray))), (.d (.str p0.Name)), (.d (.str (⟨#[]⟩ : ByteArray))), (.ex [])]), .fresh]) ?_ ?_
   · unfold Eb
     refine Ab (e_t h93) ?_
     refine Au eh hr (fun hr => ?_) (fun hr => ?_)
     rotate_left
     · refine Ag eh (Ag (em rfl eh) (Ag (Ac rfl eh) (Ag (Ac rfl (em rfl eh)) (Ag (Ad rfl eh) (Ao (e_t (Ad rfl (em rfl eh))) e_c ?_)))))
       refine Aa ?_
       exact ⟨false, hr, (Ad rfl (Ad rfl h1)), (Ad rfl (Ad rfl h6)), eh, rfl⟩
     refine Ai eh ?_
     refine AB (e_t (Ac rfl h6)) (by exact rfl) ?_
     refine Ai (em rfl eh) ?_
     refine Ap (e_t eh) ((Am rfl 1).trans rfl) (by exact rfl) ?_
     refine Ai (Ac rfl eh) ?_
     refine AB (e_t (Ad rfl h1)) (by exact rfl) ?_
     refine Ai (Ac rfl (em rfl eh)) ?_
     refine Ap (e_t eh) ((Am rfl 0).trans rfl) (by exact rfl) ?_
     refine Ai (Ad rfl eh) ?_
     refine As (e_t (Ac rfl eh)) (e_t eh) (Dg ?_)
     refine An (e_t (Ad rfl (em rfl eh))) (e_t eh) (Aa ?_)
     exact ⟨(decide ((⟨#[]⟩ : ByteArray) = p0.S)), hr, (Ad rfl (Ad rfl h1)), (Ad rfl (Ad rfl h6)), eh, rfl⟩
   rintro f st' ⟨v12, hr, h1, h6, h100, rfl⟩
   rw [IH] at hr
   refine A1 (fun f st' => ∃ (v13 : Bool), IF p0 v13 = some r ∧ f 1 = (.ptr (st.length + 0) 0) ∧ f 6 = (.ptr (st.length + 1) 0) ∧ f 107 = (.d (.bool v13)) ∧ st' = st ++ [(.box [(.d (.int .i64 p0.Op)), (.d (.int .i64 p0.N)), (.d (.str p0.S)), (.d (.str p0.Name)), (.d (.str p0.Src)), (.d (.sl (List.map TE.row p0.Args)))]), (.box [(.d (.int .i64 (0 : Int))), (.d (.int .i64 (0 : Int))), (.d (.str (⟨#[]⟩ : ByteArray))), (.d (.str p0.Name)), (.d (.str (⟨#[]⟩ : ByteArray))), (.ex [])]), .fresh]) ?_ ?_
   · unfold Ea
     refine Ab (e_t h100) ?_
     refine Au eh hr (fun hr => ?_) (fun hr => ?_)
     rotate_left
     · refine Ag eh (Ag (em rfl eh) (Ag (Ac rfl eh) (Ag (Ac rfl (em rfl eh)) (Ag (Ad rfl eh) (Ao (e_t (Ad rfl (em rfl eh))) e_c ?_)))))
       refine Aa ?_
       exact ⟨false, hr, (Ad rfl (Ad rfl h1)), (Ad rfl (Ad rfl h6)), eh, rfl⟩
     refine Ai eh ?_
     refine AB (e_t (Ac rfl h6)) (by exact rfl) ?_
     refine Ai (em rfl eh) ?_
     refine Ap (e_t eh) ((Am rfl 1).trans rfl) (by exact rfl) ?_
     refine Ai (Ac rfl eh) ?_
     refine AB (e_t (Ad rfl h1)) (by exact rfl) ?_
     refine Ai (Ac rfl (em rfl eh)) ?_
     refine Ap (e_t eh) ((Am rfl 0).trans rfl) (by exact rfl) ?_
     refine Ai (Ad rfl eh) ?_
     refine As (e_t (Ac rfl eh)) (e_t eh) (Dg ?_)
     refine An (e_t (Ad rfl (em rfl eh))) (e_t eh) (Aa ?_)
     exact ⟨(decide (p0.Name = p0.Name)), hr, (Ad rfl (Ad rfl h1)), (Ad rfl (Ad rfl h6)), eh, rfl⟩
   rintro f st' ⟨v13, hr, h1, h6, h107, rfl⟩
   rw [IF] at hr
   refine Bn ?_
   unfold DW
   refine Ab (e_t h107) ?_
   refine Au eh hr (fun hr => ?_) (fun hr => ?_)
   rotate_left
   · refine Ag eh (Ag (em rfl eh) (Ag (Ac rfl eh) (Ag (Ac rfl (em rfl eh)) (Ag (Ad rfl eh) (Ao (e_t (Ad rfl (em rfl eh))) e_c ?_)))))
     refine Aa ?_
     unfold BN
     refine Ab (e_t eh) (Aa (Ae (AI ?_)))
     cases hr
     exact A7 (AG eh AH) (AN AF v_d) (Ay hwf) h
   refine Ai eh ?_
   refine AB (e_t (Ac rfl h6)) (by exact rfl) ?_
   refine Ai (em rfl eh) ?_
   refine Ap (e_t eh) ((Am rfl 1).trans rfl) (by exact rfl) ?_
   refine Ai (Ac rfl eh) ?_
   refine AB (e_t (Ad rfl h1)) (by exact rfl) ?_
   refine Ai (Ac rfl (em rfl eh)) ?_
   refine Ap (e_t eh) ((Am rfl 0).trans rfl) (by exact rfl) ?_
   refine Ai (Ad rfl eh) ?_
   refine As (e_t (Ac rfl eh)) (e_t eh) (Dg ?_)
   refine An (e_t (Ad rfl (em rfl eh))) (e_t eh) (Aa ?_)
   unfold BN
   refine Ab (e_t eh) (Aa (Ae (AI ?_)))
   cases hr
   exact A7 (AG eh AH) (AN AF v_d) (Ay hwf) h
 refine Al (Af ?_)
 unfold Ss
 refine AB (e_t (Aj rfl (Ak rfl (Ac rfl (em rfl eh))))) (by exact rfl) ?_
 refine Ap (e_t eh) ((Am rfl 0).trans rfl) (by exact rfl) ?_
 refine As (e_t eh) e_c (BK ?_)
 refine Ab (e_t eh) (Aa (Ae ?_))
 refine AC (e_t eh) hr (fun hr => ?_) (fun hr => ?_)
 · refine HX (k := 2) rfl rfl ?_
   unfold Sk
   refine Ah (R := []) rfl rfl (AB (e_t (Aj rfl (Ak rfl (Ad rfl (Ac rfl (em rfl eh)))))) (by exact rfl) (Aa ?_))
   refine Ah rfl (BL (e_t eh)) (Ap (e_t eh) ((Am rfl 0).trans rfl) (by exact rfl) (Aa ?_))
   refine Ah (R := []) rfl rfl (AB (e_t (Aj rfl (Aj rfl (em rfl eh)))) (by exact rfl) (Aa ?_))
   refine Ah rfl (BL (e_t eh)) (Ap (e_t eh) ((Am rfl 0).trans rfl) (by exact rfl) (Aa ?_))
   refine Ah rfl (Vw (e_t (Ac rfl eh)) (by exact rfl) (Vw (e_t eh) (by exact rfl) AC4)) (Db (rows := List.map rS [p0.Name, p0.S]) ((AE (e_t (Ac rfl eh)) A0 (Aw f_d AL) rfl (AE (e_t eh) A0 (Aw f_d AL) rfl Eg))) (Aa ?_))
   obtain ⟨v14, hc_v14, hr⟩ := bind_some hr
   refine Gg (Ar (e_t eh) K0 AM) (Cf (e_t eh) (by exact rfl) FL) (fun st2 => La n ([p0.Name, p0.S]) hc_v14 ⟨rfl, rfl⟩) ?_
   refine Ah (R := []) rfl rfl (AB (e_t (Aj rfl (Aj rfl (Ad rfl (em rfl eh))))) (by exact rfl) (Aa ?_))
   refine Ah rfl (BL (e_t eh)) (Ap (e_t eh) ((Am rfl 0).trans rfl) (by exact rfl) (Aa ?_))
   refine Ah (R := []) rfl rfl (AB (e_t (Aj rfl (Aj rfl (Ad rfl (Ac rfl (em rfl eh)))))) (by exact rfl) (Aa ?_))
   refine Ah rfl (BL (e_t eh)) (Ap (e_t eh) ((Am rfl 0).trans rfl) (by exact rfl) (Aa ?_))
   refine Ah (R := []) rfl rfl (Ab (e_t (Ad rfl eh)) (Aa ?_))
   refine Ah (R := []) rfl rfl (AB (e_t (Aj rfl (Ak rfl (Ad rfl (Ac rfl (em rfl eh)))))) (by exact rfl) (Aa ?_))
   refine JW (e_t eh) ((Am rfl 1).trans rfl) (e_t (Ad rfl eh)) A0 rfl (Nat.le_of_ble_eq_true rfl) (by exact rfl) (cells' := [(.d (.int .i64 (0 : Int))), (.d (.int .i64 (0 : Int))), (.d (.str (⟨#[]⟩ : ByteArray))), (.d (.str p0.Name)), (.d (.str (⟨#[]⟩ : ByteArray))), (.ex [])]) (by exact rfl) (Bo rfl _ _) ?_
   refine Ah (R := []) rfl rfl (AB (e_t (Aj rfl (Ak rfl (Ad rfl (Ad rfl eh))))) (by exact rfl) (Aa ?_))
   refine JW (e_t eh) ((Am rfl 1).trans rfl) (e_t (Ac rfl (em rfl eh))) A0 rfl (Nat.le_of_ble_eq_true rfl) (by exact rfl) (cells' := [(.d (.int .i64 (0 : Int))), (.d (.int .i64 (0 : Int))), (.d (.str p0.S)), (.d (.str p0.Name)), (.d (.str (⟨#[]⟩ : ByteArray))), (.ex [])]) (by exact rfl) (Bo rfl _ _) ?_
   refine BJ ?_
   refine ⟨by simp [B2, okPairs, BZ, Ga], ?_⟩
   refine BB ?_
   refine Ae (Al (Af ?_))
   unfold Fc
   refine A1 (fun f st' => ∃ (v15 : Bool), Iy p0 v15 = some r ∧ f 1 = (.ptr (st.length + 0) 0) ∧ f 6 = (.ptr (st.length + 1) 0) ∧ f 93 = (.d (.bool v15)) ∧ st' = st ++ [(.box [(.d (.int .i64 p0.Op)), (.d (.int .i64 p0.N)), (.d (.str p0.S)), (.d (.str p0.Name)), (.d (.str p0.Src)), (.d (.sl (List.map TE.row p0.Args)))]), (.box [(.d (.int .i64 (0 : Int))), (.d (.int .i64 (0 : Int))), (.d (.str p0.S)), (.d (.str p0.Name)), (.d (.str (⟨#[]⟩ : ByteArray))), (.ex [])]), .fresh]) ?_ ?_
   · unfold DX
     refine Ab (e_t (Ac rfl eh)) (Ab (e_t eh) ?_)
     refine Au eh hr (fun hr => ?_) (fun hr => ?_)
     rotate_left
     · refine Ag eh (Ag (em rfl eh) (Ag (Ac rfl eh) (Ag (Ac rfl (em rfl eh)) (Ag (Ad rfl eh) (Ao (e_t (Ad rfl (em rfl eh))) e_c ?_)))))
       refine Aa ?_
       exact ⟨false, hr, (Aj rfl (Aj rfl (Aj rfl (Ad rfl (em rfl eh))))), (Aj rfl (Aj rfl (Ak rfl (Ac rfl eh)))), eh, rfl⟩
     refine Ai eh ?_
     refine AB (e_t (Aj rfl (Aj rfl (Ad rfl eh)))) (by exact rfl) ?_
     refine Ai (em rfl eh) ?_
     refine Ap (e_t eh) ((Am rfl 1).trans rfl) (by exact rfl) ?_
     refine Ai (Ac rfl eh) ?_
     refine AB (e_t (Aj rfl (Aj rfl (Aj rfl (em rfl eh))))) (by exact rfl) ?_
     refine Ai (Ac rfl (em rfl eh)) ?_
     refine Ap (e_t eh) ((Am rfl 0).trans rfl) (by exact rfl) ?_
     refine Ai (Ad rfl eh) ?_
     refine As (e_t (Ac rfl eh)) (e_t eh) (BK ?_)
     refine An (e_t (Ad rfl (em rfl eh))) (e_t eh) (Aa ?_)
     exact ⟨(decide ((0 : Int) = p0.N)), hr, (Aj rfl (Aj rfl (Aj rfl (Ad rfl (em rfl eh))))), (Aj rfl (Aj rfl (Ak rfl (Ac rfl eh)))), eh, rfl⟩
   rintro f st' ⟨v15, hr, h1, h6, h93, rfl⟩
   rw [Iy] at hr
   refine A1 (fun f st' => ∃ (v16 : Bool), IG p0 v16 = some r ∧ f 1 = (.ptr (st.length + 0) 0) ∧ f 6 = (.ptr (st.length + 1) 0) ∧ f 100 = (.d (.bool v16)) ∧ st' = st ++ [(.box [(.d (.int .i64 p0.Op)), (.d (.int .i64 p0.N)), (.d (.str p0.S)), (.d (.str p0.Name)), (.d (.str p0.Src)), (.d (.sl (List.map TE.row p0.Args)))]), (.box [(.d (.int .i64 (0 : Int))), (.d (.int .i64 (0 : Int))), (.d (.str p0.S)), (.d (.str p0.Name)), (.d (.str (⟨#[]⟩ : ByteArray))), (.ex [])]), .fresh]) ?_ ?_
   · unfold Eb
     refine Ab (e_t h93) ?_
     refine Au eh hr (fun hr => ?_) (fun hr => ?_)
     rotate_left
     · refine Ag eh (Ag (em rfl eh) (Ag (Ac rfl eh) (Ag (Ac rfl (em rfl eh)) (Ag (Ad rfl eh) (Ao (e_t (Ad rfl (em rfl eh))) e_c ?_)))))
       refine Aa ?_
       exact ⟨false, hr, (Ad rfl (Ad rfl h1)), (Ad rfl (Ad rfl h6)), eh, rfl⟩
     refine Ai eh ?_
     refine AB (e_t (Ac rfl h6)) (by exact rfl) ?_
     refine Ai (em rfl eh) ?_
     refine Ap (e_t eh) ((Am rfl 1).trans rfl) (by exact rfl) ?_
     refine Ai (Ac rfl eh) ?_
     refine AB (e_t (Ad rfl h1)) (by exact rfl) ?_
     refine Ai (Ac rfl (em rfl eh)) ?_
     refine Ap (e_t eh) ((Am rfl 0).trans rfl) (by exact rfl) ?_
     refine Ai (Ad rfl eh) ?_
     refine As (e_t (Ac rfl eh)) (e_t eh) (Dg ?_)
     refine An (e_t (Ad rfl (em rfl eh))) (e_t eh) (Aa ?_)
     exact ⟨(decide (p0.S = p0.S)), hr, (Ad rfl (Ad rfl h1)), (Ad rfl (Ad rfl h6)), eh, rfl⟩
   rintro f st' ⟨v16, hr, h1, h6, h100, rfl⟩
   rw [IG] at hr
   refine A1 (fun f st' => ∃ (v17 : Bool), Iv p0 v17 = some r ∧ f 1 = (.ptr (st.length + 0) 0) ∧ f 6 = (.ptr (st.length + 1) 0) ∧ f 107 = (.d (.bool v17)) ∧ st' = st ++ [(.box [(.d (.int .i64 p0.Op)), (.d (.int .i64 p0.N)), (.d (.str p0.S)), (.d (.str p0.Name)), (.d (.str p0.Src)), (.d (.sl (List.map TE.row p0.Args)))]), (.box [(.d (.int .i64 (0 : Int))), (.d (.int .i64 (0 : Int))), (.d (.str p0.S)), (.d (.str p0.Name)), (.d (.str (⟨#[]⟩ : ByteArray))), (.ex [])]), .fresh]) ?_ ?_
   · unfold Ea
     refine Ab (e_t h100) ?_
     refine Au eh hr (fun hr => ?_) (fun hr => ?_)
     rotate_left
     · refine Ag eh (Ag (em rfl eh) (Ag (Ac rfl eh) (Ag (Ac rfl (em rfl eh)) (Ag (Ad rfl eh) (Ao (e_t (Ad rfl (em rfl eh))) e_c ?_)))))
       refine Aa ?_
       exact ⟨false, hr, (Ad rfl (Ad rfl h1)), (Ad rfl (Ad rfl h6)), eh, rfl⟩
     refine Ai eh ?_
     refine AB (e_t (Ac rfl h6)) (by exact rfl) ?_
     refine Ai (em rfl eh) ?_
     refine Ap (e_t eh) ((Am rfl 1).trans rfl) (by exact rfl) ?_
     refine Ai (Ac rfl eh) ?_
     refine AB (e_t (Ad rfl h1)) (by exact rfl) ?_
     refine Ai (Ac rfl (em rfl eh)) ?_
     refine Ap (e_t eh) ((Am rfl 0).trans rfl) (by exact rfl) ?_
     refine Ai (Ad rfl eh) ?_
     refine As (e_t (Ac rfl eh)) (e_t eh) (Dg ?_)
     refine An (e_t (Ad rfl (em rfl eh))) (e_t eh) (Aa ?_)
     exact ⟨(decide (p0.Name = p0.Name)), hr, (Ad rfl (Ad rfl h1)), (Ad rfl (Ad rfl h6)), eh, rfl⟩
   rintro f st' ⟨v17, hr, h1, h6, h107, rfl⟩
   rw [Iv] at hr
   refine Bn ?_
   unfold DW
   refine Ab (e_t h107) ?_
   refine Au eh hr (fun hr => ?_) (fun hr => ?_)
   rotate_left
   · refine Ag eh (Ag (em rfl eh) (Ag (Ac rfl eh) (Ag (Ac rfl (em rfl eh)) (Ag (Ad rfl eh) (Ao (e_t (Ad rfl (em rfl eh))) e_c ?_)))))
     refine Aa ?_
     unfold BN
     refine Ab (e_t eh) (Aa (Ae (AI ?_)))
     cases hr
     exact A7 (AG eh AH) (AN AF v_d) (Ay hwf) h
   refine Ai eh ?_
   refine AB (e_t (Ac rfl h6)) (by exact rfl) ?_
   refine Ai (em rfl eh) ?_
   refine Ap (e_t eh) ((Am rfl 1).trans rfl) (by exact rfl) ?_
   refine Ai (Ac rfl eh) ?_
   refine AB (e_t (Ad rfl h1)) (by exact rfl) ?_
   refine Ai (Ac rfl (em rfl eh)) ?_
   refine Ap (e_t eh) ((Am rfl 0).trans rfl) (by exact rfl) ?_
   refine Ai (Ad rfl eh) ?_
   refine As (e_t (Ac rfl eh)) (e_t eh) (Dg ?_)
   refine An (e_t (Ad rfl (em rfl eh))) (e_t eh) (Aa ?_)
   unfold BN
   refine Ab (e_t eh) (Aa (Ae (AI ?_)))
   cases hr
   exact A7 (AG eh AH) (AN AF v_d) (Ay hwf) h
 refine Al (Af ?_)
 unfold Sd
 refine Ab (e_t (Aj rfl (Ad rfl (Ac rfl eh)))) (Ab (e_t eh) (Aa (Ae ?_)))
 refine AC (e_t eh) hr (fun hr => ?_) (fun hr => ?_)
 rotate_left
 · refine Af ?_
   unfold SE
   refine Ab e_c (Aa ?_)
   refine BB ?_
   refine Ae (Al (Af ?_))
   unfold Fc
   refine Bn ?_
   unfold DX
   refine Ab (e_t eh) (Ab (e_t eh) (Ai eh ?_))
   refine AB (e_t (Aj rfl (Ak rfl (em rfl eh)))) (by exact rfl) ?_
   refine Ai (em rfl eh) ?_
   refine Ap (e_t eh) ((Am rfl 1).trans rfl) (by exact rfl) ?_
   refine Ai (Ac rfl eh) ?_
   refine AB (e_t (Aj rfl (Aj rfl (Ad rfl (Ac rfl eh))))) (by exact rfl) ?_
   refine Ai (Ac rfl (em rfl eh)) ?_
   refine Ap (e_t eh) ((Am rfl 0).trans rfl) (by exact rfl) ?_
   refine Ai (Ad rfl eh) ?_
   refine As (e_t (Ac rfl eh)) (e_t eh) (BK ?_)
   refine An (e_t (Ad rfl (em rfl eh))) (e_t eh) (Aa ?_)
   refine A1 (fun f st' => ∃ (v22 : Bool), IA p0 v22 = some r ∧ f 1 = (.ptr (st.length + 0) 0) ∧ f 6 = (.ptr (st.length + 1) 0) ∧ f 100 = (.d (.bool v22)) ∧ st' = st ++ [(.box [(.d (.int .i64 p0.Op)), (.d (.int .i64 p0.N)), (.d (.str p0.S)), (.d (.str p0.Name)), (.d (.str p0.Src)), (.d (.sl (List.map TE.row p0.Args)))]), (.box [(.d (.int .i64 (0 : Int))), (.d (.int .i64 (0 : Int))), (.d (.str (⟨#[]⟩ : ByteArray))), (.d (.str (⟨#[]⟩ : ByteArray))), (.d (.str (⟨#[]⟩ : ByteArray))), (.ex [])])]) ?_ ?_
   · unfold Eb
     refine Ab (e_t eh) ?_
     refine Au eh hr (fun hr => ?_) (fun hr => ?_)
     rotate_left
     · refine Ag eh (Ag (em rfl eh) (Ag (Ac rfl eh) (Ag (Ac rfl (em rfl eh)) (Ag (Ad rfl eh) (Ao (e_t (Ad rfl (em rfl eh))) e_c ?_)))))
       refine Aa ?_
       exact ⟨false, hr, (Aj rfl (Aj rfl (Aj rfl (Ac rfl eh)))), (Aj rfl (Aj rfl (Ad rfl (Ac rfl (em rfl eh))))), eh, rfl⟩
     refine Ai eh ?_
     refine AB (e_t (Aj rfl (Aj rfl (em rfl eh)))) (by exact rfl) ?_
     refine Ai (em rfl eh) ?_
     refine Ap (e_t eh) ((Am rfl 1).trans rfl) (by exact rfl) ?_
     refine Ai (Ac rfl eh) ?_
     refine AB (e_t (Aj rfl (Aj rfl (Ak rfl (Ad rfl (Ac rfl eh)))))) (by exact rfl) ?_
     refine Ai (Ac rfl (em rfl eh)) ?_
     refine Ap (e_t eh) ((Am rfl 0).trans rfl) (by exact rfl) ?_
     refine Ai (Ad rfl eh) ?_
     refine As (e_t (Ac rfl eh)) (e_t eh) (Dg ?_)
     refine An (e_t (Ad rfl (em rfl eh))) (e_t eh) (Aa ?_)
     exact ⟨(decide ((⟨#[]⟩ : ByteArray) = p0.S)), hr, (Aj rfl (Aj rfl (Aj rfl (Ac rfl eh)))), (Aj rfl (Aj rfl (Ad rfl (Ac rfl (em rfl eh))))), eh, rfl⟩
   rintro f st' ⟨v22, hr, h1, h6, h100, rfl⟩
   rw [IA] at hr
   refine A1 (fun f st' => ∃ (v23 : Bool), IC p0 v23 = some r ∧ f 1 = (.ptr (st.length + 0) 0) ∧ f 6 = (.ptr (st.length + 1) 0) ∧ f 107 = (.d (.bool v23)) ∧ st' = st ++ [(.box [(.d (.int .i64 p0.Op)), (.d (.int .i64 p0.N)), (.d (.str p0.S)), (.d (.str p0.Name)), (.d (.str p0.Src)), (.d (.sl (List.map TE.row p0.Args)))]), (.box [(.d (.int .i64 (0 : Int))), (.d (.int .i64 (0 : Int))), (.d (.str (⟨#[]⟩ : ByteArray))), (.d (.str (⟨#[]⟩ : ByteArray))), (.d (.str (⟨#[]⟩ : ByteArray))), (.ex [])])]) ?_ ?_
   · unfold Ea
     refine Ab (e_t h100) ?_
     refine Au eh hr (fun hr => ?_) (fun hr => ?_)
     rotate_left
     · refine Ag eh (Ag (em rfl eh) (Ag (Ac rfl eh) (Ag (Ac rfl (em rfl eh)) (Ag (Ad rfl eh) (Ao (e_t (Ad rfl (em rfl eh))) e_c ?_)))))
       refine Aa ?_
       exact ⟨false, hr, (Ad rfl (Ad rfl h1)), (Ad rfl (Ad rfl h6)), eh, rfl⟩
     refine Ai eh ?_
     refine AB (e_t (Ac rfl h6)) (by exact rfl) ?_
     refine Ai (em rfl eh) ?_
     refine Ap (e_t eh) ((Am rfl 1).trans rfl) (by exact rfl) ?_
     refine Ai (Ac rfl eh) ?_
     refine AB (e_t (Ad rfl h1)) (by exact rfl) ?_
     refine Ai (Ac rfl (em rfl eh)) ?_
     refine Ap (e_t eh) ((Am rfl 0).trans rfl) (by exact rfl) ?_
     refine Ai (Ad rfl eh) ?_
     refine As (e_t (Ac rfl eh)) (e_t eh) (Dg ?_)
     refine An (e_t (Ad rfl (em rfl eh))) (e_t eh) (Aa ?_)
     exact ⟨(decide ((⟨#[]⟩ : ByteArray) = p0.Name)), hr, (Ad rfl (Ad rfl h1)), (Ad rfl (Ad rfl h6)), eh, rfl⟩
   rintro f st' ⟨v23, hr, h1, h6, h107, rfl⟩
   rw [IC] at hr
   refine Bn ?_
   unfold DW
   refine Ab (e_t h107) ?_
   refine Au eh hr (fun hr => ?_) (fun hr => ?_)
   rotate_left
   · refine Ag eh (Ag (em rfl eh) (Ag (Ac rfl eh) (Ag (Ac rfl (em rfl eh)) (Ag (Ad rfl eh) (Ao (e_t (Ad rfl (em rfl eh))) e_c ?_)))))
     refine Aa ?_
     unfold BN
     refine Ab (e_t eh) (Aa (Ae (AI ?_)))
     cases hr
     exact A7 (AG eh AH) (AN AF v_d) (Ay hwf) h
   refine Ai eh ?_
   refine AB (e_t (Ac rfl h6)) (by exact rfl) ?_
   refine Ai (em rfl eh) ?_
   refine Ap (e_t eh) ((Am rfl 1).trans rfl) (by exact rfl) ?_
   refine Ai (Ac rfl eh) ?_
   refine AB (e_t (Ad rfl h1)) (by exact rfl) ?_
   refine Ai (Ac rfl (em rfl eh)) ?_
   refine Ap (e_t eh) ((Am rfl 0).trans rfl) (by exact rfl) ?_
   refine Ai (Ad rfl eh) ?_
   refine As (e_t (Ac rfl eh)) (e_t eh) (Dg ?_)
   refine An (e_t (Ad rfl (em rfl eh))) (e_t eh) (Aa ?_)
   unfold BN
   refine Ab (e_t eh) (Aa (Ae (AI ?_)))
   cases hr
   exact A7 (AG eh AH) (AN AF v_d) (Ay hwf) h
 refine HX (k := 2) rfl rfl ?_
 unfold R6
 refine Ah (R := []) rfl rfl (AB (e_t (Aj rfl (Aj rfl (em rfl eh)))) (by exact rfl) (Aa ?_))
 refine Ah rfl (BL (e_t eh)) (Ap (e_t eh) ((Am rfl 0).trans rfl) (by exact rfl) (Aa ?_))
 refine Ah (R := []) rfl rfl (AB (e_t (Aj rfl (Aj rfl (Ac rfl (em rfl eh))))) (by exact rfl) (Aa ?_))
 refine Ah rfl (BL (e_t eh)) (Ap (e_t eh) ((Am rfl 0).trans rfl) (by exact rfl) (Aa ?_))
 refine Ah rfl (Vw (e_t (Ac rfl eh)) (by exact rfl) (Vw (e_t eh) (by exact rfl) AC4)) (Db (rows := List.map rS [p0.Name, p0.Src]) ((AE (e_t (Ac rfl eh)) A0 (Aw f_d AL) rfl (AE (e_t eh) A0 (Aw f_d AL) rfl Eg))) (Aa ?_))
 obtain ⟨v18, hc_v18, hr⟩ := bind_some hr
 refine Gg (Ar (e_t eh) K0 AM) (Cf (e_t eh) (by exact rfl) FL) (fun st2 => La n ([p0.Name, p0.Src]) hc_v18 ⟨rfl, rfl⟩) ?_
 refine Ah (R := []) rfl rfl (AB (e_t (Aj rfl (Aj rfl (Ad rfl (Ac rfl (em rfl eh)))))) (by exact rfl) (Aa ?_))
 refine Ah rfl (BL (e_t eh)) (Ap (e_t eh) ((Am rfl 0).trans rfl) (by exact rfl) (Aa ?_))
 refine Ah (R := []) rfl rfl (AB (e_t (Aj rfl (Aj rfl (Ak rfl (em rfl eh))))) (by exact rfl) (Aa ?_))
 refine Ah rfl (BL (e_t eh)) (Ap (e_t eh) ((Am rfl 0).trans rfl) (by exact rfl) (Aa ?_))
 refine Ah (R := []) rfl rfl (Ab (e_t (Ad rfl eh)) (Aa ?_))
 refine Ah (R := []) rfl rfl (AB (e_t (Aj rfl (Aj rfl (em rfl eh)))) (by exact rfl) (Aa ?_))
 refine JW (e_t eh) ((Am rfl 1).trans rfl) (e_t (Ad rfl eh)) A0 rfl (Nat.le_of_ble_eq_true rfl) (by exact rfl) (cells' := [(.d (.int .i64 (0 : Int))), (.d (.int .i64 (0 : Int))), (.d (.str (⟨#[]⟩ : ByteArray))), (.d (.str p0.Name)), (.d (.str (⟨#[]⟩ : ByteArray))), (.ex [])]) (by exact rfl) (Bo rfl _ _) ?_
 refine Ah (R := []) rfl rfl (AB (e_t (Aj rfl (Aj rfl (Ac rfl eh)))) (by exact rfl) (Aa ?_))
 refine JW (e_t eh) ((Am rfl 1).trans rfl) (e_t (Ac rfl (em rfl eh))) A0 rfl (Nat.le_of_ble_eq_true rfl) (by exact rfl) (cells' := [(.d (.int .i64 (0 : Int))), (.d (.int .i64 (0 : Int))), (.d (.str (⟨#[]⟩ : ByteArray))), (.d (.str p0.Name)), (.d (.str p0.Src)), (.ex [])]) (by exact rfl) (Bo rfl _ _) ?_
 refine BJ ?_
 refine ⟨by simp [B2, okPairs, BZ, Ga], ?_⟩
 refine BB ?_
 refine Ae (Al (Af ?_))
 unfold Fc
 refine A1 (fun f st' => ∃ (v19 : Bool), IE p0 v19 = some r ∧ f 1 = (.ptr (st.length + 0) 0) ∧ f 6 = (.ptr (st.length + 1) 0) ∧ f 93 = (.d (.bool v19)) ∧ st' = st ++ [(.box [(.d (.int .i64 p0.Op)), (.d (.int .i64 p0.N)), (.d (.str p0.S)), (.d (.str p0.Name)), (.d (.str p0.Src)), (.d (.sl (List.map TE.row p0.Args)))]), (.box [(.d (.int .i64 (0 : Int))), (.d (.int .i64 (0 : Int))), (.d (.str (⟨#[]⟩ : ByteArray))), (.d (.str p0.Name)), (.d (.str p0.Src)), (.ex [])]), .fresh]) ?_ ?_
 · unfold DX
   refine Ab (e_t (Ac rfl eh)) (Ab (e_t eh) ?_)
   refine Au eh hr (fun hr => ?_) (fun hr => ?_)
   rotate_left
   · refine Ag eh (Ag (em rfl eh) (Ag (Ac rfl eh) (Ag (Ac rfl (em rfl eh)) (Ag (Ad rfl eh) (Ao (e_t (Ad rfl (em rfl eh))) e_c ?_)))))
     refine Aa ?_
     exact ⟨false, hr, (Aj rfl (Aj rfl (Aj rfl (Ad rfl (Ac rfl (em rfl eh)))))), (Aj rfl (Aj rfl (Ak rfl (Ad rfl eh)))), eh, rfl⟩
   refine Ai eh ?_
   refine AB (e_t (Aj rfl (Aj rfl (Ad rfl (Ac rfl eh))))) (by exact rfl) ?_
   refine Ai (em rfl eh) ?_
   refine Ap (e_t eh) ((Am rfl 1).trans rfl) (by exact rfl) ?_
   refine Ai (Ac rfl eh) ?_
   refine AB (e_t (Aj rfl (Aj rfl (Aj rfl (Ac rfl (em rfl eh)))))) (by exact rfl) ?_
   refine Ai (Ac rfl (em rfl eh)) ?_
   refine Ap (e_t eh) ((Am rfl 0).trans rfl) (by exact rfl) ?_
   refine Ai (Ad rfl eh) ?_
   refine As (e_t (Ac rfl eh)) (e_t eh) (BK ?_)
   refine An (e_t (Ad rfl (em rfl eh))) (e_t eh) (Aa ?_)
   exact ⟨(decide ((0 : Int) = p0.N)), hr, (Aj rfl (Aj rfl (Aj rfl (Ad rfl (Ac rfl (em rfl eh)))))), (Aj rfl (Aj rfl (Ak rfl (Ad rfl eh)))), eh, rfl⟩
 rintro f st' ⟨v19, hr, h1, h6, h93, rfl⟩
 rw [IE] at hr
 refine A1 (fun f st' => ∃ (v20 : Bool), Is p0 v20 = some r ∧ f 1 = (.ptr (st.length + 0) 0) ∧ f 6 = (.ptr (st.length + 1) 0) ∧ f 100 = (.d (.bool v20)) ∧ st' = st ++ [(.box [(.d (.int .i64 p0.Op)), (.d (.int .i64 p0.N)), (.d (.str p0.S)), (.d (.str p0.Name)), (.d (.str p0.Src)), (.d (.sl (List.map TE.row p0.Args)))]), (.box [(.d (.int .i64 (0 : Int))), (.d (.int .i64 (0 : Int))), (.d (.str (⟨#[]⟩ : ByteArray))), (.d (.str p0.Name)), (.d (.str p0.Src)), (.ex [])]), .fresh]) ?_ ?_
 · unfold Eb
   refine Ab (e_t h93) ?_
   refine Au eh hr (fun hr => ?_) (fun hr => ?_)
   rotate_left
   · refine Ag eh (Ag (em rfl eh) (Ag (Ac rfl eh) (Ag (Ac rfl (em rfl eh)) (Ag (Ad rfl eh) (Ao (e_t (Ad rfl (em rfl eh))) e_c ?_)))))
     refine Aa ?_
     exact ⟨false, hr, (Ad rfl (Ad rfl h1)), (Ad rfl (Ad rfl h6)), eh, rfl⟩
   refine Ai eh ?_
   refine AB (e_t (Ac rfl h6)) (by exact rfl) ?_
   refine Ai (em rfl eh) ?_
   refine Ap (e_t eh) ((Am rfl 1).trans rfl) (by exact rfl) ?_
   refine Ai (Ac rfl eh) ?_
   refine AB (e_t (Ad rfl h1)) (by exact rfl) ?_
   refine Ai (Ac rfl (em rfl eh)) ?_
   refine Ap (e_t eh) ((Am rfl 0).trans rfl) (by exact rfl) ?_
   refine Ai (Ad rfl eh) ?_
   refine As (e_t (Ac rfl eh)) (e_t eh) (Dg ?_)
   refine An (e_t (Ad rfl (em rfl eh))) (e_t eh) (Aa ?_)
   exact ⟨(decide ((⟨#[]⟩ : ByteArray) = p0.S)), hr, (Ad rfl (Ad rfl h1)), (Ad rfl (Ad rfl h6)), eh, rfl⟩
 rintro f st' ⟨v20, hr, h1, h6, h100, rfl⟩
 rw [Is] at hr
 refine A1 (fun f st' => ∃ (v21 : Bool), Iu p0 v21 = some r ∧ f 1 = (.ptr (st.length + 0) 0) ∧ f 6 = (.ptr (st.length + 1) 0) ∧ f 107 = (.d (.bool v21)) ∧ st' = st ++ [(.box [(.d (.int .i64 p0.Op)), (.d (.int .i64 p0.N)), (.d (.str p0.S)), (.d (.str p0.Name)), (.d (.str p0.Src)), (.d (.sl (List.map TE.row p0.Args)))]), (.box [(.d (.int .i64 (0 : Int))), (.d (.int .i64 (0 : Int))), (.d (.str (⟨#[]⟩ : ByteArray))), (.d (.str p0.Name)), (.d (.str p0.Src)), (.ex [])]), .fresh]) ?_ ?_
 · unfold Ea
   refine Ab (e_t h100) ?_
   refine Au eh hr (fun hr => ?_) (fun hr => ?_)
   rotate_left
   · refine Ag eh (Ag (em rfl eh) (Ag (Ac rfl eh) (Ag (Ac rfl (em rfl eh)) (Ag (Ad rfl eh) (Ao (e_t (Ad rfl (em rfl eh))) e_c ?_)))))
     refine Aa ?_
     exact ⟨false, hr, (Ad rfl (Ad rfl h1)), (Ad rfl (Ad rfl h6)), eh, rfl⟩
   refine Ai eh ?_
   refine AB (e_t (Ac rfl h6)) (by exact rfl) ?_
   refine Ai (em rfl eh) ?_
   refine Ap (e_t eh) ((Am rfl 1).trans rfl) (by exact rfl) ?_
   refine Ai (Ac rfl eh) ?_
   refine AB (e_t (Ad rfl h1)) (by exact rfl) ?_
   refine Ai (Ac rfl (em rfl eh)) ?_
   refine Ap (e_t eh) ((Am rfl 0).trans rfl) (by exact rfl) ?_
   refine Ai (Ad rfl eh) ?_
   refine As (e_t (Ac rfl eh)) (e_t eh) (Dg ?_)
   refine An (e_t (Ad rfl (em rfl eh))) (e_t eh) (Aa ?_)
   exact ⟨(decide (p0.Name = p0.Name)), hr, (Ad rfl (Ad rfl h1)), (Ad rfl (Ad rfl h6)), eh, rfl⟩
 rintro f st' ⟨v21, hr, h1, h6, h107, rfl⟩
 rw [Iu] at hr
 refine Bn ?_
 unfold DW
 refine Ab (e_t h107) ?_
 refine Au eh hr (fun hr => ?_) (fun hr => ?_)
 rotate_left
 · refine Ag eh (Ag (em rfl eh) (Ag (Ac rfl eh) (Ag (Ac rfl (em rfl eh)) (Ag (Ad rfl eh) (Ao (e_t (Ad rfl (em rfl eh))) e_c ?_)))))
   refine Aa ?_
   unfold BN
   refine Ab (e_t eh) (Aa (Ae (AI ?_)))
   cases hr
   exact A7 (AG eh AH) (AN AF v_d) (Ay hwf) h
 refine Ai eh ?_
 refine AB (e_t (Ac rfl h6)) (by exact rfl) ?_
 refine Ai (em rfl eh) ?_
 refine Ap (e_t eh) ((Am rfl 1).trans rfl) (by exact rfl) ?_
 refine Ai (Ac rfl eh) ?_
 refine AB (e_t (Ad rfl h1)) (by exact rfl) ?_
 refine Ai (Ac rfl (em rfl eh)) ?_
 refine Ap (e_t eh) ((Am rfl 0).trans rfl) (by exact rfl) ?_
 refine Ai (Ad rfl eh) ?_
 refine As (e_t (Ac rfl eh)) (e_t eh) (Dg ?_)
 refine An (e_t (Ad rfl (em rfl eh))) (e_t eh) (Aa ?_)
 unfold BN
 refine Ab (e_t eh) (Aa (Ae (AI ?_)))
 cases hr
 exact A7 (AG eh AH) (AN AF v_d) (Ay hwf) h
end Go.Ax
