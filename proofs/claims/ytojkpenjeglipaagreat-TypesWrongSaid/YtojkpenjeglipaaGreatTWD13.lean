import Derived.Test.YtojkpenjeglipaaGreatTWT
import Derived.Test.YtojkpenjeglipaaGreatTCVX
import Derived.Test.YtojkpenjeglipaaGreatTCPrim
import Derived.Test.YtojkpenjeglipaaGreatTWD9
import Derived.Test.YtojkpenjeglipaaGreatTWD12
set_option linter.unusedVariables false
set_option maxRecDepth 100000
set_option maxHeartbeats 4000000
namespace Go.Ax
attribute [local irreducible] BH FA F2 Bf DM Hp Cq V4 Lz upd ev u0 Dh frz A4 EO mmD bnd Ch Gk DU C2 Ie JH FZ cutV NL CO
variable {st : List Content}
def KS (p0 : TE) (v3 : Bool) : Option Bool :=
 (bif v3 then some (decide ((⟨#[]⟩ : ByteArray) = p0.Src)) else some false)
def Li (p0 : TE) (v2 : Bool) : Option Bool :=
 (bif v2 then (KS p0 (decide ((⟨#[]⟩ : ByteArray) = p0.Name))) else (KS p0 false))
def Ly (p0 : TE) (v1 : Bool) : Option Bool :=
 (bif v1 then (Li p0 (decide ((⟨#[]⟩ : ByteArray) = p0.S))) else (Li p0 false))
def KJ (p0 : TE) (v6 : Bool) : Option Bool :=
 (bif v6 then some (decide ((⟨#[]⟩ : ByteArray) = p0.Src)) else some false)
def KP (p0 : TE) (v5 : Bool) : Option Bool :=
 (bif v5 then (KJ p0 (decide ((⟨#[]⟩ : ByteArray) = p0.Name))) else (KJ p0 false))
def Lc (p0 : TE) (v4 : Bool) : Option Bool :=
 (bif v4 then (KP p0 (decide (p0.S = p0.S))) else (KP p0 false))
def K1 (p0 : TE) (v9 : Bool) : Option Bool :=
 (bif v9 then some (decide ((⟨#[]⟩ : ByteArray) = p0.Src)) else some false)
def Lk (p0 : TE) (v8 : Bool) : Option Bool :=
 (bif v8 then (K1 p0 (decide ((⟨#[]⟩ : ByteArray) = p0.Name))) else (K1 p0 false))
def Lp (p0 : TE) (v7 : Bool) : Option Bool :=
 (bif v7 then (Lk p0 (decide ((⟨#[]⟩ : ByteArray) = p0.S))) else (Lk p0 false))
def JA (p0 : TE) (v13 : Bool) : Option Bool :=
 (bif v13 then some (decide ((⟨#[]⟩ : ByteArray) = p0.Src)) else some false)
def Jl (p0 : TE) (v12 : Bool) : Option Bool :=
 (bif v12 then (JA p0 (decide (p0.Name = p0.Name))) else (JA p0 false))
def K9 (p0 : TE) (v11 : Bool) : Option Bool :=
 (bif v11 then (Jl p0 (decide ((⟨#[]⟩ : ByteArray) = p0.S))) else (Jl p0 false))
def Jj (p0 : TE) (v17 : Bool) : Option Bool :=
 (bif v17 then some (decide ((⟨#[]⟩ : ByteArray) = p0.Src)) else some false)
def Jm (p0 : TE) (v16 : Bool) : Option Bool :=
 (bif v16 then (Jj p0 (decide (p0.Name = p0.Name))) else (Jj p0 false))
def Jk (p0 : TE) (v15 : Bool) : Option Bool :=
 (bif v15 then (Jm p0 (decide (p0.S = p0.S))) else (Jm p0 false))
def Jc (p0 : TE) (v21 : Bool) : Option Bool :=
 (bif v21 then some (decide (p0.Src = p0.Src)) else some false)
def Jy (p0 : TE) (v20 : Bool) : Option Bool :=
 (bif v20 then (Jc p0 (decide (p0.Name = p0.Name))) else (Jc p0 false))
def Jw (p0 : TE) (v19 : Bool) : Option Bool :=
 (bif v19 then (Jy p0 (decide ((⟨#[]⟩ : ByteArray) = p0.S))) else (Jy p0 false))
def Ju (p0 : TE) (v23 : Bool) : Option Bool :=
 (bif v23 then some (decide ((⟨#[]⟩ : ByteArray) = p0.Src)) else some false)
def Jg (p0 : TE) (v22 : Bool) : Option Bool :=
 (bif v22 then (Ju p0 (decide ((⟨#[]⟩ : ByteArray) = p0.Name))) else (Ju p0 false))
def R6 (n : Nat) (p0 : TE) : Option Bool :=
 (bif (decide (p0.Op = (1 : Int))) then (bif (decide ((0 : Int) ≤ p0.N)) then (Ly p0 (decide (p0.N = p0.N))) else (Ly p0 false)) else (bif (decide (p0.Op = (2 : Int))) then (bif (decide ((p0.S.size : Int) ≤ (200 : Int))) then (Lc p0 (decide ((0 : Int) = p0.N))) else (Lc p0 false)) else (bif (decide (p0.Op = (3 : Int))) then (bif (decide ((Int.fdiv p0.N (2 ^ (min (Int.toNat (1 : Int)) (IntKind.bits .i64)))) = (0 : Int))) then (Lp p0 (decide (p0.N = p0.N))) else (Lp p0 false)) else (bif (decide (p0.Op = (4 : Int))) then ((Gt n ([p0.Name])).bind fun v10 => (bif v10 then (K9 p0 (decide ((0 : Int) = p0.N))) else (K9 p0 false))) else (bif (decide (p0.Op = (5 : Int))) then ((Gt n ([p0.Name, p0.S])).bind fun v14 => (bif v14 then (Jk p0 (decide ((0 : Int) = p0.N))) else (Jk p0 false))) else (bif (Am2 p0.Op).2 then ((Gt n ([p0.Name, p0.Src])).bind fun v18 => (bif v18 then (Jw p0 (decide ((0 : Int) = p0.N))) else (Jw p0 false))) else (bif (decide ((0 : Int) = p0.N)) then (Jg p0 (decide ((⟨#[]⟩ : ByteArray) = p0.S))) else (Jg p0 false))))))))
theorem BT6 (n : Nat) (p0 : TE) {r : Bool} (hr : R6 n p0 = some r) {K : PV → List Content → Prop} (h : K (.d (.bool r)) st) : Aw PR Am0 [(.agg [(.d (.int .i64 p0.Op)), (.d (.int .i64 p0.N)), (.d (.str p0.S)), (.d (.str p0.Name)), (.d (.str p0.Src)), (.d (.sl (List.map TE.row p0.Args)))])] st K := by
 refine Aw.of Bq2 (Nat.le_of_ble_eq_true rfl) fun hwf => ?_
 rw [CE]
 refine AS ?_
 unfold AP6
 rw [R6] at hr
 refine Al (Af ?_)
 unfold AI9
 refine GV (k := 0) rfl rfl (e_t eh) Bi (by rfl) ?_
 refine Ab e_c (Aa (Ae (Al (Af ?_))))
 unfold Az4
 refine AA (e_t (em rfl eh)) (by rfl) ?_
 refine Ao (e_t eh) (gx 0 rfl) (by rfl) ?_
 refine AY (Az (e_t eh) AF A1) ?_
 refine BP7 p0.Op rfl ?_
 refine Ab (e_t eh) ?_
 refine MZ (e_t eh) (by rfl) ?_
 refine MZ (e_t (em rfl eh)) (by rfl) ?_
 refine Ab (e_t (em rfl eh)) (Ab (e_t (em rfl eh)) (Aa (Ae (Al (Af ?_)))))
 unfold AA5
 refine Ab e_c (Aa (Ae (Al (Af ?_))))
 unfold Ax1
 refine Dv (k := 1) rfl rfl ?_
 refine Aa (Ae (Al ?_))
 refine A3 ?_
 refine Al (Af ?_)
 unfold Ay6
 refine AA (e_t (Ak rfl (Ac rfl (em rfl eh)))) (by rfl) ?_
 refine Ao (e_t eh) (gx 0 rfl) (by rfl) ?_
 refine Ap (e_t eh) e_c (Ci ?_)
 refine Ab (e_t eh) (Aa (Ae ?_))
 refine AB (e_t eh) hr (fun hr => ?_) (fun hr => ?_)
 · refine EQ (k := 2) rfl rfl ?_
   unfold AD0
   refine AA (e_t (Ak rfl (Ad rfl (Ac rfl (em rfl eh))))) (by rfl) ?_
   refine Ao (e_t eh) (gx 0 rfl) (by rfl) ?_
   refine Ap (e_t eh) e_c (E5 ?_)
   refine AA (e_t (Ai rfl (Ac rfl eh))) (by rfl) ?_
   refine Ao (e_t eh) (gx 0 rfl) (by rfl) ?_
   refine Ab (e_t (Ac rfl eh)) ?_
   refine AA (e_t (Ak rfl (Ac rfl eh))) (by rfl) ?_
   refine BB (e_t eh) (gx 1 rfl) (e_t (Ac rfl eh)) A2 rfl (Nat.le_of_ble_eq_true rfl) (by rfl) (cells' := [(.d (.int .i64 (0 : Int))), (.d (.int .i64 p0.N)), (.d (.str (⟨#[]⟩ : ByteArray))), (.d (.str (⟨#[]⟩ : ByteArray))), (.d (.str (⟨#[]⟩ : ByteArray))), (.ex [])]) (by rfl) (BD rfl _ _) ?_
   refine Aa ?_
   refine BQ ?_
   refine Ae (Al (Af ?_))
   unfold Fh
   refine Ba (fun f st' => ∃ (v1 : Bool), Ly p0 v1 = some r ∧ f 1 = (.ptr (st.length + 0) 0) ∧ f 6 = (.ptr (st.length + 1) 0) ∧ f 93 = (.d (.bool v1)) ∧ st' = st ++ [(.box [(.d (.int .i64 p0.Op)), (.d (.int .i64 p0.N)), (.d (.str p0.S)), (.d (.str p0.Name)), (.d (.str p0.Src)), (.d (.sl (List.map TE.row p0.Args)))]), (.box [(.d (.int .i64 (0 : Int))), (.d (.int .i64 p0.N)), (.d (.str (⟨#[]⟩ : ByteArray))), (.d (.str (⟨#[]⟩ : ByteArray))), (.d (.str (⟨#[]⟩ : ByteArray))), (.ex [])])]) ?_ ?_
   · unfold DS
     refine Ab (e_t (em rfl eh)) (Ab (e_t eh) ?_)
     refine Ar eh hr (fun hr => ?_) (fun hr => ?_)
     rotate_left
     · refine Ah eh (Ah (em rfl eh) (Ah (Ac rfl eh) (Ah (Ac rfl (em rfl eh)) (Ah (Ad rfl eh) (An (e_t (Ad rfl (em rfl eh))) e_c ?_)))))
       refine Aa ?_
       exact ⟨false, hr, (Ai rfl (Ak rfl (Ad rfl (Ac rfl (em rfl eh))))), (Ai rfl (Ad rfl eh)), eh, rfl⟩
     refine Aj eh ?_
     refine AA (e_t (Ak rfl (Ad rfl (Ac rfl eh)))) (by rfl) ?_
     refine Aj (em rfl eh) ?_
     refine Ao (e_t eh) (gx 1 rfl) (by rfl) ?_
     refine Aj (Ac rfl eh) ?_
     refine AA (e_t (Ai rfl (Ak rfl (Ac rfl (em rfl eh))))) (by rfl) ?_
     refine Aj (Ac rfl (em rfl eh)) ?_
     refine Ao (e_t eh) (gx 0 rfl) (by rfl) ?_
     refine Aj (Ad rfl eh) ?_
     refine Ap (e_t (Ac rfl eh)) (e_t eh) (Ci ?_)
     refine Am (e_t (Ad rfl (em rfl eh))) (e_t eh) (Aa ?_)
     exact ⟨(decide (p0.N = p0.N)), hr, (Ai rfl (Ak rfl (Ad rfl (Ac rfl (em rfl eh))))), (Ai rfl (Ad rfl eh)), eh, rfl⟩
   rintro f st' ⟨v1, hr, h1, h6, h93, rfl⟩
   rw [Ly] at hr
   refine Ba (fun f st' => ∃ (v2 : Bool), Li p0 v2 = some r ∧ f 1 = (.ptr (st.length + 0) 0) ∧ f 6 = (.ptr (st.length + 1) 0) ∧ f 100 = (.d (.bool v2)) ∧ st' = st ++ [(.box [(.d (.int .i64 p0.Op)), (.d (.int .i64 p0.N)), (.d (.str p0.S)), (.d (.str p0.Name)), (.d (.str p0.Src)), (.d (.sl (List.map TE.row p0.Args)))]), (.box [(.d (.int .i64 (0 : Int))), (.d (.int .i64 p0.N)), (.d (.str (⟨#[]⟩ : ByteArray))), (.d (.str (⟨#[]⟩ : ByteArray))), (.d (.str (⟨#[]⟩ : ByteArray))), (.ex [])])]) ?_ ?_
   · unfold DN
     refine Ab (e_t h93) ?_
     refine Ar eh hr (fun hr => ?_) (fun hr => ?_)
     rotate_left
     · refine Ah eh (Ah (em rfl eh) (Ah (Ac rfl eh) (Ah (Ac rfl (em rfl eh)) (Ah (Ad rfl eh) (An (e_t (Ad rfl (em rfl eh))) e_c ?_)))))
       refine Aa ?_
       exact ⟨false, hr, (Ad rfl (Ad rfl h1)), (Ad rfl (Ad rfl h6)), eh, rfl⟩
     refine Aj eh ?_
     refine AA (e_t (Ac rfl h6)) (by rfl) ?_
     refine Aj (em rfl eh) ?_
     refine Ao (e_t eh) (gx 1 rfl) (by rfl) ?_
     refine Aj (Ac rfl eh) ?_
     refine AA (e_t (Ad rfl h1)) (by rfl) ?_
     refine Aj (Ac rfl (em rfl eh)) ?_
     refine Ao (e_t eh) (gx 0 rfl) (by rfl) ?_
     refine Aj (Ad rfl eh) ?_
     refine Ap (e_t (Ac rfl eh)) (e_t eh) (Do ?_)
     refine Am (e_t (Ad rfl (em rfl eh))) (e_t eh) (Aa ?_)
     exact ⟨(decide ((⟨#[]⟩ : ByteArray) = p0.S)), hr, (Ad rfl (Ad rfl h1)), (Ad rfl (Ad rfl h6)), eh, rfl⟩
   rintro f st' ⟨v2, hr, h1, h6, h100, rfl⟩
   rw [Li] at hr
   refine Ba (fun f st' => ∃ (v3 : Bool), KS p0 v3 = some r ∧ f 1 = (.ptr (st.length + 0) 0) ∧ f 6 = (.ptr (st.length + 1) 0) ∧ f 107 = (.d (.bool v3)) ∧ st' = st ++ [(.box [(.d (.int .i64 p0.Op)), (.d (.int .i64 p0.N)), (.d (.str p0.S)), (.d (.str p0.Name)), (.d (.str p0.Src)), (.d (.sl (List.map TE.row p0.Args)))]), (.box [(.d (.int .i64 (0 : Int))), (.d (.int .i64 p0.N)), (.d (.str (⟨#[]⟩ : ByteArray))), (.d (.str (⟨#[]⟩ : ByteArray))), (.d (.str (⟨#[]⟩ : ByteArray))), (.ex [])])]) ?_ ?_
   · unfold DO
     refine Ab (e_t h100) ?_
     refine Ar eh hr (fun hr => ?_) (fun hr => ?_)
     rotate_left
     · refine Ah eh (Ah (em rfl eh) (Ah (Ac rfl eh) (Ah (Ac rfl (em rfl eh)) (Ah (Ad rfl eh) (An (e_t (Ad rfl (em rfl eh))) e_c ?_)))))
       refine Aa ?_
       exact ⟨false, hr, (Ad rfl (Ad rfl h1)), (Ad rfl (Ad rfl h6)), eh, rfl⟩
     refine Aj eh ?_
     refine AA (e_t (Ac rfl h6)) (by rfl) ?_
     refine Aj (em rfl eh) ?_
     refine Ao (e_t eh) (gx 1 rfl) (by rfl) ?_
     refine Aj (Ac rfl eh) ?_
     refine AA (e_t (Ad rfl h1)) (by rfl) ?_
     refine Aj (Ac rfl (em rfl eh)) ?_
     refine Ao (e_t eh) (gx 0 rfl) (by rfl) ?_
     refine Aj (Ad rfl eh) ?_
     refine Ap (e_t (Ac rfl eh)) (e_t eh) (Do ?_)
     refine Am (e_t (Ad rfl (em rfl eh))) (e_t eh) (Aa ?_)
     exact ⟨(decide ((⟨#[]⟩ : ByteArray) = p0.Name)), hr, (Ad rfl (Ad rfl h1)), (Ad rfl (Ad rfl h6)), eh, rfl⟩
   rintro f st' ⟨v3, hr, h1, h6, h107, rfl⟩
   rw [KS] at hr
   refine Bh ?_
   unfold DR
   refine Ab (e_t h107) ?_
   refine Ar eh hr (fun hr => ?_) (fun hr => ?_)
   rotate_left
   · refine Ah eh (Ah (em rfl eh) (Ah (Ac rfl eh) (Ah (Ac rfl (em rfl eh)) (Ah (Ad rfl eh) (An (e_t (Ad rfl (em rfl eh))) e_c ?_)))))
     refine Aa ?_
     unfold BE
     refine Ab (e_t eh) (Aa (Ae (AH ?_)))
     cases hr
     exact A5 (AE eh AG) (AK AF v_d) (As hwf) h
   refine Aj eh ?_
   refine AA (e_t (Ac rfl h6)) (by rfl) ?_
   refine Aj (em rfl eh) ?_
   refine Ao (e_t eh) (gx 1 rfl) (by rfl) ?_
   refine Aj (Ac rfl eh) ?_
   refine AA (e_t (Ad rfl h1)) (by rfl) ?_
   refine Aj (Ac rfl (em rfl eh)) ?_
   refine Ao (e_t eh) (gx 0 rfl) (by rfl) ?_
   refine Aj (Ad rfl eh) ?_
   refine Ap (e_t (Ac rfl eh)) (e_t eh) (Do ?_)
   refine Am (e_t (Ad rfl (em rfl eh))) (e_t eh) (Aa ?_)
   unfold BE
   refine Ab (e_t eh) (Aa (Ae (AH ?_)))
   cases hr
   exact A5 (AE eh AG) (AK AF v_d) (As hwf) h
 refine Al (Af ?_)
 unfold Aw9
 refine AA (e_t (Ak rfl (Ad rfl (Ac rfl (em rfl eh))))) (by rfl) ?_
 refine Ao (e_t eh) (gx 0 rfl) (by rfl) ?_
 refine Ap (e_t eh) e_c (Ci ?_)
 refine Ab (e_t eh) (Aa (Ae ?_))
 refine AB (e_t eh) hr (fun hr => ?_) (fun hr => ?_)
 · refine EQ (k := 2) rfl rfl ?_
   unfold Ax3
   refine AA (e_t (Ai rfl (Ac rfl (em rfl eh)))) (by rfl) ?_
   refine Ao (e_t eh) (gx 0 rfl) (by rfl) ?_
   refine I2 (e_t eh) ?_
   refine Ap (e_t eh) e_c (M5 ?_)
   refine AA (e_t (Ai rfl (Ad rfl (Ac rfl (em rfl eh))))) (by rfl) ?_
   refine Ao (e_t eh) (gx 0 rfl) (by rfl) ?_
   refine Ab (e_t (Ac rfl eh)) ?_
   refine AA (e_t (Ak rfl (Ad rfl (Ac rfl (em rfl eh))))) (by rfl) ?_
   refine BB (e_t eh) (gx 1 rfl) (e_t (Ac rfl eh)) A2 rfl (Nat.le_of_ble_eq_true rfl) (by rfl) (cells' := [(.d (.int .i64 (0 : Int))), (.d (.int .i64 (0 : Int))), (.d (.str p0.S)), (.d (.str (⟨#[]⟩ : ByteArray))), (.d (.str (⟨#[]⟩ : ByteArray))), (.ex [])]) (by rfl) (BD rfl _ _) ?_
   refine Aa ?_
   refine BQ ?_
   refine Ae (Al (Af ?_))
   unfold Fh
   refine Ba (fun f st' => ∃ (v4 : Bool), Lc p0 v4 = some r ∧ f 1 = (.ptr (st.length + 0) 0) ∧ f 6 = (.ptr (st.length + 1) 0) ∧ f 93 = (.d (.bool v4)) ∧ st' = st ++ [(.box [(.d (.int .i64 p0.Op)), (.d (.int .i64 p0.N)), (.d (.str p0.S)), (.d (.str p0.Name)), (.d (.str p0.Src)), (.d (.sl (List.map TE.row p0.Args)))]), (.box [(.d (.int .i64 (0 : Int))), (.d (.int .i64 (0 : Int))), (.d (.str p0.S)), (.d (.str (⟨#[]⟩ : ByteArray))), (.d (.str (⟨#[]⟩ : ByteArray))), (.ex [])])]) ?_ ?_
   · unfold DS
     refine Ab (e_t (em rfl eh)) (Ab (e_t eh) ?_)
     refine Ar eh hr (fun hr => ?_) (fun hr => ?_)
     rotate_left
     · refine Ah eh (Ah (em rfl eh) (Ah (Ac rfl eh) (Ah (Ac rfl (em rfl eh)) (Ah (Ad rfl eh) (An (e_t (Ad rfl (em rfl eh))) e_c ?_)))))
       refine Aa ?_
       exact ⟨false, hr, (Ai rfl (Ai rfl (Ad rfl eh))), (Ai rfl (Ak rfl (em rfl eh))), eh, rfl⟩
     refine Aj eh ?_
     refine AA (e_t (Ai rfl (Ac rfl (em rfl eh)))) (by rfl) ?_
     refine Aj (em rfl eh) ?_
     refine Ao (e_t eh) (gx 1 rfl) (by rfl) ?_
     refine Aj (Ac rfl eh) ?_
     refine AA (e_t (Ai rfl (Ak rfl (Ad rfl (Ad rfl eh))))) (by rfl) ?_
     refine Aj (Ac rfl (em rfl eh)) ?_
     refine Ao (e_t eh) (gx 0 rfl) (by rfl) ?_
     refine Aj (Ad rfl eh) ?_
     refine Ap (e_t (Ac rfl eh)) (e_t eh) (Ci ?_)
     refine Am (e_t (Ad rfl (em rfl eh))) (e_t eh) (Aa ?_)
     exact ⟨(decide ((0 : Int) = p0.N)), hr, (Ai rfl (Ai rfl (Ad rfl eh))), (Ai rfl (Ak rfl (em rfl eh))), eh, rfl⟩
   rintro f st' ⟨v4, hr, h1, h6, h93, rfl⟩
   rw [Lc] at hr
   refine Ba (fun f st' => ∃ (v5 : Bool), KP p0 v5 = some r ∧ f 1 = (.ptr (st.length + 0) 0) ∧ f 6 = (.ptr (st.length + 1) 0) ∧ f 100 = (.d (.bool v5)) ∧ st' = st ++ [(.box [(.d (.int .i64 p0.Op)), (.d (.int .i64 p0.N)), (.d (.str p0.S)), (.d (.str p0.Name)), (.d (.str p0.Src)), (.d (.sl (List.map TE.row p0.Args)))]), (.box [(.d (.int .i64 (0 : Int))), (.d (.int .i64 (0 : Int))), (.d (.str p0.S)), (.d (.str (⟨#[]⟩ : ByteArray))), (.d (.str (⟨#[]⟩ : ByteArray))), (.ex [])])]) ?_ ?_
   · unfold DN
     refine Ab (e_t h93) ?_
     refine Ar eh hr (fun hr => ?_) (fun hr => ?_)
     rotate_left
     · refine Ah eh (Ah (em rfl eh) (Ah (Ac rfl eh) (Ah (Ac rfl (em rfl eh)) (Ah (Ad rfl eh) (An (e_t (Ad rfl (em rfl eh))) e_c ?_)))))
       refine Aa ?_
       exact ⟨false, hr, (Ad rfl (Ad rfl h1)), (Ad rfl (Ad rfl h6)), eh, rfl⟩
     refine Aj eh ?_
     refine AA (e_t (Ac rfl h6)) (by rfl) ?_
     refine Aj (em rfl eh) ?_
     refine Ao (e_t eh) (gx 1 rfl) (by rfl) ?_
     refine Aj (Ac rfl eh) ?_
     refine AA (e_t (Ad rfl h1)) (by rfl) ?_
     refine Aj (Ac rfl (em rfl eh)) ?_
     refine Ao (e_t eh) (gx 0 rfl) (by rfl) ?_
     refine Aj (Ad rfl eh) ?_
     refine Ap (e_t (Ac rfl eh)) (e_t eh) (Do ?_)
     refine Am (e_t (Ad rfl (em rfl eh))) (e_t eh) (Aa ?_)
     exact ⟨(decide (p0.S = p0.S)), hr, (Ad rfl (Ad rfl h1)), (Ad rfl (Ad rfl h6)), eh, rfl⟩
   rintro f st' ⟨v5, hr, h1, h6, h100, rfl⟩
   rw [KP] at hr
   refine Ba (fun f st' => ∃ (v6 : Bool), KJ p0 v6 = some r ∧ f 1 = (.ptr (st.length + 0) 0) ∧ f 6 = (.ptr (st.length + 1) 0) ∧ f 107 = (.d (.bool v6)) ∧ st' = st ++ [(.box [(.d (.int .i64 p0.Op)), (.d (.int .i64 p0.N)), (.d (.str p0.S)), (.d (.str p0.Name)), (.d (.str p0.Src)), (.d (.sl (List.map TE.row p0.Args)))]), (.box [(.d (.int .i64 (0 : Int))), (.d (.int .i64 (0 : Int))), (.d (.str p0.S)), (.d (.str (⟨#[]⟩ : ByteArray))), (.d (.str (⟨#[]⟩ : ByteArray))), (.ex [])])]) ?_ ?_
   · unfold DO
     refine Ab (e_t h100) ?_
     refine Ar eh hr (fun hr => ?_) (fun hr => ?_)
     rotate_left
     · refine Ah eh (Ah (em rfl eh) (Ah (Ac rfl eh) (Ah (Ac rfl (em rfl eh)) (Ah (Ad rfl eh) (An (e_t (Ad rfl (em rfl eh))) e_c ?_)))))
       refine Aa ?_
       exact ⟨false, hr, (Ad rfl (Ad rfl h1)), (Ad rfl (Ad rfl h6)), eh, rfl⟩
     refine Aj eh ?_
     refine AA (e_t (Ac rfl h6)) (by rfl) ?_
     refine Aj (em rfl eh) ?_
     refine Ao (e_t eh) (gx 1 rfl) (by rfl) ?_
     refine Aj (Ac rfl eh) ?_
     refine AA (e_t (Ad rfl h1)) (by rfl) ?_
     refine Aj (Ac rfl (em rfl eh)) ?_
     refine Ao (e_t eh) (gx 0 rfl) (by rfl) ?_
     refine Aj (Ad rfl eh) ?_
     refine Ap (e_t (Ac rfl eh)) (e_t eh) (Do ?_)
     refine Am (e_t (Ad rfl (em rfl eh))) (e_t eh) (Aa ?_)
     exact ⟨(decide ((⟨#[]⟩ : ByteArray) = p0.Name)), hr, (Ad rfl (Ad rfl h1)), (Ad rfl (Ad rfl h6)), eh, rfl⟩
   rintro f st' ⟨v6, hr, h1, h6, h107, rfl⟩
   rw [KJ] at hr
   refine Bh ?_
   unfold DR
   refine Ab (e_t h107) ?_
   refine Ar eh hr (fun hr => ?_) (fun hr => ?_)
   rotate_left
   · refine Ah eh (Ah (em rfl eh) (Ah (Ac rfl eh) (Ah (Ac rfl (em rfl eh)) (Ah (Ad rfl eh) (An (e_t (Ad rfl (em rfl eh))) e_c ?_)))))
     refine Aa ?_
     unfold BE
     refine Ab (e_t eh) (Aa (Ae (AH ?_)))
     cases hr
     exact A5 (AE eh AG) (AK AF v_d) (As hwf) h
   refine Aj eh ?_
   refine AA (e_t (Ac rfl h6)) (by rfl) ?_
   refine Aj (em rfl eh) ?_
   refine Ao (e_t eh) (gx 1 rfl) (by rfl) ?_
   refine Aj (Ac rfl eh) ?_
   refine AA (e_t (Ad rfl h1)) (by rfl) ?_
   refine Aj (Ac rfl (em rfl eh)) ?_
   refine Ao (e_t eh) (gx 0 rfl) (by rfl) ?_
   refine Aj (Ad rfl eh) ?_
   refine Ap (e_t (Ac rfl eh)) (e_t eh) (Do ?_)
   refine Am (e_t (Ad rfl (em rfl eh))) (e_t eh) (Aa ?_)
   unfold BE
   refine Ab (e_t eh) (Aa (Ae (AH ?_)))
   cases hr
   exact A5 (AE eh AG) (AK AF v_d) (As hwf) h
 refine Al (Af ?_)
 unfold AF7
 refine AA (e_t (Ai rfl (Ac rfl (em rfl eh)))) (by rfl) ?_
 refine Ao (e_t eh) (gx 0 rfl) (by rfl) ?_
 refine Ap (e_t eh) e_c (Ci ?_)
 refine Ab (e_t eh) (Aa (Ae ?_))
 refine AB (e_t eh) hr (fun hr => ?_) (fun hr => ?_)
 · refine EQ (k := 2) rfl rfl ?_
   unfold AN2
   refine AA (e_t (Ai rfl (Ad rfl (Ac rfl (em rfl eh))))) (by rfl) ?_
   refine Ao (e_t eh) (gx 0 rfl) (by rfl) ?_
   refine Ap (e_t eh) e_c (Ck4 (by decide) ?_)
   refine Ap (e_t eh) e_c (Ci ?_)
   refine AA (e_t (Ai rfl (Ak rfl (Ac rfl (em rfl eh))))) (by rfl) ?_
   refine Ao (e_t eh) (gx 0 rfl) (by rfl) ?_
   refine Ab (e_t (Ac rfl eh)) ?_
   refine AA (e_t (Ai rfl (Ac rfl (em rfl eh)))) (by rfl) ?_
   refine BB (e_t eh) (gx 1 rfl) (e_t (Ac rfl eh)) A2 rfl (Nat.le_of_ble_eq_true rfl) (by rfl) (cells' := [(.d (.int .i64 (0 : Int))), (.d (.int .i64 p0.N)), (.d (.str (⟨#[]⟩ : ByteArray))), (.d (.str (⟨#[]⟩ : ByteArray))), (.d (.str (⟨#[]⟩ : ByteArray))), (.ex [])]) (by rfl) (BD rfl _ _) ?_
   refine Aa ?_
   refine BQ ?_
   refine Ae (Al (Af ?_))
   unfold Fh
   refine Ba (fun f st' => ∃ (v7 : Bool), Lp p0 v7 = some r ∧ f 1 = (.ptr (st.length + 0) 0) ∧ f 6 = (.ptr (st.length + 1) 0) ∧ f 93 = (.d (.bool v7)) ∧ st' = st ++ [(.box [(.d (.int .i64 p0.Op)), (.d (.int .i64 p0.N)), (.d (.str p0.S)), (.d (.str p0.Name)), (.d (.str p0.Src)), (.d (.sl (List.map TE.row p0.Args)))]), (.box [(.d (.int .i64 (0 : Int))), (.d (.int .i64 p0.N)), (.d (.str (⟨#[]⟩ : ByteArray))), (.d (.str (⟨#[]⟩ : ByteArray))), (.d (.str (⟨#[]⟩ : ByteArray))), (.ex [])])]) ?_ ?_
   · unfold DS
     refine Ab (e_t (em rfl eh)) (Ab (e_t eh) ?_)
     refine Ar eh hr (fun hr => ?_) (fun hr => ?_)
     rotate_left
     · refine Ah eh (Ah (em rfl eh) (Ah (Ac rfl eh) (Ah (Ac rfl (em rfl eh)) (Ah (Ad rfl eh) (An (e_t (Ad rfl (em rfl eh))) e_c ?_)))))
       refine Aa ?_
       exact ⟨false, hr, (Ai rfl (Ai rfl (Ad rfl (Ad rfl eh)))), (Ai rfl (Ak rfl (Ad rfl (em rfl eh)))), eh, rfl⟩
     refine Aj eh ?_
     refine AA (e_t (Ai rfl (Ad rfl (Ac rfl (em rfl eh))))) (by rfl) ?_
     refine Aj (em rfl eh) ?_
     refine Ao (e_t eh) (gx 1 rfl) (by rfl) ?_
     refine Aj (Ac rfl eh) ?_
     refine AA (e_t (Ai rfl (Ai rfl (Ad rfl eh)))) (by rfl) ?_
     refine Aj (Ac rfl (em rfl eh)) ?_
     refine Ao (e_t eh) (gx 0 rfl) (by rfl) ?_
     refine Aj (Ad rfl eh) ?_
     refine Ap (e_t (Ac rfl eh)) (e_t eh) (Ci ?_)
     refine Am (e_t (Ad rfl (em rfl eh))) (e_t eh) (Aa ?_)
     exact ⟨(decide (p0.N = p0.N)), hr, (Ai rfl (Ai rfl (Ad rfl (Ad rfl eh)))), (Ai rfl (Ak rfl (Ad rfl (em rfl eh)))), eh, rfl⟩
   rintro f st' ⟨v7, hr, h1, h6, h93, rfl⟩
   rw [Lp] at hr
   refine Ba (fun f st' => ∃ (v8 : Bool), Lk p0 v8 = some r ∧ f 1 = (.ptr (st.length + 0) 0) ∧ f 6 = (.ptr (st.length + 1) 0) ∧ f 100 = (.d (.bool v8)) ∧ st' = st ++ [(.box [(.d (.int .i64 p0.Op)), (.d (.int .i64 p0.N)), (.d (.str p0.S)), (.d (.str p0.Name)), (.d (.str p0.Src)), (.d (.sl (List.map TE.row p0.Args)))]), (.box [(.d (.int .i64 (0 : Int))), (.d (.int .i64 p0.N)), (.d (.str (⟨#[]⟩ : ByteArray))), (.d (.str (⟨#[]⟩ : ByteArray))), (.d (.str (⟨#[]⟩ : ByteArray))), (.ex [])])]) ?_ ?_
   · unfold DN
     refine Ab (e_t h93) ?_
     refine Ar eh hr (fun hr => ?_) (fun hr => ?_)
     rotate_left
     · refine Ah eh (Ah (em rfl eh) (Ah (Ac rfl eh) (Ah (Ac rfl (em rfl eh)) (Ah (Ad rfl eh) (An (e_t (Ad rfl (em rfl eh))) e_c ?_)))))
       refine Aa ?_
       exact ⟨false, hr, (Ad rfl (Ad rfl h1)), (Ad rfl (Ad rfl h6)), eh, rfl⟩
     refine Aj eh ?_
     refine AA (e_t (Ac rfl h6)) (by rfl) ?_
     refine Aj (em rfl eh) ?_
     refine Ao (e_t eh) (gx 1 rfl) (by rfl) ?_
     refine Aj (Ac rfl eh) ?_
     refine AA (e_t (Ad rfl h1)) (by rfl) ?_
     refine Aj (Ac rfl (em rfl eh)) ?_
     refine Ao (e_t eh) (gx 0 rfl) (by rfl) ?_
     refine Aj (Ad rfl eh) ?_
     refine Ap (e_t (Ac rfl eh)) (e_t eh) (Do ?_)
     refine Am (e_t (Ad rfl (em rfl eh))) (e_t eh) (Aa ?_)
     exact ⟨(decide ((⟨#[]⟩ : ByteArray) = p0.S)), hr, (Ad rfl (Ad rfl h1)), (Ad rfl (Ad rfl h6)), eh, rfl⟩
   rintro f st' ⟨v8, hr, h1, h6, h100, rfl⟩
   rw [Lk] at hr
   refine Ba (fun f st' => ∃ (v9 : Bool), K1 p0 v9 = some r ∧ f 1 = (.ptr (st.length + 0) 0) ∧ f 6 = (.ptr (st.length + 1) 0) ∧ f 107 = (.d (.bool v9)) ∧ st' = st ++ [(.box [(.d (.int .i64 p0.Op)), (.d (.int .i64 p0.N)), (.d (.str p0.S)), (.d (.str p0.Name)), (.d (.str p0.Src)), (.d (.sl (List.map TE.row p0.Args)))]), (.box [(.d (.int .i64 (0 : Int))), (.d (.int .i64 p0.N)), (.d (.str (⟨#[]⟩ : ByteArray))), (.d (.str (⟨#[]⟩ : ByteArray))), (.d (.str (⟨#[]⟩ : ByteArray))), (.ex [])])]) ?_ ?_
   · unfold DO
     refine Ab (e_t h100) ?_
     refine Ar eh hr (fun hr => ?_) (fun hr => ?_)
     rotate_left
     · refine Ah eh (Ah (em rfl eh) (Ah (Ac rfl eh) (Ah (Ac rfl (em rfl eh)) (Ah (Ad rfl eh) (An (e_t (Ad rfl (em rfl eh))) e_c ?_)))))
       refine Aa ?_
       exact ⟨false, hr, (Ad rfl (Ad rfl h1)), (Ad rfl (Ad rfl h6)), eh, rfl⟩
     refine Aj eh ?_
     refine AA (e_t (Ac rfl h6)) (by rfl) ?_
     refine Aj (em rfl eh) ?_
     refine Ao (e_t eh) (gx 1 rfl) (by rfl) ?_
     refine Aj (Ac rfl eh) ?_
     refine AA (e_t (Ad rfl h1)) (by rfl) ?_
     refine Aj (Ac rfl (em rfl eh)) ?_
     refine Ao (e_t eh) (gx 0 rfl) (by rfl) ?_
     refine Aj (Ad rfl eh) ?_
     refine Ap (e_t (Ac rfl eh)) (e_t eh) (Do ?_)
     refine Am (e_t (Ad rfl (em rfl eh))) (e_t eh) (Aa ?_)
     exact ⟨(decide ((⟨#[]⟩ : ByteArray) = p0.Name)), hr, (Ad rfl (Ad rfl h1)), (Ad rfl (Ad rfl h6)), eh, rfl⟩
   rintro f st' ⟨v9, hr, h1, h6, h107, rfl⟩
   rw [K1] at hr
   refine Bh ?_
   unfold DR
   refine Ab (e_t h107) ?_
   refine Ar eh hr (fun hr => ?_) (fun hr => ?_)
   rotate_left
   · refine Ah eh (Ah (em rfl eh) (Ah (Ac rfl eh) (Ah (Ac rfl (em rfl eh)) (Ah (Ad rfl eh) (An (e_t (Ad rfl (em rfl eh))) e_c ?_)))))
     refine Aa ?_
     unfold BE
     refine Ab (e_t eh) (Aa (Ae (AH ?_)))
     cases hr
     exact A5 (AE eh AG) (AK AF v_d) (As hwf) h
   refine Aj eh ?_
   refine AA (e_t (Ac rfl h6)) (by rfl) ?_
   refine Aj (em rfl eh) ?_
   refine Ao (e_t eh) (gx 1 rfl) (by rfl) ?_
   refine Aj (Ac rfl eh) ?_
   refine AA (e_t (Ad rfl h1)) (by rfl) ?_
   refine Aj (Ac rfl (em rfl eh)) ?_
   refine Ao (e_t eh) (gx 0 rfl) (by rfl) ?_
   refine Aj (Ad rfl eh) ?_
   refine Ap (e_t (Ac rfl eh)) (e_t eh) (Do ?_)
   refine Am (e_t (Ad rfl (em rfl eh))) (e_t eh) (Aa ?_)
   unfold BE
   refine Ab (e_t eh) (Aa (Ae (AH ?_)))
   cases hr
   exact A5 (AE eh AG) (AK AF v_d) (As hwf) h
 refine Al (Af ?_)
 unfold Aq1
 refine AA (e_t (Ai rfl (Ad rfl (Ac rfl (em rfl eh))))) (by rfl) ?_
 refine Ao (e_t eh) (gx 0 rfl) (by rfl) ?_
 refine Ap (e_t eh) e_c (Ci ?_)
 refine Ab (e_t eh) (Aa (Ae ?_))
 refine AB (e_t eh) hr (fun hr => ?_) (fun hr => ?_)
 · refine IM (k := 2) rfl rfl ?_
   unfold Ao9
   refine Ag (R := []) rfl rfl (AA (e_t (Ai rfl (Ak rfl (Ac rfl (em rfl eh))))) (by rfl) (Aa ?_))
   refine Ag rfl (BM (e_t eh)) (Ao (e_t eh) (gx 0 rfl) (by rfl) (Aa ?_))
   refine Ag rfl (AD3 (e_t eh) (by rfl) BM9) (DW (rows := List.map rS [p0.Name]) ((AC (e_t eh) A2 (Au f_d AJ) rfl FJ)) (Aa ?_))
   obtain ⟨v10, hc_v10, hr⟩ := bind_some hr
   refine F9 (Az (e_t eh) AU8 A1) (B2 (e_t eh) (by rfl) F1) (fun st2 => Ro n ([p0.Name]) hc_v10 ⟨rfl, rfl⟩) ?_
   refine Ag (R := []) rfl rfl (AA (e_t (Ai rfl (Ak rfl (Ad rfl (Ac rfl (em rfl eh)))))) (by rfl) (Aa ?_))
   refine Ag rfl (BM (e_t eh)) (Ao (e_t eh) (gx 0 rfl) (by rfl) (Aa ?_))
   refine Ag (R := []) rfl rfl (Ab (e_t (Ac rfl eh)) (Aa ?_))
   refine Ag (R := []) rfl rfl (AA (e_t (Ai rfl (Ad rfl (Ac rfl (em rfl eh))))) (by rfl) (Aa ?_))
   refine KW (e_t eh) (gx 1 rfl) (e_t (Ac rfl eh)) A2 rfl (Nat.le_of_ble_eq_true rfl) (by rfl) (cells' := [(.d (.int .i64 (0 : Int))), (.d (.int .i64 (0 : Int))), (.d (.str (⟨#[]⟩ : ByteArray))), (.d (.str p0.Name)), (.d (.str (⟨#[]⟩ : ByteArray))), (.ex [])]) (by rfl) (BD rfl _ _) ?_
   refine BO ?_
   refine ⟨by simp [Ch, okPairs, BP, FY], ?_⟩
   refine BQ ?_
   refine Ae (Al (Af ?_))
   unfold Fh
   refine Ba (fun f st' => ∃ (v11 : Bool), K9 p0 v11 = some r ∧ f 1 = (.ptr (st.length + 0) 0) ∧ f 6 = (.ptr (st.length + 1) 0) ∧ f 93 = (.d (.bool v11)) ∧ st' = st ++ [(.box [(.d (.int .i64 p0.Op)), (.d (.int .i64 p0.N)), (.d (.str p0.S)), (.d (.str p0.Name)), (.d (.str p0.Src)), (.d (.sl (List.map TE.row p0.Args)))]), (.box [(.d (.int .i64 (0 : Int))), (.d (.int .i64 (0 : Int))), (.d (.str (⟨#[]⟩ : ByteArray))), (.d (.str p0.Name)), (.d (.str (⟨#[]⟩ : ByteArray))), (.ex [])]), .fresh]) ?_ ?_
   · unfold DS
     refine Ab (e_t (em rfl eh)) (Ab (e_t eh) ?_)
     refine Ar eh hr (fun hr => ?_) (fun hr => ?_)
     rotate_left
     · refine Ah eh (Ah (em rfl eh) (Ah (Ac rfl eh) (Ah (Ac rfl (em rfl eh)) (Ah (Ad rfl eh) (An (e_t (Ad rfl (em rfl eh))) e_c ?_)))))
       refine Aa ?_
       exact ⟨false, hr, (Ai rfl (Ai rfl (Ak rfl (Ad rfl eh)))), (Ai rfl (Ai rfl (em rfl eh))), eh, rfl⟩
     refine Aj eh ?_
     refine AA (e_t (Ai rfl (Ak rfl (Ac rfl (em rfl eh))))) (by rfl) ?_
     refine Aj (em rfl eh) ?_
     refine Ao (e_t eh) (gx 1 rfl) (by rfl) ?_
     refine Aj (Ac rfl eh) ?_
     refine AA (e_t (Ai rfl (Ai rfl (Ad rfl (Ad rfl eh))))) (by rfl) ?_
     refine Aj (Ac rfl (em rfl eh)) ?_
     refine Ao (e_t eh) (gx 0 rfl) (by rfl) ?_
     refine Aj (Ad rfl eh) ?_
     refine Ap (e_t (Ac rfl eh)) (e_t eh) (Ci ?_)
     refine Am (e_t (Ad rfl (em rfl eh))) (e_t eh) (Aa ?_)
     exact ⟨(decide ((0 : Int) = p0.N)), hr, (Ai rfl (Ai rfl (Ak rfl (Ad rfl eh)))), (Ai rfl (Ai rfl (em rfl eh))), eh, rfl⟩
   rintro f st' ⟨v11, hr, h1, h6, h93, rfl⟩
   rw [K9] at hr
   refine Ba (fun f st' => ∃ (v12 : Bool), Jl p0 v12 = some r ∧ f 1 = (.ptr (st.length + 0) 0) ∧ f 6 = (.ptr (st.length + 1) 0) ∧ f 100 = (.d (.bool v12)) ∧ st' = st ++ [(.box [(.d (.int .i64 p0.Op)), (.d (.int .i64 p0.N)), (.d (.str p0.S)), (.d (.str p0.Name)), (.d (.str p0.Src)), (.d (.sl (List.map TE.row p0.Args)))]), (.box [(.d (.int .i64 (0 : Int))), (.d (.int .i64 (0 : Int))), (.d (.str (⟨#[]⟩ : ByteArray))), (.d (.str p0.Name)), (.d (.str (⟨#[]⟩ : ByteArray))), (.ex [])]), .fresh]) ?_ ?_
   · unfold DN
     refine Ab (e_t h93) ?_
     refine Ar eh hr (fun hr => ?_) (fun hr => ?_)
     rotate_left
     · refine Ah eh (Ah (em rfl eh) (Ah (Ac rfl eh) (Ah (Ac rfl (em rfl eh)) (Ah (Ad rfl eh) (An (e_t (Ad rfl (em rfl eh))) e_c ?_)))))
       refine Aa ?_
       exact ⟨false, hr, (Ad rfl (Ad rfl h1)), (Ad rfl (Ad rfl h6)), eh, rfl⟩
     refine Aj eh ?_
     refine AA (e_t (Ac rfl h6)) (by rfl) ?_
     refine Aj (em rfl eh) ?_
     refine Ao (e_t eh) (gx 1 rfl) (by rfl) ?_
     refine Aj (Ac rfl eh) ?_
     refine AA (e_t (Ad rfl h1)) (by rfl) ?_
     refine Aj (Ac rfl (em rfl eh)) ?_
     refine Ao (e_t eh) (gx 0 rfl) (by rfl) ?_
     refine Aj (Ad rfl eh) ?_
     refine Ap (e_t (Ac rfl eh)) (e_t eh) (Do ?_)
     refine Am (e_t (Ad rfl (em rfl eh))) (e_t eh) (Aa ?_)
     exact ⟨(decide ((⟨#[]⟩ : ByteArray) = p0.S)), hr, (Ad rfl (Ad rfl h1)), (Ad rfl (Ad rfl h6)), eh, rfl⟩
   rintro f st' ⟨v12, hr, h1, h6, h100, rfl⟩
   rw [Jl] at hr
   refine Ba (fun f st' => ∃ (v13 : Bool), JA p0 v13 = some r ∧ f 1 = (.ptr (st.length + 0) 0) ∧ f 6 = (.ptr (st.length + 1) 0) ∧ f 107 = (.d (.bool v13)) ∧ st' = st ++ [(.box [(.d (.int .i64 p0.Op)), (.d (.int .i64 p0.N)), (.d (.str p0.S)), (.d (.str p0.Name)), (.d (.str p0.Src)), (.d (.sl (List.map TE.row p0.Args)))]), (.box [(.d (.int .i64 (0 : Int))), (.d (.int .i64 (0 : Int))), (.d (.str (⟨#[]⟩ : ByteArray))), (.d (.str p0.Name)), (.d (.str (⟨#[]⟩ : ByteArray))), (.ex [])]), .fresh]) ?_ ?_
   · unfold DO
     refine Ab (e_t h100) ?_
     refine Ar eh hr (fun hr => ?_) (fun hr => ?_)
     rotate_left
     · refine Ah eh (Ah (em rfl eh) (Ah (Ac rfl eh) (Ah (Ac rfl (em rfl eh)) (Ah (Ad rfl eh) (An (e_t (Ad rfl (em rfl eh))) e_c ?_)))))
       refine Aa ?_
       exact ⟨false, hr, (Ad rfl (Ad rfl h1)), (Ad rfl (Ad rfl h6)), eh, rfl⟩
     refine Aj eh ?_
     refine AA (e_t (Ac rfl h6)) (by rfl) ?_
     refine Aj (em rfl eh) ?_
     refine Ao (e_t eh) (gx 1 rfl) (by rfl) ?_
     refine Aj (Ac rfl eh) ?_
     refine AA (e_t (Ad rfl h1)) (by rfl) ?_
     refine Aj (Ac rfl (em rfl eh)) ?_
     refine Ao (e_t eh) (gx 0 rfl) (by rfl) ?_
     refine Aj (Ad rfl eh) ?_
     refine Ap (e_t (Ac rfl eh)) (e_t eh) (Do ?_)
     refine Am (e_t (Ad rfl (em rfl eh))) (e_t eh) (Aa ?_)
     exact ⟨(decide (p0.Name = p0.Name)), hr, (Ad rfl (Ad rfl h1)), (Ad rfl (Ad rfl h6)), eh, rfl⟩
   rintro f st' ⟨v13, hr, h1, h6, h107, rfl⟩
   rw [JA] at hr
   refine Bh ?_
   unfold DR
   refine Ab (e_t h107) ?_
   refine Ar eh hr (fun hr => ?_) (fun hr => ?_)
   rotate_left
   · refine Ah eh (Ah (em rfl eh) (Ah (Ac rfl eh) (Ah (Ac rfl (em rfl eh)) (Ah (Ad rfl eh) (An (e_t (Ad rfl (em rfl eh))) e_c ?_)))))
     refine Aa ?_
     unfold BE
     refine Ab (e_t eh) (Aa (Ae (AH ?_)))
     cases hr
     exact A5 (AE eh AG) (AK AF v_d) (As hwf) h
   refine Aj eh ?_
   refine AA (e_t (Ac rfl h6)) (by rfl) ?_
   refine Aj (em rfl eh) ?_
   refine Ao (e_t eh) (gx 1 rfl) (by rfl) ?_
   refine Aj (Ac rfl eh) ?_
   refine AA (e_t (Ad rfl h1)) (by rfl) ?_
   refine Aj (Ac rfl (em rfl eh)) ?_
   refine Ao (e_t eh) (gx 0 rfl) (by rfl) ?_
   refine Aj (Ad rfl eh) ?_
   refine Ap (e_t (Ac rfl eh)) (e_t eh) (Do ?_)
   refine Am (e_t (Ad rfl (em rfl eh))) (e_t eh) (Aa ?_)
   unfold BE
   refine Ab (e_t eh) (Aa (Ae (AH ?_)))
   cases hr
   exact A5 (AE eh AG) (AK AF v_d) (As hwf) h
 refine Al (Af ?_)
 unfold Ar3
 refine AA (e_t (Ai rfl (Ak rfl (Ac rfl (em rfl eh))))) (by rfl) ?_
 refine Ao (e_t eh) (gx 0 rfl) (by rfl) ?_
 refine Ap (e_t eh) e_c (Ci ?_)
 refine Ab (e_t eh) (Aa (Ae ?_))
 refine AB (e_t eh) hr (fun hr => ?_) (fun hr => ?_)
 · refine IM (k := 2) rfl rfl ?_
   unfold Ar0
   refine Ag (R := []) rfl rfl (AA (e_t (Ai rfl (Ak rfl (Ad rfl (Ac rfl (em rfl eh)))))) (by rfl) (Aa ?_))
   refine Ag rfl (BM (e_t eh)) (Ao (e_t eh) (gx 0 rfl) (by rfl) (Aa ?_))
   refine Ag (R := []) rfl rfl (AA (e_t (Ai rfl (Ai rfl (em rfl eh)))) (by rfl) (Aa ?_))
   refine Ag rfl (BM (e_t eh)) (Ao (e_t eh) (gx 0 rfl) (by rfl) (Aa ?_))
   refine Ag rfl (AD3 (e_t (Ac rfl eh)) (by rfl) (AD3 (e_t eh) (by rfl) BM9)) (DW (rows := List.map rS [p0.Name, p0.S]) ((AC (e_t (Ac rfl eh)) A2 (Au f_d AJ) rfl (AC (e_t eh) A2 (Au f_d AJ) rfl FJ))) (Aa ?_))
   obtain ⟨v14, hc_v14, hr⟩ := bind_some hr
   refine F9 (Az (e_t eh) AU8 A1) (B2 (e_t eh) (by rfl) F1) (fun st2 => Ro n ([p0.Name, p0.S]) hc_v14 ⟨rfl, rfl⟩) ?_
   refine Ag (R := []) rfl rfl (AA (e_t (Ai rfl (Ai rfl (Ad rfl (em rfl eh))))) (by rfl) (Aa ?_))
   refine Ag rfl (BM (e_t eh)) (Ao (e_t eh) (gx 0 rfl) (by rfl) (Aa ?_))
   refine Ag (R := []) rfl rfl (AA (e_t (Ai rfl (Ai rfl (Ad rfl (Ac rfl (em rfl eh)))))) (by rfl) (Aa ?_))
   refine Ag rfl (BM (e_t eh)) (Ao (e_t eh) (gx 0 rfl) (by rfl) (Aa ?_))
   refine Ag (R := []) rfl rfl (Ab (e_t (Ad rfl eh)) (Aa ?_))
   refine Ag (R := []) rfl rfl (AA (e_t (Ai rfl (Ak rfl (Ad rfl (Ac rfl (em rfl eh)))))) (by rfl) (Aa ?_))
   refine KW (e_t eh) (gx 1 rfl) (e_t (Ad rfl eh)) A2 rfl (Nat.le_of_ble_eq_true rfl) (by rfl) (cells' := [(.d (.int .i64 (0 : Int))), (.d (.int .i64 (0 : Int))), (.d (.str (⟨#[]⟩ : ByteArray))), (.d (.str p0.Name)), (.d (.str (⟨#[]⟩ : ByteArray))), (.ex [])]) (by rfl) (BD rfl _ _) ?_
   refine Ag (R := []) rfl rfl (AA (e_t (Ai rfl (Ak rfl (Ad rfl (Ad rfl eh))))) (by rfl) (Aa ?_))
   refine KW (e_t eh) (gx 1 rfl) (e_t (Ac rfl (em rfl eh))) A2 rfl (Nat.le_of_ble_eq_true rfl) (by rfl) (cells' := [(.d (.int .i64 (0 : Int))), (.d (.int .i64 (0 : Int))), (.d (.str p0.S)), (.d (.str p0.Name)), (.d (.str (⟨#[]⟩ : ByteArray))), (.ex [])]) (by rfl) (BD rfl _ _) ?_
   refine BO ?_
   refine ⟨by simp [Ch, okPairs, BP, FY], ?_⟩
   refine BQ ?_
   refine Ae (Al (Af ?_))
   unfold Fh
   refine Ba (fun f st' => ∃ (v15 : Bool), Jk p0 v15 = some r ∧ f 1 = (.ptr (st.length + 0) 0) ∧ f 6 = (.ptr (st.length + 1) 0) ∧ f 93 = (.d (.bool v15)) ∧ st' = st ++ [(.box [(.d (.int .i64 p0.Op)), (.d (.int .i64 p0.N)), (.d (.str p0.S)), (.d (.str p0.Name)), (.d (.str p0.Src)), (.d (.sl (List.map TE.row p0.Args)))]), (.box [(.d (.int .i64 (0 : Int))), (.d (.int .i64 (0 : Int))), (.d (.str p0.S)), (.d (.str p0.Name)), (.d (.str (⟨#[]⟩ : ByteArray))), (.ex [])]), .fresh]) ?_ ?_
   · unfold DS
     refine Ab (e_t (Ac rfl eh)) (Ab (e_t eh) ?_)
     refine Ar eh hr (fun hr => ?_) (fun hr => ?_)
     rotate_left
     · refine Ah eh (Ah (em rfl eh) (Ah (Ac rfl eh) (Ah (Ac rfl (em rfl eh)) (Ah (Ad rfl eh) (An (e_t (Ad rfl (em rfl eh))) e_c ?_)))))
       refine Aa ?_
       exact ⟨false, hr, (Ai rfl (Ai rfl (Ai rfl (Ad rfl (em rfl eh))))), (Ai rfl (Ai rfl (Ak rfl (Ac rfl eh)))), eh, rfl⟩
     refine Aj eh ?_
     refine AA (e_t (Ai rfl (Ai rfl (Ad rfl eh)))) (by rfl) ?_
     refine Aj (em rfl eh) ?_
     refine Ao (e_t eh) (gx 1 rfl) (by rfl) ?_
     refine Aj (Ac rfl eh) ?_
     refine AA (e_t (Ai rfl (Ai rfl (Ai rfl (em rfl eh))))) (by rfl) ?_
     refine Aj (Ac rfl (em rfl eh)) ?_
     refine Ao (e_t eh) (gx 0 rfl) (by rfl) ?_
     refine Aj (Ad rfl eh) ?_
     refine Ap (e_t (Ac rfl eh)) (e_t eh) (Ci ?_)
     refine Am (e_t (Ad rfl (em rfl eh))) (e_t eh) (Aa ?_)
     exact ⟨(decide ((0 : Int) = p0.N)), hr, (Ai rfl (Ai rfl (Ai rfl (Ad rfl (em rfl eh))))), (Ai rfl (Ai rfl (Ak rfl (Ac rfl eh)))), eh, rfl⟩
   rintro f st' ⟨v15, hr, h1, h6, h93, rfl⟩
   rw [Jk] at hr
   refine Ba (fun f st' => ∃ (v16 : Bool), Jm p0 v16 = some r ∧ f 1 = (.ptr (st.length + 0) 0) ∧ f 6 = (.ptr (st.length + 1) 0) ∧ f 100 = (.d (.bool v16)) ∧ st' = st ++ [(.box [(.d (.int .i64 p0.Op)), (.d (.int .i64 p0.N)), (.d (.str p0.S)), (.d (.str p0.Name)), (.d (.str p0.Src)), (.d (.sl (List.map TE.row p0.Args)))]), (.box [(.d (.int .i64 (0 : Int))), (.d (.int .i64 (0 : Int))), (.d (.str p0.S)), (.d (.str p0.Name)), (.d (.str (⟨#[]⟩ : ByteArray))), (.ex [])]), .fresh]) ?_ ?_
   · unfold DN
     refine Ab (e_t h93) ?_
     refine Ar eh hr (fun hr => ?_) (fun hr => ?_)
     rotate_left
     · refine Ah eh (Ah (em rfl eh) (Ah (Ac rfl eh) (Ah (Ac rfl (em rfl eh)) (Ah (Ad rfl eh) (An (e_t (Ad rfl (em rfl eh))) e_c ?_)))))
       refine Aa ?_
       exact ⟨false, hr, (Ad rfl (Ad rfl h1)), (Ad rfl (Ad rfl h6)), eh, rfl⟩
     refine Aj eh ?_
     refine AA (e_t (Ac rfl h6)) (by rfl) ?_
     refine Aj (em rfl eh) ?_
     refine Ao (e_t eh) (gx 1 rfl) (by rfl) ?_
     refine Aj (Ac rfl eh) ?_
     refine AA (e_t (Ad rfl h1)) (by rfl) ?_
     refine Aj (Ac rfl (em rfl eh)) ?_
     refine Ao (e_t eh) (gx 0 rfl) (by rfl) ?_
     refine Aj (Ad rfl eh) ?_
     refine Ap (e_t (Ac rfl eh)) (e_t eh) (Do ?_)
     refine Am (e_t (Ad rfl (em rfl eh))) (e_t eh) (Aa ?_)
     exact ⟨(decide (p0.S = p0.S)), hr, (Ad rfl (Ad rfl h1)), (Ad rfl (Ad rfl h6)), eh, rfl⟩
   rintro f st' ⟨v16, hr, h1, h6, h100, rfl⟩
   rw [Jm] at hr
   refine Ba (fun f st' => ∃ (v17 : Bool), Jj p0 v17 = some r ∧ f 1 = (.ptr (st.length + 0) 0) ∧ f 6 = (.ptr (st.length + 1) 0) ∧ f 107 = (.d (.bool v17)) ∧ st' = st ++ [(.box [(.d (.int .i64 p0.Op)), (.d (.int .i64 p0.N)), (.d (.str p0.S)), (.d (.str p0.Name)), (.d (.str p0.Src)), (.d (.sl (List.map TE.row p0.Args)))]), (.box [(.d (.int .i64 (0 : Int))), (.d (.int .i64 (0 : Int))), (.d (.str p0.S)), (.d (.str p0.Name)), (.d (.str (⟨#[]⟩ : ByteArray))), (.ex [])]), .fresh]) ?_ ?_
   · unfold DO
     refine Ab (e_t h100) ?_
     refine Ar eh hr (fun hr => ?_) (fun hr => ?_)
     rotate_left
     · refine Ah eh (Ah (em rfl eh) (Ah (Ac rfl eh) (Ah (Ac rfl (em rfl eh)) (Ah (Ad rfl eh) (An (e_t (Ad rfl (em rfl eh))) e_c ?_)))))
       refine Aa ?_
       exact ⟨false, hr, (Ad rfl (Ad rfl h1)), (Ad rfl (Ad rfl h6)), eh, rfl⟩
     refine Aj eh ?_
     refine AA (e_t (Ac rfl h6)) (by rfl) ?_
     refine Aj (em rfl eh) ?_
     refine Ao (e_t eh) (gx 1 rfl) (by rfl) ?_
     refine Aj (Ac rfl eh) ?_
     refine AA (e_t (Ad rfl h1)) (by rfl) ?_
     refine Aj (Ac rfl (em rfl eh)) ?_
     refine Ao (e_t eh) (gx 0 rfl) (by rfl) ?_
     refine Aj (Ad rfl eh) ?_
     refine Ap (e_t (Ac rfl eh)) (e_t eh) (Do ?_)
     refine Am (e_t (Ad rfl (em rfl eh))) (e_t eh) (Aa ?_)
     exact ⟨(decide (p0.Name = p0.Name)), hr, (Ad rfl (Ad rfl h1)), (Ad rfl (Ad rfl h6)), eh, rfl⟩
   rintro f st' ⟨v17, hr, h1, h6, h107, rfl⟩
   rw [Jj] at hr
   refine Bh ?_
   unfold DR
   refine Ab (e_t h107) ?_
   refine Ar eh hr (fun hr => ?_) (fun hr => ?_)
   rotate_left
   · refine Ah eh (Ah (em rfl eh) (Ah (Ac rfl eh) (Ah (Ac rfl (em rfl eh)) (Ah (Ad rfl eh) (An (e_t (Ad rfl (em rfl eh))) e_c ?_)))))
     refine Aa ?_
     unfold BE
     refine Ab (e_t eh) (Aa (Ae (AH ?_)))
     cases hr
     exact A5 (AE eh AG) (AK AF v_d) (As hwf) h
   refine Aj eh ?_
   refine AA (e_t (Ac rfl h6)) (by rfl) ?_
   refine Aj (em rfl eh) ?_
   refine Ao (e_t eh) (gx 1 rfl) (by rfl) ?_
   refine Aj (Ac rfl eh) ?_
   refine AA (e_t (Ad rfl h1)) (by rfl) ?_
   refine Aj (Ac rfl (em rfl eh)) ?_
   refine Ao (e_t eh) (gx 0 rfl) (by rfl) ?_
   refine Aj (Ad rfl eh) ?_
   refine Ap (e_t (Ac rfl eh)) (e_t eh) (Do ?_)
   refine Am (e_t (Ad rfl (em rfl eh))) (e_t eh) (Aa ?_)
   unfold BE
   refine Ab (e_t eh) (Aa (Ae (AH ?_)))
   cases hr
   exact A5 (AE eh AG) (AK AF v_d) (As hwf) h
 refine Al (Af ?_)
 unfold Ap2
 refine Ab (e_t (Ai rfl (Ad rfl (Ac rfl eh)))) (Ab (e_t eh) (Aa (Ae ?_)))
 refine AB (e_t eh) hr (fun hr => ?_) (fun hr => ?_)
 rotate_left
 · refine Af ?_
   unfold Ap9
   refine Ab e_c (Aa ?_)
   refine BQ ?_
   refine Ae (Al (Af ?_))
   unfold Fh
   refine Bh ?_
   unfold DS
   refine Ab (e_t eh) (Ab (e_t eh) (Aj eh ?_))
   refine AA (e_t (Ai rfl (Ak rfl (em rfl eh)))) (by rfl) ?_
   refine Aj (em rfl eh) ?_
   refine Ao (e_t eh) (gx 1 rfl) (by rfl) ?_
   refine Aj (Ac rfl eh) ?_
   refine AA (e_t (Ai rfl (Ai rfl (Ad rfl (Ac rfl eh))))) (by rfl) ?_
   refine Aj (Ac rfl (em rfl eh)) ?_
   refine Ao (e_t eh) (gx 0 rfl) (by rfl) ?_
   refine Aj (Ad rfl eh) ?_
   refine Ap (e_t (Ac rfl eh)) (e_t eh) (Ci ?_)
   refine Am (e_t (Ad rfl (em rfl eh))) (e_t eh) (Aa ?_)
   refine Ba (fun f st' => ∃ (v22 : Bool), Jg p0 v22 = some r ∧ f 1 = (.ptr (st.length + 0) 0) ∧ f 6 = (.ptr (st.length + 1) 0) ∧ f 100 = (.d (.bool v22)) ∧ st' = st ++ [(.box [(.d (.int .i64 p0.Op)), (.d (.int .i64 p0.N)), (.d (.str p0.S)), (.d (.str p0.Name)), (.d (.str p0.Src)), (.d (.sl (List.map TE.row p0.Args)))]), (.box [(.d (.int .i64 (0 : Int))), (.d (.int .i64 (0 : Int))), (.d (.str (⟨#[]⟩ : ByteArray))), (.d (.str (⟨#[]⟩ : ByteArray))), (.d (.str (⟨#[]⟩ : ByteArray))), (.ex [])])]) ?_ ?_
   · unfold DN
     refine Ab (e_t eh) ?_
     refine Ar eh hr (fun hr => ?_) (fun hr => ?_)
     rotate_left
     · refine Ah eh (Ah (em rfl eh) (Ah (Ac rfl eh) (Ah (Ac rfl (em rfl eh)) (Ah (Ad rfl eh) (An (e_t (Ad rfl (em rfl eh))) e_c ?_)))))
       refine Aa ?_
       exact ⟨false, hr, (Ai rfl (Ai rfl (Ai rfl (Ac rfl eh)))), (Ai rfl (Ai rfl (Ad rfl (Ac rfl (em rfl eh))))), eh, rfl⟩
     refine Aj eh ?_
     refine AA (e_t (Ai rfl (Ai rfl (em rfl eh)))) (by rfl) ?_
     refine Aj (em rfl eh) ?_
     refine Ao (e_t eh) (gx 1 rfl) (by rfl) ?_
     refine Aj (Ac rfl eh) ?_
     refine AA (e_t (Ai rfl (Ai rfl (Ak rfl (Ad rfl (Ac rfl eh)))))) (by rfl) ?_
     refine Aj (Ac rfl (em rfl eh)) ?_
     refine Ao (e_t eh) (gx 0 rfl) (by rfl) ?_
     refine Aj (Ad rfl eh) ?_
     refine Ap (e_t (Ac rfl eh)) (e_t eh) (Do ?_)
     refine Am (e_t (Ad rfl (em rfl eh))) (e_t eh) (Aa ?_)
     exact ⟨(decide ((⟨#[]⟩ : ByteArray) = p0.S)), hr, (Ai rfl (Ai rfl (Ai rfl (Ac rfl eh)))), (Ai rfl (Ai rfl (Ad rfl (Ac rfl (em rfl eh))))), eh, rfl⟩
   rintro f st' ⟨v22, hr, h1, h6, h100, rfl⟩
   rw [Jg] at hr
   refine Ba (fun f st' => ∃ (v23 : Bool), Ju p0 v23 = some r ∧ f 1 = (.ptr (st.length + 0) 0) ∧ f 6 = (.ptr (st.length + 1) 0) ∧ f 107 = (.d (.bool v23)) ∧ st' = st ++ [(.box [(.d (.int .i64 p0.Op)), (.d (.int .i64 p0.N)), (.d (.str p0.S)), (.d (.str p0.Name)), (.d (.str p0.Src)), (.d (.sl (List.map TE.row p0.Args)))]), (.box [(.d (.int .i64 (0 : Int))), (.d (.int .i64 (0 : Int))), (.d (.str (⟨#[]⟩ : ByteArray))), (.d (.str (⟨#[]⟩ : ByteArray))), (.d (.str (⟨#[]⟩ : ByteArray))), (.ex [])])]) ?_ ?_
   · unfold DO
     refine Ab (e_t h100) ?_
     refine Ar eh hr (fun hr => ?_) (fun hr => ?_)
     rotate_left
     · refine Ah eh (Ah (em rfl eh) (Ah (Ac rfl eh) (Ah (Ac rfl (em rfl eh)) (Ah (Ad rfl eh) (An (e_t (Ad rfl (em rfl eh))) e_c ?_)))))
       refine Aa ?_
       exact ⟨false, hr, (Ad rfl (Ad rfl h1)), (Ad rfl (Ad rfl h6)), eh, rfl⟩
     refine Aj eh ?_
     refine AA (e_t (Ac rfl h6)) (by rfl) ?_
     refine Aj (em rfl eh) ?_
     refine Ao (e_t eh) (gx 1 rfl) (by rfl) ?_
     refine Aj (Ac rfl eh) ?_
     refine AA (e_t (Ad rfl h1)) (by rfl) ?_
     refine Aj (Ac rfl (em rfl eh)) ?_
     refine Ao (e_t eh) (gx 0 rfl) (by rfl) ?_
     refine Aj (Ad rfl eh) ?_
     refine Ap (e_t (Ac rfl eh)) (e_t eh) (Do ?_)
     refine Am (e_t (Ad rfl (em rfl eh))) (e_t eh) (Aa ?_)
     exact ⟨(decide ((⟨#[]⟩ : ByteArray) = p0.Name)), hr, (Ad rfl (Ad rfl h1)), (Ad rfl (Ad rfl h6)), eh, rfl⟩
   rintro f st' ⟨v23, hr, h1, h6, h107, rfl⟩
   rw [Ju] at hr
   refine Bh ?_
   unfold DR
   refine Ab (e_t h107) ?_
   refine Ar eh hr (fun hr => ?_) (fun hr => ?_)
   rotate_left
   · refine Ah eh (Ah (em rfl eh) (Ah (Ac rfl eh) (Ah (Ac rfl (em rfl eh)) (Ah (Ad rfl eh) (An (e_t (Ad rfl (em rfl eh))) e_c ?_)))))
     refine Aa ?_
     unfold BE
     refine Ab (e_t eh) (Aa (Ae (AH ?_)))
     cases hr
     exact A5 (AE eh AG) (AK AF v_d) (As hwf) h
   refine Aj eh ?_
   refine AA (e_t (Ac rfl h6)) (by rfl) ?_
   refine Aj (em rfl eh) ?_
   refine Ao (e_t eh) (gx 1 rfl) (by rfl) ?_
   refine Aj (Ac rfl eh) ?_
   refine AA (e_t (Ad rfl h1)) (by rfl) ?_
   refine Aj (Ac rfl (em rfl eh)) ?_
   refine Ao (e_t eh) (gx 0 rfl) (by rfl) ?_
   refine Aj (Ad rfl eh) ?_
   refine Ap (e_t (Ac rfl eh)) (e_t eh) (Do ?_)
   refine Am (e_t (Ad rfl (em rfl eh))) (e_t eh) (Aa ?_)
   unfold BE
   refine Ab (e_t eh) (Aa (Ae (AH ?_)))
   cases hr
   exact A5 (AE eh AG) (AK AF v_d) (As hwf) h
 refine IM (k := 2) rfl rfl ?_
 unfold Ap5
 refine Ag (R := []) rfl rfl (AA (e_t (Ai rfl (Ai rfl (em rfl eh)))) (by rfl) (Aa ?_))
 refine Ag rfl (BM (e_t eh)) (Ao (e_t eh) (gx 0 rfl) (by rfl) (Aa ?_))
 refine Ag (R := []) rfl rfl (AA (e_t (Ai rfl (Ai rfl (Ac rfl (em rfl eh))))) (by rfl) (Aa ?_))
 refine Ag rfl (BM (e_t eh)) (Ao (e_t eh) (gx 0 rfl) (by rfl) (Aa ?_))
 refine Ag rfl (AD3 (e_t (Ac rfl eh)) (by rfl) (AD3 (e_t eh) (by rfl) BM9)) (DW (rows := List.map rS [p0.Name, p0.Src]) ((AC (e_t (Ac rfl eh)) A2 (Au f_d AJ) rfl (AC (e_t eh) A2 (Au f_d AJ) rfl FJ))) (Aa ?_))
 obtain ⟨v18, hc_v18, hr⟩ := bind_some hr
 refine F9 (Az (e_t eh) AU8 A1) (B2 (e_t eh) (by rfl) F1) (fun st2 => Ro n ([p0.Name, p0.Src]) hc_v18 ⟨rfl, rfl⟩) ?_
 refine Ag (R := []) rfl rfl (AA (e_t (Ai rfl (Ai rfl (Ad rfl (Ac rfl (em rfl eh)))))) (by rfl) (Aa ?_))
 refine Ag rfl (BM (e_t eh)) (Ao (e_t eh) (gx 0 rfl) (by rfl) (Aa ?_))
 refine Ag (R := []) rfl rfl (AA (e_t (Ai rfl (Ai rfl (Ak rfl (em rfl eh))))) (by rfl) (Aa ?_))
 refine Ag rfl (BM (e_t eh)) (Ao (e_t eh) (gx 0 rfl) (by rfl) (Aa ?_))
 refine Ag (R := []) rfl rfl (Ab (e_t (Ad rfl eh)) (Aa ?_))
 refine Ag (R := []) rfl rfl (AA (e_t (Ai rfl (Ai rfl (em rfl eh)))) (by rfl) (Aa ?_))
 refine KW (e_t eh) (gx 1 rfl) (e_t (Ad rfl eh)) A2 rfl (Nat.le_of_ble_eq_true rfl) (by rfl) (cells' := [(.d (.int .i64 (0 : Int))), (.d (.int .i64 (0 : Int))), (.d (.str (⟨#[]⟩ : ByteArray))), (.d (.str p0.Name)), (.d (.str (⟨#[]⟩ : ByteArray))), (.ex [])]) (by rfl) (BD rfl _ _) ?_
 refine Ag (R := []) rfl rfl (AA (e_t (Ai rfl (Ai rfl (Ac rfl eh)))) (by rfl) (Aa ?_))
 refine KW (e_t eh) (gx 1 rfl) (e_t (Ac rfl (em rfl eh))) A2 rfl (Nat.le_of_ble_eq_true rfl) (by rfl) (cells' := [(.d (.int .i64 (0 : Int))), (.d (.int .i64 (0 : Int))), (.d (.str (⟨#[]⟩ : ByteArray))), (.d (.str p0.Name)), (.d (.str p0.Src)), (.ex [])]) (by rfl) (BD rfl _ _) ?_
 refine BO ?_
 refine ⟨by simp [Ch, okPairs, BP, FY], ?_⟩
 refine BQ ?_
 refine Ae (Al (Af ?_))
 unfold Fh
 refine Ba (fun f st' => ∃ (v19 : Bool), Jw p0 v19 = some r ∧ f 1 = (.ptr (st.length + 0) 0) ∧ f 6 = (.ptr (st.length + 1) 0) ∧ f 93 = (.d (.bool v19)) ∧ st' = st ++ [(.box [(.d (.int .i64 p0.Op)), (.d (.int .i64 p0.N)), (.d (.str p0.S)), (.d (.str p0.Name)), (.d (.str p0.Src)), (.d (.sl (List.map TE.row p0.Args)))]), (.box [(.d (.int .i64 (0 : Int))), (.d (.int .i64 (0 : Int))), (.d (.str (⟨#[]⟩ : ByteArray))), (.d (.str p0.Name)), (.d (.str p0.Src)), (.ex [])]), .fresh]) ?_ ?_
 · unfold DS
   refine Ab (e_t (Ac rfl eh)) (Ab (e_t eh) ?_)
   refine Ar eh hr (fun hr => ?_) (fun hr => ?_)
   rotate_left
   · refine Ah eh (Ah (em rfl eh) (Ah (Ac rfl eh) (Ah (Ac rfl (em rfl eh)) (Ah (Ad rfl eh) (An (e_t (Ad rfl (em rfl eh))) e_c ?_)))))
     refine Aa ?_
     exact ⟨false, hr, (Ai rfl (Ai rfl (Ai rfl (Ad rfl (Ac rfl (em rfl eh)))))), (Ai rfl (Ai rfl (Ak rfl (Ad rfl eh)))), eh, rfl⟩
   refine Aj eh ?_
   refine AA (e_t (Ai rfl (Ai rfl (Ad rfl (Ac rfl eh))))) (by rfl) ?_
   refine Aj (em rfl eh) ?_
   refine Ao (e_t eh) (gx 1 rfl) (by rfl) ?_
   refine Aj (Ac rfl eh) ?_
   refine AA (e_t (Ai rfl (Ai rfl (Ai rfl (Ac rfl (em rfl eh)))))) (by rfl) ?_
   refine Aj (Ac rfl (em rfl eh)) ?_
   refine Ao (e_t eh) (gx 0 rfl) (by rfl) ?_
   refine Aj (Ad rfl eh) ?_
   refine Ap (e_t (Ac rfl eh)) (e_t eh) (Ci ?_)
   refine Am (e_t (Ad rfl (em rfl eh))) (e_t eh) (Aa ?_)
   exact ⟨(decide ((0 : Int) = p0.N)), hr, (Ai rfl (Ai rfl (Ai rfl (Ad rfl (Ac rfl (em rfl eh)))))), (Ai rfl (Ai rfl (Ak rfl (Ad rfl eh)))), eh, rfl⟩
 rintro f st' ⟨v19, hr, h1, h6, h93, rfl⟩
 rw [Jw] at hr
 refine Ba (fun f st' => ∃ (v20 : Bool), Jy p0 v20 = some r ∧ f 1 = (.ptr (st.length + 0) 0) ∧ f 6 = (.ptr (st.length + 1) 0) ∧ f 100 = (.d (.bool v20)) ∧ st' = st ++ [(.box [(.d (.int .i64 p0.Op)), (.d (.int .i64 p0.N)), (.d (.str p0.S)), (.d (.str p0.Name)), (.d (.str p0.Src)), (.d (.sl (List.map TE.row p0.Args)))]), (.box [(.d (.int .i64 (0 : Int))), (.d (.int .i64 (0 : Int))), (.d (.str (⟨#[]⟩ : ByteArray))), (.d (.str p0.Name)), (.d (.str p0.Src)), (.ex [])]), .fresh]) ?_ ?_
 · unfold DN
   refine Ab (e_t h93) ?_
   refine Ar eh hr (fun hr => ?_) (fun hr => ?_)
   rotate_left
   · refine Ah eh (Ah (em rfl eh) (Ah (Ac rfl eh) (Ah (Ac rfl (em rfl eh)) (Ah (Ad rfl eh) (An (e_t (Ad rfl (em rfl eh))) e_c ?_)))))
     refine Aa ?_
     exact ⟨false, hr, (Ad rfl (Ad rfl h1)), (Ad rfl (Ad rfl h6)), eh, rfl⟩
   refine Aj eh ?_
   refine AA (e_t (Ac rfl h6)) (by rfl) ?_
   refine Aj (em rfl eh) ?_
   refine Ao (e_t eh) (gx 1 rfl) (by rfl) ?_
   refine Aj (Ac rfl eh) ?_
   refine AA (e_t (Ad rfl h1)) (by rfl) ?_
   refine Aj (Ac rfl (em rfl eh)) ?_
   refine Ao (e_t eh) (gx 0 rfl) (by rfl) ?_
   refine Aj (Ad rfl eh) ?_
   refine Ap (e_t (Ac rfl eh)) (e_t eh) (Do ?_)
   refine Am (e_t (Ad rfl (em rfl eh))) (e_t eh) (Aa ?_)
   exact ⟨(decide ((⟨#[]⟩ : ByteArray) = p0.S)), hr, (Ad rfl (Ad rfl h1)), (Ad rfl (Ad rfl h6)), eh, rfl⟩
 rintro f st' ⟨v20, hr, h1, h6, h100, rfl⟩
 rw [Jy] at hr
 refine Ba (fun f st' => ∃ (v21 : Bool), Jc p0 v21 = some r ∧ f 1 = (.ptr (st.length + 0) 0) ∧ f 6 = (.ptr (st.length + 1) 0) ∧ f 107 = (.d (.bool v21)) ∧ st' = st ++ [(.box [(.d (.int .i64 p0.Op)), (.d (.int .i64 p0.N)), (.d (.str p0.S)), (.d (.str p0.Name)), (.d (.str p0.Src)), (.d (.sl (List.map TE.row p0.Args)))]), (.box [(.d (.int .i64 (0 : Int))), (.d (.int .i64 (0 : Int))), (.d (.str (⟨#[]⟩ : ByteArray))), (.d (.str p0.Name)), (.d (.str p0.Src)), (.ex [])]), .fresh]) ?_ ?_
 · unfold DO
   refine Ab (e_t h100) ?_
   refine Ar eh hr (fun hr => ?_) (fun hr => ?_)
   rotate_left
   · refine Ah eh (Ah (em rfl eh) (Ah (Ac rfl eh) (Ah (Ac rfl (em rfl eh)) (Ah (Ad rfl eh) (An (e_t (Ad rfl (em rfl eh))) e_c ?_)))))
     refine Aa ?_
     exact ⟨false, hr, (Ad rfl (Ad rfl h1)), (Ad rfl (Ad rfl h6)), eh, rfl⟩
   refine Aj eh ?_
   refine AA (e_t (Ac rfl h6)) (by rfl) ?_
   refine Aj (em rfl eh) ?_
   refine Ao (e_t eh) (gx 1 rfl) (by rfl) ?_
   refine Aj (Ac rfl eh) ?_
   refine AA (e_t (Ad rfl h1)) (by rfl) ?_
   refine Aj (Ac rfl (em rfl eh)) ?_
   refine Ao (e_t eh) (gx 0 rfl) (by rfl) ?_
   refine Aj (Ad rfl eh) ?_
   refine Ap (e_t (Ac rfl eh)) (e_t eh) (Do ?_)
   refine Am (e_t (Ad rfl (em rfl eh))) (e_t eh) (Aa ?_)
   exact ⟨(decide (p0.Name = p0.Name)), hr, (Ad rfl (Ad rfl h1)), (Ad rfl (Ad rfl h6)), eh, rfl⟩
 rintro f st' ⟨v21, hr, h1, h6, h107, rfl⟩
 rw [Jc] at hr
 refine Bh ?_
 unfold DR
 refine Ab (e_t h107) ?_
 refine Ar eh hr (fun hr => ?_) (fun hr => ?_)
 rotate_left
 · refine Ah eh (Ah (em rfl eh) (Ah (Ac rfl eh) (Ah (Ac rfl (em rfl eh)) (Ah (Ad rfl eh) (An (e_t (Ad rfl (em rfl eh))) e_c ?_)))))
   refine Aa ?_
   unfold BE
   refine Ab (e_t eh) (Aa (Ae (AH ?_)))
   cases hr
   exact A5 (AE eh AG) (AK AF v_d) (As hwf) h
 refine Aj eh ?_
 refine AA (e_t (Ac rfl h6)) (by rfl) ?_
 refine Aj (em rfl eh) ?_
 refine Ao (e_t eh) (gx 1 rfl) (by rfl) ?_
 refine Aj (Ac rfl eh) ?_
 refine AA (e_t (Ad rfl h1)) (by rfl) ?_
 refine Aj (Ac rfl (em rfl eh)) ?_
 refine Ao (e_t eh) (gx 0 rfl) (by rfl) ?_
 refine Aj (Ad rfl eh) ?_
 refine Ap (e_t (Ac rfl eh)) (e_t eh) (Do ?_)
 refine Am (e_t (Ad rfl (em rfl eh))) (e_t eh) (Aa ?_)
 unfold BE
 refine Ab (e_t eh) (Aa (Ae (AH ?_)))
 cases hr
 exact A5 (AE eh AG) (AK AF v_d) (As hwf) h
end Go.Ax
