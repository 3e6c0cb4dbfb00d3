import Derived.Test.YtojkpenjeglipaaIYT
import Derived.Test.YtojkpenjeglipaaICVX
import Derived.Test.YtojkpenjeglipaaICPrim
import Derived.Test.YtojkpenjeglipaaIYD2
import Derived.Test.YtojkpenjeglipaaIYD5
set_option linter.unusedVariables false
set_option linter.unusedSimpArgs false
namespace Go.Ax
attribute [local irreducible] BL ER FD Bf CF Fz B6 KZ HX upd ev u0 Dt frz A6 EB mmD bnd BV Ft Do CO GU Ht G2 cutV I1 Cv
variable {st : List Content}
def Jp (p0 : TE) (v3 : Bool) : Option Bool :=
 (bif v3 then some (decide ((⟨#[]⟩ : ByteArray) = p0.Src)) else some false)
def Jn (p0 : TE) (v2 : Bool) : Option Bool :=
 (bif v2 then (Jp p0 (decide ((⟨#[]⟩ : ByteArray) = p0.Name))) else (Jp p0 false))
def I2 (p0 : TE) (v1 : Bool) : Option Bool :=
 (bif v1 then (Jn p0 (decide ((⟨#[]⟩ : ByteArray) = p0.S))) else (Jn p0 false))
def Jd (p0 : TE) (v6 : Bool) : Option Bool :=
 (bif v6 then some (decide ((⟨#[]⟩ : ByteArray) = p0.Src)) else some false)
def Jy (p0 : TE) (v5 : Bool) : Option Bool :=
 (bif v5 then (Jd p0 (decide ((⟨#[]⟩ : ByteArray) = p0.Name))) else (Jd p0 false))
def IV (p0 : TE) (v4 : Bool) : Option Bool :=
 (bif v4 then (Jy p0 (decide (p0.S = p0.S))) else (Jy p0 false))
def IY (p0 : TE) (v9 : Bool) : Option Bool :=
 (bif v9 then some (decide ((⟨#[]⟩ : ByteArray) = p0.Src)) else some false)
def Je (p0 : TE) (v8 : Bool) : Option Bool :=
 (bif v8 then (IY p0 (decide ((⟨#[]⟩ : ByteArray) = p0.Name))) else (IY p0 false))
def IS (p0 : TE) (v7 : Bool) : Option Bool :=
 (bif v7 then (Je p0 (decide ((⟨#[]⟩ : ByteArray) = p0.S))) else (Je p0 false))
def Ik (p0 : TE) (v13 : Bool) : Option Bool :=
 (bif v13 then some (decide ((⟨#[]⟩ : ByteArray) = p0.Src)) else some false)
def Im (p0 : TE) (v12 : Bool) : Option Bool :=
 (bif v12 then (Ik p0 (decide (p0.Name = p0.Name))) else (Ik p0 false))
def I6 (p0 : TE) (v11 : Bool) : Option Bool :=
 (bif v11 then (Im p0 (decide ((⟨#[]⟩ : ByteArray) = p0.S))) else (Im p0 false))
def H7 (p0 : TE) (v17 : Bool) : Option Bool :=
 (bif v17 then some (decide ((⟨#[]⟩ : ByteArray) = p0.Src)) else some false)
def H9 (p0 : TE) (v16 : Bool) : Option Bool :=
 (bif v16 then (H7 p0 (decide (p0.Name = p0.Name))) else (H7 p0 false))
def H6 (p0 : TE) (v15 : Bool) : Option Bool :=
 (bif v15 then (H9 p0 (decide (p0.S = p0.S))) else (H9 p0 false))
def Ip (p0 : TE) (v21 : Bool) : Option Bool :=
 (bif v21 then some (decide (p0.Src = p0.Src)) else some false)
def Ia (p0 : TE) (v20 : Bool) : Option Bool :=
 (bif v20 then (Ip p0 (decide (p0.Name = p0.Name))) else (Ip p0 false))
def Ie (p0 : TE) (v19 : Bool) : Option Bool :=
 (bif v19 then (Ia p0 (decide ((⟨#[]⟩ : ByteArray) = p0.S))) else (Ia p0 false))
def Ih (p0 : TE) (v23 : Bool) : Option Bool :=
 (bif v23 then some (decide ((⟨#[]⟩ : ByteArray) = p0.Src)) else some false)
def Ii (p0 : TE) (v22 : Bool) : Option Bool :=
 (bif v22 then (Ih p0 (decide ((⟨#[]⟩ : ByteArray) = p0.Name))) else (Ih p0 false))
def K7 (n : Nat) (p0 : TE) : Option Bool :=
 (bif (decide (p0.Op = (1 : Int))) then (bif (decide ((0 : Int) ≤ p0.N)) then (I2 p0 (decide (p0.N = p0.N))) else (I2 p0 false)) else (bif (decide (p0.Op = (2 : Int))) then (bif (decide ((p0.S.size : Int) ≤ (200 : Int))) then (IV p0 (decide ((0 : Int) = p0.N))) else (IV p0 false)) else (bif (decide (p0.Op = (3 : Int))) then (bif (decide ((Int.fdiv p0.N (2 ^ (min (Int.toNat (1 : Int)) (IntKind.bits .i64)))) = (0 : Int))) then (IS p0 (decide (p0.N = p0.N))) else (IS p0 false)) else (bif (decide (p0.Op = (4 : Int))) then ((Gi n ([p0.Name])).bind fun v10 => (bif v10 then (I6 p0 (decide ((0 : Int) = p0.N))) else (I6 p0 false))) else (bif (decide (p0.Op = (5 : Int))) then ((Gi n ([p0.Name, p0.S])).bind fun v14 => (bif v14 then (H6 p0 (decide ((0 : Int) = p0.N))) else (H6 p0 false))) else (bif (OG p0.Op).2 then ((Gi n ([p0.Name, p0.Src])).bind fun v18 => (bif v18 then (Ie p0 (decide ((0 : Int) = p0.N))) else (Ie p0 false))) else (bif (decide ((0 : Int) = p0.N)) then (Ii p0 (decide ((⟨#[]⟩ : ByteArray) = p0.S))) else (Ii p0 false))))))))
set_option maxRecDepth 100000 in
set_option maxHeartbeats 4000000 in
theorem AC5 (n : Nat) (p0 : TE) {r : Bool} (hr : K7 n p0 = some r) {K : PV → List Content → Prop} (h : K (.d (.bool r)) st) : Aw PR Vx [(.agg [(.d (.int .i64 p0.Op)), (.d (.int .i64 p0.N)), (.d (.str p0.S)), (.d (.str p0.Name)), (.d (.str p0.Src)), (.d (.sl (List.map TE.row p0.Args)))])] st K := by
 refine Aw.of AD2 (Nat.le_of_ble_eq_true rfl) fun hwf => ?_
 rw [Cm]
 refine AQ ?_
 unfold Ae9
 rw [K7] at hr
 refine Al (Af ?_)
 unfold Uc
 refine Gw (k := 0) rfl rfl (e_t eh) Bg (by exact rfl) ?_
 refine Ab e_c (Aa (Ae (Al (Af ?_))))
 unfold S1
 refine AB (e_t (em rfl eh)) (by exact rfl) ?_
 refine Ap (e_t eh) ((Am rfl 0).trans rfl) (by exact rfl) ?_
 refine AP (Ay (e_t eh) AG AR) ?_
 refine Ag0 p0.Op rfl ?_
 refine Ab (e_t eh) ?_
 refine GZ (e_t eh) (by exact rfl) ?_
 refine GZ (e_t (em rfl eh)) (by exact rfl) ?_
 refine Ab (e_t (em rfl eh)) (Ab (e_t (em rfl eh)) (Aa (Ae (Al (Af ?_)))))
 unfold UW
 refine Ab e_c (Aa (Ae (Al (Af ?_))))
 unfold UO
 refine Ci (k := 1) rfl rfl ?_
 refine Aa (Ae (Al ?_))
 refine AX ?_
 refine Al (Af ?_)
 unfold Vo
 refine AB (e_t (Ak rfl (Ac rfl (em rfl eh)))) (by exact rfl) ?_
 refine Ap (e_t eh) ((Am rfl 0).trans rfl) (by exact rfl) ?_
 refine Ar (e_t eh) e_c (BZ ?_)
 refine Ab (e_t eh) (Aa (Ae ?_))
 refine AC (e_t eh) hr (fun hr => ?_) (fun hr => ?_)
 · refine DI (k := 2) rfl rfl ?_
   unfold Ty
   refine AB (e_t (Ak rfl (Ad rfl (Ac rfl (em rfl eh))))) (by exact rfl) ?_
   refine Ap (e_t eh) ((Am rfl 0).trans rfl) (by exact rfl) ?_
   refine Ar (e_t eh) e_c (ET ?_)
   refine AB (e_t (Ai rfl (Ac rfl eh))) (by exact rfl) ?_
   refine Ap (e_t eh) ((Am rfl 0).trans rfl) (by exact rfl) ?_
   refine Ab (e_t (Ac rfl eh)) ?_
   refine AB (e_t (Ak rfl (Ac rfl eh))) (by exact rfl) ?_
   refine Bl (e_t eh) ((Am rfl 1).trans rfl) (e_t (Ac rfl eh)) AZ rfl (Nat.le_of_ble_eq_true rfl) (by exact rfl) (cells' := [(.d (.int .i64 (0 : Int))), (.d (.int .i64 p0.N)), (.d (.str (⟨#[]⟩ : ByteArray))), (.d (.str (⟨#[]⟩ : ByteArray))), (.d (.str (⟨#[]⟩ : ByteArray))), (.ex [])]) (by exact rfl) (Bk rfl _ _) ?_
   refine Aa ?_
   refine BA ?_
   refine Ae (Al (Af ?_))
   unfold Fc
   refine Bb (fun f st' => ∃ (v1 : Bool), I2 p0 v1 = some r ∧ f 1 = (.ptr (st.length + 0) 0) ∧ f 6 = (.ptr (st.length + 1) 0) ∧ f 93 = (.d (.bool v1)) ∧ st' = st ++ [(.box [(.d (.int .i64 p0.Op)), (.d (.int .i64 p0.N)), (.d (.str p0.S)), (.d (.str p0.Name)), (.d (.str p0.Src)), (.d (.sl (List.map TE.row p0.Args)))]), (.box [(.d (.int .i64 (0 : Int))), (.d (.int .i64 p0.N)), (.d (.str (⟨#[]⟩ : ByteArray))), (.d (.str (⟨#[]⟩ : ByteArray))), (.d (.str (⟨#[]⟩ : ByteArray))), (.ex [])])]) ?_ ?_
   · unfold DT
     refine Ab (e_t (em rfl eh)) (Ab (e_t eh) ?_)
     refine Au eh hr (fun hr => ?_) (fun hr => ?_)
     rotate_left
     · refine Ah eh (Ah (em rfl eh) (Ah (Ac rfl eh) (Ah (Ac rfl (em rfl eh)) (Ah (Ad rfl eh) (Ao (e_t (Ad rfl (em rfl eh))) e_c ?_)))))
       refine Aa ?_
       exact ⟨false, hr, (Ai rfl (Ak rfl (Ad rfl (Ac rfl (em rfl eh))))), (Ai rfl (Ad rfl eh)), eh, rfl⟩
     refine Aj eh ?_
     refine AB (e_t (Ak rfl (Ad rfl (Ac rfl eh)))) (by exact rfl) ?_
     refine Aj (em rfl eh) ?_
     refine Ap (e_t eh) ((Am rfl 1).trans rfl) (by exact rfl) ?_
     refine Aj (Ac rfl eh) ?_
     refine AB (e_t (Ai rfl (Ak rfl (Ac rfl (em rfl eh))))) (by exact rfl) ?_
     refine Aj (Ac rfl (em rfl eh)) ?_
     refine Ap (e_t eh) ((Am rfl 0).trans rfl) (by exact rfl) ?_
     refine Aj (Ad rfl eh) ?_
     refine Ar (e_t (Ac rfl eh)) (e_t eh) (BZ ?_)
     refine An (e_t (Ad rfl (em rfl eh))) (e_t eh) (Aa ?_)
     exact ⟨(decide (p0.N = p0.N)), hr, (Ai rfl (Ak rfl (Ad rfl (Ac rfl (em rfl eh))))), (Ai rfl (Ad rfl eh)), eh, rfl⟩
   rintro f st' ⟨v1, hr, h1, h6, h93, rfl⟩
   rw [I2] at hr
   refine Bb (fun f st' => ∃ (v2 : Bool), Jn p0 v2 = some r ∧ f 1 = (.ptr (st.length + 0) 0) ∧ f 6 = (.ptr (st.length + 1) 0) ∧ f 100 = (.d (.bool v2)) ∧ st' = st ++ [(.box [(.d (.int .i64 p0.Op)), (.d (.int .i64 p0.N)), (.d (.str p0.S)), (.d (.str p0.Name)), (.d (.str p0.Src)), (.d (.sl (List.map TE.row p0.Args)))]), (.box [(.d (.int .i64 (0 : Int))), (.d (.int .i64 p0.N)), (.d (.str (⟨#[]⟩ : ByteArray))), (.d (.str (⟨#[]⟩ : ByteArray))), (.d (.str (⟨#[]⟩ : ByteArray))), (.ex [])])]) ?_ ?_
   · unfold DP
     refine Ab (e_t h93) ?_
     refine Au eh hr (fun hr => ?_) (fun hr => ?_)
     rotate_left
     · refine Ah eh (Ah (em rfl eh) (Ah (Ac rfl eh) (Ah (Ac rfl (em rfl eh)) (Ah (Ad rfl eh) (Ao (e_t (Ad rfl (em rfl eh))) e_c ?_)))))
       refine Aa ?_
       exact ⟨false, hr, (Ad rfl (Ad rfl h1)), (Ad rfl (Ad rfl h6)), eh, rfl⟩
     refine Aj eh ?_
     refine AB (e_t (Ac rfl h6)) (by exact rfl) ?_
     refine Aj (em rfl eh) ?_
     refine Ap (e_t eh) ((Am rfl 1).trans rfl) (by exact rfl) ?_
     refine Aj (Ac rfl eh) ?_
     refine AB (e_t (Ad rfl h1)) (by exact rfl) ?_
     refine Aj (Ac rfl (em rfl eh)) ?_
     refine Ap (e_t eh) ((Am rfl 0).trans rfl) (by exact rfl) ?_
     refine Aj (Ad rfl eh) ?_
     refine Ar (e_t (Ac rfl eh)) (e_t eh) (Db ?_)
     refine An (e_t (Ad rfl (em rfl eh))) (e_t eh) (Aa ?_)
     exact ⟨(decide ((⟨#[]⟩ : ByteArray) = p0.S)), hr, (Ad rfl (Ad rfl h1)), (Ad rfl (Ad rfl h6)), eh, rfl⟩
   rintro f st' ⟨v2, hr, h1, h6, h100, rfl⟩
   rw [Jn] at hr
   refine Bb (fun f st' => ∃ (v3 : Bool), Jp p0 v3 = some r ∧ f 1 = (.ptr (st.length + 0) 0) ∧ f 6 = (.ptr (st.length + 1) 0) ∧ f 107 = (.d (.bool v3)) ∧ st' = st ++ [(.box [(.d (.int .i64 p0.Op)), (.d (.int .i64 p0.N)), (.d (.str p0.S)), (.d (.str p0.Name)), (.d (.str p0.Src)), (.d (.sl (List.map TE.row p0.Args)))]), (.box [(.d (.int .i64 (0 : Int))), (.d (.int .i64 p0.N)), (.d (.str (⟨#[]⟩ : ByteArray))), (.d (.str (⟨#[]⟩ : ByteArray))), (.d (.str (⟨#[]⟩ : ByteArray))), (.ex [])])]) ?_ ?_
   · unfold DM
     refine Ab (e_t h100) ?_
     refine Au eh hr (fun hr => ?_) (fun hr => ?_)
     rotate_left
     · refine Ah eh (Ah (em rfl eh) (Ah (Ac rfl eh) (Ah (Ac rfl (em rfl eh)) (Ah (Ad rfl eh) (Ao (e_t (Ad rfl (em rfl eh))) e_c ?_)))))
       refine Aa ?_
       exact ⟨false, hr, (Ad rfl (Ad rfl h1)), (Ad rfl (Ad rfl h6)), eh, rfl⟩
     refine Aj eh ?_
     refine AB (e_t (Ac rfl h6)) (by exact rfl) ?_
     refine Aj (em rfl eh) ?_
     refine Ap (e_t eh) ((Am rfl 1).trans rfl) (by exact rfl) ?_
     refine Aj (Ac rfl eh) ?_
     refine AB (e_t (Ad rfl h1)) (by exact rfl) ?_
     refine Aj (Ac rfl (em rfl eh)) ?_
     refine Ap (e_t eh) ((Am rfl 0).trans rfl) (by exact rfl) ?_
     refine Aj (Ad rfl eh) ?_
     refine Ar (e_t (Ac rfl eh)) (e_t eh) (Db ?_)
     refine An (e_t (Ad rfl (em rfl eh))) (e_t eh) (Aa ?_)
     exact ⟨(decide ((⟨#[]⟩ : ByteArray) = p0.Name)), hr, (Ad rfl (Ad rfl h1)), (Ad rfl (Ad rfl h6)), eh, rfl⟩
   rintro f st' ⟨v3, hr, h1, h6, h107, rfl⟩
   rw [Jp] at hr
   refine Bo ?_
   unfold DJ
   refine Ab (e_t h107) ?_
   refine Au eh hr (fun hr => ?_) (fun hr => ?_)
   rotate_left
   · refine Ah eh (Ah (em rfl eh) (Ah (Ac rfl eh) (Ah (Ac rfl (em rfl eh)) (Ah (Ad rfl eh) (Ao (e_t (Ad rfl (em rfl eh))) e_c ?_)))))
     refine Aa ?_
     unfold BI
     refine Ab (e_t eh) (Aa (Ae (AI ?_)))
     cases hr
     exact A7 (AF eh AH) (AM AG v_d) (Av hwf) h
   refine Aj eh ?_
   refine AB (e_t (Ac rfl h6)) (by exact rfl) ?_
   refine Aj (em rfl eh) ?_
   refine Ap (e_t eh) ((Am rfl 1).trans rfl) (by exact rfl) ?_
   refine Aj (Ac rfl eh) ?_
   refine AB (e_t (Ad rfl h1)) (by exact rfl) ?_
   refine Aj (Ac rfl (em rfl eh)) ?_
   refine Ap (e_t eh) ((Am rfl 0).trans rfl) (by exact rfl) ?_
   refine Aj (Ad rfl eh) ?_
   refine Ar (e_t (Ac rfl eh)) (e_t eh) (Db ?_)
   refine An (e_t (Ad rfl (em rfl eh))) (e_t eh) (Aa ?_)
   unfold BI
   refine Ab (e_t eh) (Aa (Ae (AI ?_)))
   cases hr
   exact A7 (AF eh AH) (AM AG v_d) (Av hwf) h
 refine Al (Af ?_)
 unfold Vm
 refine AB (e_t (Ak rfl (Ad rfl (Ac rfl (em rfl eh))))) (by exact rfl) ?_
 refine Ap (e_t eh) ((Am rfl 0).trans rfl) (by exact rfl) ?_
 refine Ar (e_t eh) e_c (BZ ?_)
 refine Ab (e_t eh) (Aa (Ae ?_))
 refine AC (e_t eh) hr (fun hr => ?_) (fun hr => ?_)
 · refine DI (k := 2) rfl rfl ?_
   unfold SV
   refine AB (e_t (Ai rfl (Ac rfl (em rfl eh)))) (by exact rfl) ?_
   refine Ap (e_t eh) ((Am rfl 0).trans rfl) (by exact rfl) ?_
   refine H4 (e_t eh) ?_
   refine Ar (e_t eh) e_c (JE ?_)
   refine AB (e_t (Ai rfl (Ad rfl (Ac rfl (em rfl eh))))) (by exact rfl) ?_
   refine Ap (e_t eh) ((Am rfl 0).trans rfl) (by exact rfl) ?_
   refine Ab (e_t (Ac rfl eh)) ?_
   refine AB (e_t (Ak rfl (Ad rfl (Ac rfl (em rfl eh))))) (by exact rfl) ?_
   refine Bl (e_t eh) ((Am rfl 1).trans rfl) (e_t (Ac rfl eh)) AZ rfl (Nat.le_of_ble_eq_true rfl) (by exact rfl) (cells' := [(.d (.int .i64 (0 : Int))), (.d (.int .i64 (0 : Int))), (.d (.str p0.S)), (.d (.str (⟨#[]⟩ : ByteArray))), (.d (.str (⟨#[]⟩ : ByteArray))), (.ex [])]) (by exact rfl) (Bk rfl _ _) ?_
   refine Aa ?_
   refine BA ?_
   refine Ae (Al (Af ?_))
   unfold Fc
   refine Bb (fun f st' => ∃ (v4 : Bool), IV p0 v4 = some r ∧ f 1 = (.ptr (st.length + 0) 0) ∧ f 6 = (.ptr (st.length + 1) 0) ∧ f 93 = (.d (.bool v4)) ∧ st' = st ++ [(.box [(.d (.int .i64 p0.Op)), (.d (.int .i64 p0.N)), (.d (.str p0.S)), (.d (.str p0.Name)), (.d (.str p0.Src)), (.d (.sl (List.map TE.row p0.Args)))]), (.box [(.d (.int .i64 (0 : Int))), (.d (.int .i64 (0 : Int))), (.d (.str p0.S)), (.d (.str (⟨#[]⟩ : ByteArray))), (.d (.str (⟨#[]⟩ : ByteArray))), (.ex [])])]) ?_ ?_
   · unfold DT
     refine Ab (e_t (em rfl eh)) (Ab (e_t eh) ?_)
     refine Au eh hr (fun hr => ?_) (fun hr => ?_)
     rotate_left
     · refine Ah eh (Ah (em rfl eh) (Ah (Ac rfl eh) (Ah (Ac rfl (em rfl eh)) (Ah (Ad rfl eh) (Ao (e_t (Ad rfl (em rfl eh))) e_c ?_)))))
       refine Aa ?_
       exact ⟨false, hr, (Ai rfl (Ai rfl (Ad rfl eh))), (Ai rfl (Ak rfl (em rfl eh))), eh, rfl⟩
     refine Aj eh ?_
     refine AB (e_t (Ai rfl (Ac rfl (em rfl eh)))) (by exact rfl) ?_
     refine Aj (em rfl eh) ?_
     refine Ap (e_t eh) ((Am rfl 1).trans rfl) (by exact rfl) ?_
     refine Aj (Ac rfl eh) ?_
     refine AB (e_t (Ai rfl (Ak rfl (Ad rfl (Ad rfl eh))))) (by exact rfl) ?_
     refine Aj (Ac rfl (em rfl eh)) ?_
     refine Ap (e_t eh) ((Am rfl 0).trans rfl) (by exact rfl) ?_
     refine Aj (Ad rfl eh) ?_
     refine Ar (e_t (Ac rfl eh)) (e_t eh) (BZ ?_)
     refine An (e_t (Ad rfl (em rfl eh))) (e_t eh) (Aa ?_)
     exact ⟨(decide ((0 : Int) = p0.N)), hr, (Ai rfl (Ai rfl (Ad rfl eh))), (Ai rfl (Ak rfl (em rfl eh))), eh, rfl⟩
   rintro f st' ⟨v4, hr, h1, h6, h93, rfl⟩
   rw [IV] at hr
   refine Bb (fun f st' => ∃ (v5 : Bool), Jy p0 v5 = some r ∧ f 1 = (.ptr (st.length + 0) 0) ∧ f 6 = (.ptr (st.length + 1) 0) ∧ f 100 = (.d (.bool v5)) ∧ st' = st ++ [(.box [(.d (.int .i64 p0.Op)), (.d (.int .i64 p0.N)), (.d (.str p0.S)), (.d (.str p0.Name)), (.d (.str p0.Src)), (.d (.sl (List.map TE.row p0.Args)))]), (.box [(.d (.int .i64 (0 : Int))), (.d (.int .i64 (0 : Int))), (.d (.str p0.S)), (.d (.str (⟨#[]⟩ : ByteArray))), (.d (.str (⟨#[]⟩ : ByteArray))), (.ex [])])]) ?_ ?_
   · unfold DP
     refine Ab (e_t h93) ?_
     refine Au eh hr (fun hr => ?_) (fun hr => ?_)
     rotate_left
     · refine Ah eh (Ah (em rfl eh) (Ah (Ac rfl eh) (Ah (Ac rfl (em rfl eh)) (Ah (Ad rfl eh) (Ao (e_t (Ad rfl (em rfl eh))) e_c ?_)))))
       refine Aa ?_
       exact ⟨false, hr, (Ad rfl (Ad rfl h1)), (Ad rfl (Ad rfl h6)), eh, rfl⟩
     refine Aj eh ?_
     refine AB (e_t (Ac rfl h6)) (by exact rfl) ?_
     refine Aj (em rfl eh) ?_
     refine Ap (e_t eh) ((Am rfl 1).trans rfl) (by exact rfl) ?_
     refine Aj (Ac rfl eh) ?_
     refine AB (e_t (Ad rfl h1)) (by exact rfl) ?_
     refine Aj (Ac rfl (em rfl eh)) ?_
     refine Ap (e_t eh) ((Am rfl 0).trans rfl) (by exact rfl) ?_
     refine Aj (Ad rfl eh) ?_
     refine Ar (e_t (Ac rfl eh)) (e_t eh) (Db ?_)
     refine An (e_t (Ad rfl (em rfl eh))) (e_t eh) (Aa ?_)
     exact ⟨(decide (p0.S = p0.S)), hr, (Ad rfl (Ad rfl h1)), (Ad rfl (Ad rfl h6)), eh, rfl⟩
   rintro f st' ⟨v5, hr, h1, h6, h100, rfl⟩
   rw [Jy] at hr
   refine Bb (fun f st' => ∃ (v6 : Bool), Jd p0 v6 = some r ∧ f 1 = (.ptr (st.length + 0) 0) ∧ f 6 = (.ptr (st.length + 1) 0) ∧ f 107 = (.d (.bool v6)) ∧ st' = st ++ [(.box [(.d (.int .i64 p0.Op)), (.d (.int .i64 p0.N)), (.d (.str p0.S)), (.d (.str p0.Name)), (.d (.str p0.Src)), (.d (.sl (List.map TE.row p0.Args)))]), (.box [(.d (.int .i64 (0 : Int))), (.d (.int .i64 (0 : Int))), (.d (.str p0.S)), (.d (.str (⟨#[]⟩ : ByteArray))), (.d (.str (⟨#[]⟩ : ByteArray))), (.ex [])])]) ?_ ?_
   · unfold DM
     refine Ab (e_t h100) ?_
     refine Au eh hr (fun hr => ?_) (fun hr => ?_)
     rotate_left
     · refine Ah eh (Ah (em rfl eh) (Ah (Ac rfl eh) (Ah (Ac rfl (em rfl eh)) (Ah (Ad rfl eh) (Ao (e_t (Ad rfl (em rfl eh))) e_c ?_)))))
       refine Aa ?_
       exact ⟨false, hr, (Ad rfl (Ad rfl h1)), (Ad rfl (Ad rfl h6)), eh, rfl⟩
     refine Aj eh ?_
     refine AB (e_t (Ac rfl h6)) (by exact rfl) ?_
     refine Aj (em rfl eh) ?_
     refine Ap (e_t eh) ((Am rfl 1).trans rfl) (by exact rfl) ?_
     refine Aj (Ac rfl eh) ?_
     refine AB (e_t (Ad rfl h1)) (by exact rfl) ?_
     refine Aj (Ac rfl (em rfl eh)) ?_
     refine Ap (e_t eh) ((Am rfl 0).trans rfl) (by exact rfl) ?_
     refine Aj (Ad rfl eh) ?_
     refine Ar (e_t (Ac rfl eh)) (e_t eh) (Db ?_)
     refine An (e_t (Ad rfl (em rfl eh))) (e_t eh) (Aa ?_)
     exact ⟨(decide ((⟨#[]⟩ : ByteArray) = p0.Name)), hr, (Ad rfl (Ad rfl h1)), (Ad rfl (Ad rfl h6)), eh, rfl⟩
   rintro f st' ⟨v6, hr, h1, h6, h107, rfl⟩
   rw [Jd] at hr
   refine Bo ?_
   unfold DJ
   refine Ab (e_t h107) ?_
   refine Au eh hr (fun hr => ?_) (fun hr => ?_)
   rotate_left
   · refine Ah eh (Ah (em rfl eh) (Ah (Ac rfl eh) (Ah (Ac rfl (em rfl eh)) (Ah (Ad rfl eh) (Ao (e_t (Ad rfl (em rfl eh))) e_c ?_)))))
     refine Aa ?_
     unfold BI
     refine Ab (e_t eh) (Aa (Ae (AI ?_)))
     cases hr
     exact A7 (AF eh AH) (AM AG v_d) (Av hwf) h
   refine Aj eh ?_
   refine AB (e_t (Ac rfl h6)) (by exact rfl) ?_
   refine Aj (em rfl eh) ?_
   refine Ap (e_t eh) ((Am rfl 1).trans rfl) (by exact rfl) ?_
   refine Aj (Ac rfl eh) ?_
   refine AB (e_t (Ad rfl h1)) (by exact rfl) ?_
   refine Aj (Ac rfl (em rfl eh)) ?_
   refine Ap (e_t eh) ((Am rfl 0).trans rfl) (by exact rfl) ?_
   refine Aj (Ad rfl eh) ?_
   refine Ar (e_t (Ac rfl eh)) (e_t eh) (Db ?_)
   refine An (e_t (Ad rfl (em rfl eh))) (e_t eh) (Aa ?_)
   unfold BI
   refine Ab (e_t eh) (Aa (Ae (AI ?_)))
   cases hr
   exact A7 (AF eh AH) (AM AG v_d) (Av hwf) h
 refine Al (Af ?_)
 unfold UK
 refine AB (e_t (Ai rfl (Ac rfl (em rfl eh)))) (by exact rfl) ?_
 refine Ap (e_t eh) ((Am rfl 0).trans rfl) (by exact rfl) ?_
 refine Ar (e_t eh) e_c (BZ ?_)
 refine Ab (e_t eh) (Aa (Ae ?_))
 refine AC (e_t eh) hr (fun hr => ?_) (fun hr => ?_)
 · refine DI (k := 2) rfl rfl ?_
   unfold Ve
   refine AB (e_t (Ai rfl (Ad rfl (Ac rfl (em rfl eh))))) (by exact rfl) ?_
   refine Ap (e_t eh) ((Am rfl 0).trans rfl) (by exact rfl) ?_
   refine Ar (e_t eh) e_c (AS1 (by decide) ?_)
   refine Ar (e_t eh) e_c (BZ ?_)
   refine AB (e_t (Ai rfl (Ak rfl (Ac rfl (em rfl eh))))) (by exact rfl) ?_
   refine Ap (e_t eh) ((Am rfl 0).trans rfl) (by exact rfl) ?_
   refine Ab (e_t (Ac rfl eh)) ?_
   refine AB (e_t (Ai rfl (Ac rfl (em rfl eh)))) (by exact rfl) ?_
   refine Bl (e_t eh) ((Am rfl 1).trans rfl) (e_t (Ac rfl eh)) AZ rfl (Nat.le_of_ble_eq_true rfl) (by exact rfl) (cells' := [(.d (.int .i64 (0 : Int))), (.d (.int .i64 p0.N)), (.d (.str (⟨#[]⟩ : ByteArray))), (.d (.str (⟨#[]⟩ : ByteArray))), (.d (.str (⟨#[]⟩ : ByteArray))), (.ex [])]) (by exact rfl) (Bk rfl _ _) ?_
   refine Aa ?_
   refine BA ?_
   refine Ae (Al (Af ?_))
   unfold Fc
   refine Bb (fun f st' => ∃ (v7 : Bool), IS p0 v7 = some r ∧ f 1 = (.ptr (st.length + 0) 0) ∧ f 6 = (.ptr (st.length + 1) 0) ∧ f 93 = (.d (.bool v7)) ∧ st' = st ++ [(.box [(.d (.int .i64 p0.Op)), (.d (.int .i64 p0.N)), (.d (.str p0.S)), (.d (.str p0.Name)), (.d (.str p0.Src)), (.d (.sl (List.map TE.row p0.Args)))]), (.box [(.d (.int .i64 (0 : Int))), (.d (.int .i64 p0.N)), (.d (.str (⟨#[]⟩ : ByteArray))), (.d (.str (⟨#[]⟩ : ByteArray))), (.d (.str (⟨#[]⟩ : ByteArray))), (.ex [])])]) ?_ ?_
   · unfold DT
     refine Ab (e_t (em rfl eh)) (Ab (e_t eh) ?_)
     refine Au eh hr (fun hr => ?_) (fun hr => ?_)
     rotate_left
     · refine Ah eh (Ah (em rfl eh) (Ah (Ac rfl eh) (Ah (Ac rfl (em rfl eh)) (Ah (Ad rfl eh) (Ao (e_t (Ad rfl (em rfl eh))) e_c ?_)))))
       refine Aa ?_
       exact ⟨false, hr, (Ai rfl (Ai rfl (Ad rfl (Ad rfl eh)))), (Ai rfl (Ak rfl (Ad rfl (em rfl eh)))), eh, rfl⟩
     refine Aj eh ?_
     refine AB (e_t (Ai rfl (Ad rfl (Ac rfl (em rfl eh))))) (by exact rfl) ?_
     refine Aj (em rfl eh) ?_
     refine Ap (e_t eh) ((Am rfl 1).trans rfl) (by exact rfl) ?_
     refine Aj (Ac rfl eh) ?_
     refine AB (e_t (Ai rfl (Ai rfl (Ad rfl eh)))) (by exact rfl) ?_
     refine Aj (Ac rfl (em rfl eh)) ?_
     refine Ap (e_t eh) ((Am rfl 0).trans rfl) (by exact rfl) ?_
     refine Aj (Ad rfl eh) ?_
     refine Ar (e_t (Ac rfl eh)) (e_t eh) (BZ ?_)
     refine An (e_t (Ad rfl (em rfl eh))) (e_t eh) (Aa ?_)
     exact ⟨(decide (p0.N = p0.N)), hr, (Ai rfl (Ai rfl (Ad rfl (Ad rfl eh)))), (Ai rfl (Ak rfl (Ad rfl (em rfl eh)))), eh, rfl⟩
   rintro f st' ⟨v7, hr, h1, h6, h93, rfl⟩
   rw [IS] at hr
   refine Bb (fun f st' => ∃ (v8 : Bool), Je p0 v8 = some r ∧ f 1 = (.ptr (st.length + 0) 0) ∧ f 6 = (.ptr (st.length + 1) 0) ∧ f 100 = (.d (.bool v8)) ∧ st' = st ++ [(.box [(.d (.int .i64 p0.Op)), (.d (.int .i64 p0.N)), (.d (.str p0.S)), (.d (.str p0.Name)), (.d (.str p0.Src)), (.d (.sl (List.map TE.row p0.Args)))]), (.box [(.d (.int .i64 (0 : Int))), (.d (.int .i64 p0.N)), (.d (.str (⟨#[]⟩ : ByteArray))), (.d (.str (⟨#[]⟩ : ByteArray))), (.d (.str (⟨#[]⟩ : ByteArray))), (.ex [])])]) ?_ ?_
   · unfold DP
     refine Ab (e_t h93) ?_
     refine Au eh hr (fun hr => ?_) (fun hr => ?_)
     rotate_left
     · refine Ah eh (Ah (em rfl eh) (Ah (Ac rfl eh) (Ah (Ac rfl (em rfl eh)) (Ah (Ad rfl eh) (Ao (e_t (Ad rfl (em rfl eh))) e_c ?_)))))
       refine Aa ?_
       exact ⟨false, hr, (Ad rfl (Ad rfl h1)), (Ad rfl (Ad rfl h6)), eh, rfl⟩
     refine Aj eh ?_
     refine AB (e_t (Ac rfl h6)) (by exact rfl) ?_
     refine Aj (em rfl eh) ?_
     refine Ap (e_t eh) ((Am rfl 1).trans rfl) (by exact rfl) ?_
     refine Aj (Ac rfl eh) ?_
     refine AB (e_t (Ad rfl h1)) (by exact rfl) ?_
     refine Aj (Ac rfl (em rfl eh)) ?_
     refine Ap (e_t eh) ((Am rfl 0).trans rfl) (by exact rfl) ?_
     refine Aj (Ad rfl eh) ?_
     refine Ar (e_t (Ac rfl eh)) (e_t eh) (Db ?_)
     refine An (e_t (Ad rfl (em rfl eh))) (e_t eh) (Aa ?_)
     exact ⟨(decide ((⟨#[]⟩ : ByteArray) = p0.S)), hr, (Ad rfl (Ad rfl h1)), (Ad rfl (Ad rfl h6)), eh, rfl⟩
   rintro f st' ⟨v8, hr, h1, h6, h100, rfl⟩
   rw [Je] at hr
   refine Bb (fun f st' => ∃ (v9 : Bool), IY p0 v9 = some r ∧ f 1 = (.ptr (st.length + 0) 0) ∧ f 6 = (.ptr (st.length + 1) 0) ∧ f 107 = (.d (.bool v9)) ∧ st' = st ++ [(.box [(.d (.int .i64 p0.Op)), (.d (.int .i64 p0.N)), (.d (.str p0.S)), (.d (.str p0.Name)), (.d (.str p0.Src)), (.d (.sl (List.map TE.row p0.Args)))]), (.box [(.d (.int .i64 (0 : Int))), (.d (.int .i64 p0.N)), (.d (.str (⟨#[]⟩ : ByteArray))), (.d (.str (⟨#[]⟩ : ByteArray))), (.d (.str (⟨#[]⟩ : ByteArray))), (.ex [])])]) ?_ ?_
   · unfold DM
     refine Ab (e_t h100) ?_
     refine Au eh hr (fun hr => ?_) (fun hr => ?_)
     rotate_left
     · refine Ah eh (Ah (em rfl eh) (Ah (Ac rfl eh) (Ah (Ac rfl (em rfl eh)) (Ah (Ad rfl eh) (Ao (e_t (Ad rfl (em rfl eh))) e_c ?_)))))
       refine Aa ?_
       exact ⟨false, hr, (Ad rfl (Ad rfl h1)), (Ad rfl (Ad rfl h6)), eh, rfl⟩
     refine Aj eh ?_
     refine AB (e_t (Ac rfl h6)) (by exact rfl) ?_
     refine Aj (em rfl eh) ?_
     refine Ap (e_t eh) ((Am rfl 1).trans rfl) (by exact rfl) ?_
     refine Aj (Ac rfl eh) ?_
     refine AB (e_t (Ad rfl h1)) (by exact rfl) ?_
     refine Aj (Ac rfl (em rfl eh)) ?_
     refine Ap (e_t eh) ((Am rfl 0).trans rfl) (by exact rfl) ?_
     refine Aj (Ad rfl eh) ?_
     refine Ar (e_t (Ac rfl eh)) (e_t eh) (Db ?_)
     refine An (e_t (Ad rfl (em rfl eh))) (e_t eh) (Aa ?_)
     exact ⟨(decide ((⟨#[]⟩ : ByteArray) = p0.Name)), hr, (Ad rfl (Ad rfl h1)), (Ad rfl (Ad rfl h6)), eh, rfl⟩
   rintro f st' ⟨v9, hr, h1, h6, h107, rfl⟩
   rw [IY] at hr
   refine Bo ?_
   unfold DJ
   refine Ab (e_t h107) ?_
   refine Au eh hr (fun hr => ?_) (fun hr => ?_)
   rotate_left
   · refine Ah eh (Ah (em rfl eh) (Ah (Ac rfl eh) (Ah (Ac rfl (em rfl eh)) (Ah (Ad rfl eh) (Ao (e_t (Ad rfl (em rfl eh))) e_c ?_)))))
     refine Aa ?_
     unfold BI
     refine Ab (e_t eh) (Aa (Ae (AI ?_)))
     cases hr
     exact A7 (AF eh AH) (AM AG v_d) (Av hwf) h
   refine Aj eh ?_
   refine AB (e_t (Ac rfl h6)) (by exact rfl) ?_
   refine Aj (em rfl eh) ?_
   refine Ap (e_t eh) ((Am rfl 1).trans rfl) (by exact rfl) ?_
   refine Aj (Ac rfl eh) ?_
   refine AB (e_t (Ad rfl h1)) (by exact rfl) ?_
   refine Aj (Ac rfl (em rfl eh)) ?_
   refine Ap (e_t eh) ((Am rfl 0).trans rfl) (by exact rfl) ?_
   refine Aj (Ad rfl eh) ?_
   refine Ar (e_t (Ac rfl eh)) (e_t eh) (Db ?_)
   refine An (e_t (Ad rfl (em rfl eh))) (e_t eh) (Aa ?_)
   unfold BI
   refine Ab (e_t eh) (Aa (Ae (AI ?_)))
   cases hr
   exact A7 (AF eh AH) (AM AG v_d) (Av hwf) h
 refine Al (Af ?_)
 unfold R4
 refine AB (e_t (Ai rfl (Ad rfl (Ac rfl (em rfl eh))))) (by exact rfl) ?_
 refine Ap (e_t eh) ((Am rfl 0).trans rfl) (by exact rfl) ?_
 refine Ar (e_t eh) e_c (BZ ?_)
 refine Ab (e_t eh) (Aa (Ae ?_))
 refine AC (e_t eh) hr (fun hr => ?_) (fun hr => ?_)
 · refine Hb (k := 2) rfl rfl ?_
   unfold RD
   refine Ag (R := []) rfl rfl (AB (e_t (Ai rfl (Ak rfl (Ac rfl (em rfl eh))))) (by exact rfl) (Aa ?_))
   refine Ag rfl (Bz (e_t eh)) (Ap (e_t eh) ((Am rfl 0).trans rfl) (by exact rfl) (Aa ?_))
   refine Ag rfl (U5 (e_t eh) (by exact rfl) Ai1) (CX (rows := List.map rS [p0.Name]) ((AE (e_t eh) AZ (As f_d AK) rfl DV)) (Aa ?_))
   obtain ⟨v10, hc_v10, hr⟩ := bind_some hr
   refine F1 (Ay (e_t eh) RO AR) (Cb (e_t eh) (by exact rfl) FC) (fun st2 => KX n ([p0.Name]) hc_v10 ⟨rfl, rfl⟩) ?_
   refine Ag (R := []) rfl rfl (AB (e_t (Ai rfl (Ak rfl (Ad rfl (Ac rfl (em rfl eh)))))) (by exact rfl) (Aa ?_))
   refine Ag rfl (Bz (e_t eh)) (Ap (e_t eh) ((Am rfl 0).trans rfl) (by exact rfl) (Aa ?_))
   refine Ag (R := []) rfl rfl (Ab (e_t (Ac rfl eh)) (Aa ?_))
   refine Ag (R := []) rfl rfl (AB (e_t (Ai rfl (Ad rfl (Ac rfl (em rfl eh))))) (by exact rfl) (Aa ?_))
   refine Iu (e_t eh) ((Am rfl 1).trans rfl) (e_t (Ac rfl eh)) AZ rfl (Nat.le_of_ble_eq_true rfl) (by exact rfl) (cells' := [(.d (.int .i64 (0 : Int))), (.d (.int .i64 (0 : Int))), (.d (.str (⟨#[]⟩ : ByteArray))), (.d (.str p0.Name)), (.d (.str (⟨#[]⟩ : ByteArray))), (.ex [])]) (by exact rfl) (Bk rfl _ _) ?_
   refine BC ?_
   refine ⟨by simp [BV, okPairs, BS, FE], ?_⟩
   refine BA ?_
   refine Ae (Al (Af ?_))
   unfold Fc
   refine Bb (fun f st' => ∃ (v11 : Bool), I6 p0 v11 = some r ∧ f 1 = (.ptr (st.length + 0) 0) ∧ f 6 = (.ptr (st.length + 1) 0) ∧ f 93 = (.d (.bool v11)) ∧ st' = st ++ [(.box [(.d (.int .i64 p0.Op)), (.d (.int .i64 p0.N)), (.d (.str p0.S)), (.d (.str p0.Name)), (.d (.str p0.Src)), (.d (.sl (List.map TE.row p0.Args)))]), (.box [(.d (.int .i64 (0 : Int))), (.d (.int .i64 (0 : Int))), (.d (.str (⟨#[]⟩ : ByteArray))), (.d (.str p0.Name)), (.d (.str (⟨#[]⟩ : ByteArray))), (.ex [])]), .fresh]) ?_ ?_
   · unfold DT
     refine Ab (e_t (em rfl eh)) (Ab (e_t eh) ?_)
     refine Au eh hr (fun hr => ?_) (fun hr => ?_)
     rotate_left
     · refine Ah eh (Ah (em rfl eh) (Ah (Ac rfl eh) (Ah (Ac rfl (em rfl eh)) (Ah (Ad rfl eh) (Ao (e_t (Ad rfl (em rfl eh))) e_c ?_)))))
       refine Aa ?_
       exact ⟨false, hr, (Ai rfl (Ai rfl (Ak rfl (Ad rfl eh)))), (Ai rfl (Ai rfl (em rfl eh))), eh, rfl⟩
     refine Aj eh ?_
     refine AB (e_t (Ai rfl (Ak rfl (Ac rfl (em rfl eh))))) (by exact rfl) ?_
     refine Aj (em rfl eh) ?_
     refine Ap (e_t eh) ((Am rfl 1).trans rfl) (by exact rfl) ?_
     refine Aj (Ac rfl eh) ?_
     refine AB (e_t (Ai rfl (Ai rfl (Ad rfl (Ad rfl eh))))) (by exact rfl) ?_
     refine Aj (Ac rfl (em rfl eh)) ?_
     refine Ap (e_t eh) ((Am rfl 0).trans rfl) (by exact rfl) ?_
     refine Aj (Ad rfl eh) ?_
     refine Ar (e_t (Ac rfl eh)) (e_t eh) (BZ ?_)
     refine An (e_t (Ad rfl (em rfl eh))) (e_t eh) (Aa ?_)
     exact ⟨(decide ((0 : Int) = p0.N)), hr, (Ai rfl (Ai rfl (Ak rfl (Ad rfl eh)))), (Ai rfl (Ai rfl (em rfl eh))), eh, rfl⟩
   rintro f st' ⟨v11, hr, h1, h6, h93, rfl⟩
   rw [I6] at hr
   refine Bb (fun f st' => ∃ (v12 : Bool), Im p0 v12 = some r ∧ f 1 = (.ptr (st.length + 0) 0) ∧ f 6 = (.ptr (st.length + 1) 0) ∧ f 100 = (.d (.bool v12)) ∧ st' = st ++ [(.box [(.d (.int .i64 p0.Op)), (.d (.int .i64 p0.N)), (.d (.str p0.S)), (.d (.str p0.Name)), (.d (.str p0.Src)), (.d (.sl (List.map TE.row p0.Args)))]), (.box [(.d (.int .i64 (0 : Int))), (.d (.int .i64 (0 : Int))), (.d (.str (⟨#[]⟩ : ByteArray))), (.d (.str p0.Name)), (.d (.str (⟨#[]⟩ : ByteArray))), (.ex [])]), .fresh]) ?_ ?_
   · unfold DP
     refine Ab (e_t h93) ?_
     refine Au eh hr (fun hr => ?_) (fun hr => ?_)
     rotate_left
     · refine Ah eh (Ah (em rfl eh) (Ah (Ac rfl eh) (Ah (Ac rfl (em rfl eh)) (Ah (Ad rfl eh) (Ao (e_t (Ad rfl (em rfl eh))) e_c ?_)))))
       refine Aa ?_
       exact ⟨false, hr, (Ad rfl (Ad rfl h1)), (Ad rfl (Ad rfl h6)), eh, rfl⟩
     refine Aj eh ?_
     refine AB (e_t (Ac rfl h6)) (by exact rfl) ?_
     refine Aj (em rfl eh) ?_
     refine Ap (e_t eh) ((Am rfl 1).trans rfl) (by exact rfl) ?_
     refine Aj (Ac rfl eh) ?_
     refine AB (e_t (Ad rfl h1)) (by exact rfl) ?_
     refine Aj (Ac rfl (em rfl eh)) ?_
     refine Ap (e_t eh) ((Am rfl 0).trans rfl) (by exact rfl) ?_
     refine Aj (Ad rfl eh) ?_
     refine Ar (e_t (Ac rfl eh)) (e_t eh) (Db ?_)
     refine An (e_t (Ad rfl (em rfl eh))) (e_t eh) (Aa ?_)
     exact ⟨(decide ((⟨#[]⟩ : ByteArray) = p0.S)), hr, (Ad rfl (Ad rfl h1)), (Ad rfl (Ad rfl h6)), eh, rfl⟩
   rintro f st' ⟨v12, hr, h1, h6, h100, rfl⟩
   rw [Im] at hr
   refine Bb (fun f st' => ∃ (v13 : Bool), Ik p0 v13 = some r ∧ f 1 = (.ptr (st.length + 0) 0) ∧ f 6 = (.ptr (st.length + 1) 0) ∧ f 107 = (.d (.bool v13)) ∧ st' = st ++ [(.box [(.d (.int .i64 p0.Op)), (.d (.int .i64 p0.N)), (.d (.str p0.S)), (.d (.str p0.Name)), (.d (.str p0.Src)), (.d (.sl (List.map TE.row p0.Args)))]), (.box [(.d (.int .i64 (0 : Int))), (.d (.int .i64 (0 : Int))), (.d (.str (⟨#[]⟩ : ByteArray))), (.d (.str p0.Name)), (.d (.str (⟨#[]⟩ : ByteArray))), (.ex [])]), .fresh]) ?_ ?_
   · unfold DM
     refine Ab (e_t h100) ?_
     refine Au eh hr (fun hr => ?_) (fun hr => ?_)
     rotate_left
     · refine Ah eh (Ah (em rfl eh) (Ah (Ac rfl eh) (Ah (Ac rfl (em rfl eh)) (Ah (Ad rfl eh) (Ao (e_t (Ad rfl (em rfl eh))) e_c ?_)))))
       refine Aa ?_
       exact ⟨false, hr, (Ad rfl (Ad rfl h1)), (Ad rfl (Ad rfl h6)), eh, rfl⟩
     refine Aj eh ?_
     refine AB (e_t (Ac rfl h6)) (by exact rfl) ?_
     refine Aj (em rfl eh) ?_
     refine Ap (e_t eh) ((Am rfl 1).trans rfl) (by exact rfl) ?_
     refine Aj (Ac rfl eh) ?_
     refine AB (e_t (Ad rfl h1)) (by exact rfl) ?_
     refine Aj (Ac rfl (em rfl eh)) ?_
     refine Ap (e_t eh) ((Am rfl 0).trans rfl) (by exact rfl) ?_
     refine Aj (Ad rfl eh) ?_
     refine Ar (e_t (Ac rfl eh)) (e_t eh) (Db ?_)
     refine An (e_t (Ad rfl (em rfl eh))) (e_t eh) (Aa ?_)
     exact ⟨(decide (p0.Name = p0.Name)), hr, (Ad rfl (Ad rfl h1)), (Ad rfl (Ad rfl h6)), eh, rfl⟩
   rintro f st' ⟨v13, hr, h1, h6, h107, rfl⟩
   rw [Ik] at hr
   refine Bo ?_
   unfold DJ
   refine Ab (e_t h107) ?_
   refine Au eh hr (fun hr => ?_) (fun hr => ?_)
   rotate_left
   · refine Ah eh (Ah (em rfl eh) (Ah (Ac rfl eh) (Ah (Ac rfl (em rfl eh)) (Ah (Ad rfl eh) (Ao (e_t (Ad rfl (em rfl eh))) e_c ?_)))))
     refine Aa ?_
     unfold BI
     refine Ab (e_t eh) (Aa (Ae (AI ?_)))
     cases hr
     exact A7 (AF eh AH) (AM AG v_d) (Av hwf) h
   refine Aj eh ?_
   refine AB (e_t (Ac rfl h6)) (by exact rfl) ?_
   refine Aj (em rfl eh) ?_
   refine Ap (e_t eh) ((Am rfl 1).trans rfl) (by exact rfl) ?_
   refine Aj (Ac rfl eh) ?_
   refine AB (e_t (Ad rfl h1)) (by exact rfl) ?_
   refine Aj (Ac rfl (em rfl eh)) ?_
   refine Ap (e_t eh) ((Am rfl 0).trans rfl) (by exact rfl) ?_
   refine Aj (Ad rfl eh) ?_
   refine Ar (e_t (Ac rfl eh)) (e_t eh) (Db ?_)
   refine An (e_t (Ad rfl (em rfl eh))) (e_t eh) (Aa ?_)
   unfold BI
   refine Ab (e_t eh) (Aa (Ae (AI ?_)))
   cases hr
   exact A7 (AF eh AH) (AM AG v_d) (Av hwf) h
 refine Al (Af ?_)
 unfold R6
 refine AB (e_t (Ai rfl (Ak rfl (Ac rfl (em rfl eh))))) (by exact rfl) ?_
 refine Ap (e_t eh) ((Am rfl 0).trans rfl) (by exact rfl) ?_
 refine Ar (e_t eh) e_c (BZ ?_)
 refine Ab (e_t eh) (Aa (Ae ?_))
 refine AC (e_t eh) hr (fun hr => ?_) (fun hr => ?_)
 · refine Hb (k := 2) rfl rfl ?_
   unfold RU
   refine Ag (R := []) rfl rfl (AB (e_t (Ai rfl (Ak rfl (Ad rfl (Ac rfl (em rfl eh)))))) (by exact rfl) (Aa ?_))
   refine Ag rfl (Bz (e_t eh)) (Ap (e_t eh) ((Am rfl 0).trans rfl) (by exact rfl) (Aa ?_))
   refine Ag (R := []) rfl rfl (AB (e_t (Ai rfl (Ai rfl (em rfl eh)))) (by exact rfl) (Aa ?_))
   refine Ag rfl (Bz (e_t eh)) (Ap (e_t eh) ((Am rfl 0).trans rfl) (by exact rfl) (Aa ?_))
   refine Ag rfl (U5 (e_t (Ac rfl eh)) (by exact rfl) (U5 (e_t eh) (by exact rfl) Ai1)) (CX (rows := List.map rS [p0.Name, p0.S]) ((AE (e_t (Ac rfl eh)) AZ (As f_d AK) rfl (AE (e_t eh) AZ (As f_d AK) rfl DV))) (Aa ?_))
   obtain ⟨v14, hc_v14, hr⟩ := bind_some hr
   refine F1 (Ay (e_t eh) RO AR) (Cb (e_t eh) (by exact rfl) FC) (fun st2 => KX n ([p0.Name, p0.S]) hc_v14 ⟨rfl, rfl⟩) ?_
   refine Ag (R := []) rfl rfl (AB (e_t (Ai rfl (Ai rfl (Ad rfl (em rfl eh))))) (by exact rfl) (Aa ?_))
   refine Ag rfl (Bz (e_t eh)) (Ap (e_t eh) ((Am rfl 0).trans rfl) (by exact rfl) (Aa ?_))
   refine Ag (R := []) rfl rfl (AB (e_t (Ai rfl (Ai rfl (Ad rfl (Ac rfl (em rfl eh)))))) (by exact rfl) (Aa ?_))
   refine Ag rfl (Bz (e_t eh)) (Ap (e_t eh) ((Am rfl 0).trans rfl) (by exact rfl) (Aa ?_))
   refine Ag (R := []) rfl rfl (Ab (e_t (Ad rfl eh)) (Aa ?_))
   refine Ag (R := []) rfl rfl (AB (e_t (Ai rfl (Ak rfl (Ad rfl (Ac rfl (em rfl eh)))))) (by exact rfl) (Aa ?_))
   refine Iu (e_t eh) ((Am rfl 1).trans rfl) (e_t (Ad rfl eh)) AZ rfl (Nat.le_of_ble_eq_true rfl) (by exact rfl) (cells' := [(.d (.int .i64 (0 : Int))), (.d (.int .i64 (0 : Int))), (.d (.str (⟨#[]⟩ : ByteArray))), (.d (.str p0.Name)), (.d (.str (⟨#[]⟩ : ByteArray))), (.ex [])]) (by exact rfl) (Bk rfl _ _) ?_
   refine Ag (R := []) rfl rfl (AB (e_t (Ai rfl (Ak rfl (Ad rfl (Ad rfl eh))))) (by exact rfl) (Aa ?_))
   refine Iu (e_t eh) ((Am rfl 1).trans rfl) (e_t (Ac rfl (em rfl eh))) AZ rfl (Nat.le_of_ble_eq_true rfl) (by exact rfl) (cells' := [(.d (.int .i64 (0 : Int))), (.d (.int .i64 (0 : Int))), (.d (.str p0.S)), (.d (.str p0.Name)), (.d (.str (⟨#[]⟩ : ByteArray))), (.ex [])]) (by exact rfl) (Bk rfl _ _) ?_
   refine BC ?_
   refine ⟨by simp [BV, okPairs, BS, FE], ?_⟩
   refine BA ?_
   refine Ae (Al (Af ?_))
   unfold Fc
   refine Bb (fun f st' => ∃ (v15 : Bool), H6 p0 v15 = some r ∧ f 1 = (.ptr (st.length + 0) 0) ∧ f 6 = (.ptr (st.length + 1) 0) ∧ f 93 = (.d (.bool v15)) ∧ st' = st ++ [(.box [(.d (.int .i64 p0.Op)), (.d (.int .i64 p0.N)), (.d (.str p0.S)), (.d (.str p0.Name)), (.d (.str p0.Src)), (.d (.sl (List.map TE.row p0.Args)))]), (.box [(.d (.int .i64 (0 : Int))), (.d (.int .i64 (0 : Int))), (.d (.str p0.S)), (.d (.str p0.Name)), (.d (.str (⟨#[]⟩ : ByteArray))), (.ex [])]), .fresh]) ?_ ?_
   · unfold DT
     refine Ab (e_t (Ac rfl eh)) (Ab (e_t eh) ?_)
     refine Au eh hr (fun hr => ?_) (fun hr => ?_)
     rotate_left
     · refine Ah eh (Ah (em rfl eh) (Ah (Ac rfl eh) (Ah (Ac rfl (em rfl eh)) (Ah (Ad rfl eh) (Ao (e_t (Ad rfl (em rfl eh))) e_c ?_)))))
       refine Aa ?_
       exact ⟨false, hr, (Ai rfl (Ai rfl (Ai rfl (Ad rfl (em rfl eh))))), (Ai rfl (Ai rfl (Ak rfl (Ac rfl eh)))), eh, rfl⟩
     refine Aj eh ?_
     refine AB (e_t (Ai rfl (Ai rfl (Ad rfl eh)))) (by exact rfl) ?_
     refine Aj (em rfl eh) ?_
     refine Ap (e_t eh) ((Am rfl 1).trans rfl) (by exact rfl) ?_
     refine Aj (Ac rfl eh) ?_
     refine AB (e_t (Ai rfl (Ai rfl (Ai rfl (em rfl eh))))) (by exact rfl) ?_
     refine Aj (Ac rfl (em rfl eh)) ?_
     refine Ap (e_t eh) ((Am rfl 0).trans rfl) (by exact rfl) ?_
     refine Aj (Ad rfl eh) ?_
     refine Ar (e_t (Ac rfl eh)) (e_t eh) (BZ ?_)
     refine An (e_t (Ad rfl (em rfl eh))) (e_t eh) (Aa ?_)
     exact ⟨(decide ((0 : Int) = p0.N)), hr, (Ai rfl (Ai rfl (Ai rfl (Ad rfl (em rfl eh))))), (Ai rfl (Ai rfl (Ak rfl (Ac rfl eh)))), eh, rfl⟩
   rintro f st' ⟨v15, hr, h1, h6, h93, rfl⟩
   rw [H6] at hr
   refine Bb (fun f st' => ∃ (v16 : Bool), H9 p0 v16 = some r ∧ f 1 = (.ptr (st.length + 0) 0) ∧ f 6 = (.ptr (st.length + 1) 0) ∧ f 100 = (.d (.bool v16)) ∧ st' = st ++ [(.box [(.d (.int .i64 p0.Op)), (.d (.int .i64 p0.N)), (.d (.str p0.S)), (.d (.str p0.Name)), (.d (.str p0.Src)), (.d (.sl (List.map TE.row p0.Args)))]), (.box [(.d (.int .i64 (0 : Int))), (.d (.int .i64 (0 : Int))), (.d (.str p0.S)), (.d (.str p0.Name)), (.d (.str (⟨#[]⟩ : ByteArray))), (.ex [])]), .fresh]) ?_ ?_
   · unfold DP
     refine Ab (e_t h93) ?_
     refine Au eh hr (fun hr => ?_) (fun hr => ?_)
     rotate_left
     · refine Ah eh (Ah (em rfl eh) (Ah (Ac rfl eh) (Ah (Ac rfl (em rfl eh)) (Ah (Ad rfl eh) (Ao (e_t (Ad rfl (em rfl eh))) e_c ?_)))))
       refine Aa ?_
       exact ⟨false, hr, (Ad rfl (Ad rfl h1)), (Ad rfl (Ad rfl h6)), eh, rfl⟩
     refine Aj eh ?_
     refine AB (e_t (Ac rfl h6)) (by exact rfl) ?_
     refine Aj (em rfl eh) ?_
     refine Ap (e_t eh) ((Am rfl 1).trans rfl) (by exact rfl) ?_
     refine Aj (Ac rfl eh) ?_
     refine AB (e_t (Ad rfl h1)) (by exact rfl) ?_
     refine Aj (Ac rfl (em rfl eh)) ?_
     refine Ap (e_t eh) ((Am rfl 0).trans rfl) (by exact rfl) ?_
     refine Aj (Ad rfl eh) ?_
     refine Ar (e_t (Ac rfl eh)) (e_t eh) (Db ?_)
     refine An (e_t (Ad rfl (em rfl eh))) (e_t eh) (Aa ?_)
     exact ⟨(decide (p0.S = p0.S)), hr, (Ad rfl (Ad rfl h1)), (Ad rfl (Ad rfl h6)), eh, rfl⟩
   rintro f st' ⟨v16, hr, h1, h6, h100, rfl⟩
   rw [H9] at hr
   refine Bb (fun f st' => ∃ (v17 : Bool), H7 p0 v17 = some r ∧ f 1 = (.ptr (st.length + 0) 0) ∧ f 6 = (.ptr (st.length + 1) 0) ∧ f 107 = (.d (.bool v17)) ∧ st' = st ++ [(.box [(.d (.int .i64 p0.Op)), (.d (.int .i64 p0.N)), (.d (.str p0.S)), (.d (.str p0.Name)), (.d (.str p0.Src)), (.d (.sl (List.map TE.row p0.Args)))]), (.box [(.d (.int .i64 (0 : Int))), (.d (.int .i64 (0 : Int))), (.d (.str p0.S)), (.d (.str p0.Name)), (.d (.str (⟨#[]⟩ : ByteArray))), (.ex [])]), .fresh]) ?_ ?_
   · unfold DM
     refine Ab (e_t h100) ?_
     refine Au eh hr (fun hr => ?_) (fun hr => ?_)
     rotate_left
     · refine Ah eh (Ah (em rfl eh) (Ah (Ac rfl eh) (Ah (Ac rfl (em rfl eh)) (Ah (Ad rfl eh) (Ao (e_t (Ad rfl (em rfl eh))) e_c ?_)))))
       refine Aa ?_
       exact ⟨false, hr, (Ad rfl (Ad rfl h1)), (Ad rfl (Ad rfl h6)), eh, rfl⟩
     refine Aj eh ?_
     refine AB (e_t (Ac rfl h6)) (by exact rfl) ?_
     refine Aj (em rfl eh) ?_
     refine Ap (e_t eh) ((Am rfl 1).trans rfl) (by exact rfl) ?_
     refine Aj (Ac rfl eh) ?_
     refine AB (e_t (Ad rfl h1)) (by exact rfl) ?_
     refine Aj (Ac rfl (em rfl eh)) ?_
     refine Ap (e_t eh) ((Am rfl 0).trans rfl) (by exact rfl) ?_
     refine Aj (Ad rfl eh) ?_
     refine Ar (e_t (Ac rfl eh)) (e_t eh) (Db ?_)
     refine An (e_t (Ad rfl (em rfl eh))) (e_t eh) (Aa ?_)
     exact ⟨(decide (p0.Name = p0.Name)), hr, (Ad rfl (Ad rfl h1)), (Ad rfl (Ad rfl h6)), eh, rfl⟩
   rintro f st' ⟨v17, hr, h1, h6, h107, rfl⟩
   rw [H7] at hr
   refine Bo ?_
   unfold DJ
   refine Ab (e_t h107) ?_
   refine Au eh hr (fun hr => ?_) (fun hr => ?_)
   rotate_left
   · refine Ah eh (Ah (em rfl eh) (Ah (Ac rfl eh) (Ah (Ac rfl (em rfl eh)) (Ah (Ad rfl eh) (Ao (e_t (Ad rfl (em rfl eh))) e_c ?_)))))
     refine Aa ?_
     unfold BI
     refine Ab (e_t eh) (Aa (Ae (AI ?_)))
     cases hr
     exact A7 (AF eh AH) (AM AG v_d) (Av hwf) h
   refine Aj eh ?_
   refine AB (e_t (Ac rfl h6)) (by exact rfl) ?_
   refine Aj (em rfl eh) ?_
   refine Ap (e_t eh) ((Am rfl 1).trans rfl) (by exact rfl) ?_
   refine Aj (Ac rfl eh) ?_
   refine AB (e_t (Ad rfl h1)) (by exact rfl) ?_
   refine Aj (Ac rfl (em rfl eh)) ?_
   refine Ap (e_t eh) ((Am rfl 0).trans rfl) (by exact rfl) ?_
   refine Aj (Ad rfl eh) ?_
   refine Ar (e_t (Ac rfl eh)) (e_t eh) (Db ?_)
   refine An (e_t (Ad rfl (em rfl eh))) (e_t eh) (Aa ?_)
   unfold BI
   refine Ab (e_t eh) (Aa (Ae (AI ?_)))
   cases hr
   exact A7 (AF eh AH) (AM AG v_d) (Av hwf) h
 refine Al (Af ?_)
 unfold RQ
 refine Ab (e_t (Ai rfl (Ad rfl (Ac rfl eh)))) (Ab (e_t eh) (Aa (Ae ?_)))
 refine AC (e_t eh) hr (fun hr => ?_) (fun hr => ?_)
 rotate_left
 · refine Af ?_
   unfold R3
   refine Ab e_c (Aa ?_)
   refine BA ?_
   refine Ae (Al (Af ?_))
   unfold Fc
   refine Bo ?_
   unfold DT
   refine Ab (e_t eh) (Ab (e_t eh) (Aj eh ?_))
   refine AB (e_t (Ai rfl (Ak rfl (em rfl eh)))) (by exact rfl) ?_
   refine Aj (em rfl eh) ?_
   refine Ap (e_t eh) ((Am rfl 1).trans rfl) (by exact rfl) ?_
   refine Aj (Ac rfl eh) ?_
   refine AB (e_t (Ai rfl (Ai rfl (Ad rfl (Ac rfl eh))))) (by exact rfl) ?_
   refine Aj (Ac rfl (em rfl eh)) ?_
   refine Ap (e_t eh) ((Am rfl 0).trans rfl) (by exact rfl) ?_
   refine Aj (Ad rfl eh) ?_
   refine Ar (e_t (Ac rfl eh)) (e_t eh) (BZ ?_)
   refine An (e_t (Ad rfl (em rfl eh))) (e_t eh) (Aa ?_)
   refine Bb (fun f st' => ∃ (v22 : Bool), Ii p0 v22 = some r ∧ f 1 = (.ptr (st.length + 0) 0) ∧ f 6 = (.ptr (st.length + 1) 0) ∧ f 100 = (.d (.bool v22)) ∧ st' = st ++ [(.box [(.d (.int .i64 p0.Op)), (.d (.int .i64 p0.N)), (.d (.str p0.S)), (.d (.str p0.Name)), (.d (.str p0.Src)), (.d (.sl (List.map TE.row p0.Args)))]), (.box [(.d (.int .i64 (0 : Int))), (.d (.int .i64 (0 : Int))), (.d (.str (⟨#[]⟩ : ByteArray))), (.d (.str (⟨#[]⟩ : ByteArray))), (.d (.str (⟨#[]⟩ : ByteArray))), (.ex [])])]) ?_ ?_
   · unfold DP
     refine Ab (e_t eh) ?_
     refine Au eh hr (fun hr => ?_) (fun hr => ?_)
     rotate_left
     · refine Ah eh (Ah (em rfl eh) (Ah (Ac rfl eh) (Ah (Ac rfl (em rfl eh)) (Ah (Ad rfl eh) (Ao (e_t (Ad rfl (em rfl eh))) e_c ?_)))))
       refine Aa ?_
       exact ⟨false, hr, (Ai rfl (Ai rfl (Ai rfl (Ac rfl eh)))), (Ai rfl (Ai rfl (Ad rfl (Ac rfl (em rfl eh))))), eh, rfl⟩
     refine Aj eh ?_
     refine AB (e_t (Ai rfl (Ai rfl (em rfl eh)))) (by exact rfl) ?_
     refine Aj (em rfl eh) ?_
     refine Ap (e_t eh) ((Am rfl 1).trans rfl) (by exact rfl) ?_
     refine Aj (Ac rfl eh) ?_
     refine AB (e_t (Ai rfl (Ai rfl (Ak rfl (Ad rfl (Ac rfl eh)))))) (by exact rfl) ?_
     refine Aj (Ac rfl (em rfl eh)) ?_
     refine Ap (e_t eh) ((Am rfl 0).trans rfl) (by exact rfl) ?_
     refine Aj (Ad rfl eh) ?_
     refine Ar (e_t (Ac rfl eh)) (e_t eh) (Db ?_)
     refine An (e_t (Ad rfl (em rfl eh))) (e_t eh) (Aa ?_)
     exact ⟨(decide ((⟨#[]⟩ : ByteArray) = p0.S)), hr, (Ai rfl (Ai rfl (Ai rfl (Ac rfl eh)))), (Ai rfl (Ai rfl (Ad rfl (Ac rfl (em rfl eh))))), eh, rfl⟩
   rintro f st' ⟨v22, hr, h1, h6, h100, rfl⟩
   rw [Ii] at hr
   refine Bb (fun f st' => ∃ (v23 : Bool), Ih p0 v23 = some r ∧ f 1 = (.ptr (st.length + 0) 0) ∧ f 6 = (.ptr (st.length + 1) 0) ∧ f 107 = (.d (.bool v23)) ∧ st' = st ++ [(.box [(.d (.int .i64 p0.Op)), (.d (.int .i64 p0.N)), (.d (.str p0.S)), (.d (.str p0.Name)), (.d (.str p0.Src)), (.d (.sl (List.map TE.row p0.Args)))]), (.box [(.d (.int .i64 (0 : Int))), (.d (.int .i64 (0 : Int))), (.d (.str (⟨#[]⟩ : ByteArray))), (.d (.str (⟨#[]⟩ : ByteArray))), (.d (.str (⟨#[]⟩ : ByteArray))), (.ex [])])]) ?_ ?_
   · unfold DM
     refine Ab (e_t h100) ?_
     refine Au eh hr (fun hr => ?_) (fun hr => ?_)
     rotate_left
     · refine Ah eh (Ah (em rfl eh) (Ah (Ac rfl eh) (Ah (Ac rfl (em rfl eh)) (Ah (Ad rfl eh) (Ao (e_t (Ad rfl (em rfl eh))) e_c ?_)))))
       refine Aa ?_
       exact ⟨false, hr, (Ad rfl (Ad rfl h1)), (Ad rfl (Ad rfl h6)), eh, rfl⟩
     refine Aj eh ?_
     refine AB (e_t (Ac rfl h6)) (by exact rfl) ?_
     refine Aj (em rfl eh) ?_
     refine Ap (e_t eh) ((Am rfl 1).trans rfl) (by exact rfl) ?_
     refine Aj (Ac rfl eh) ?_
     refine AB (e_t (Ad rfl h1)) (by exact rfl) ?_
     refine Aj (Ac rfl (em rfl eh)) ?_
     refine Ap (e_t eh) ((Am rfl 0).trans rfl) (by exact rfl) ?_
     refine Aj (Ad rfl eh) ?_
     refine Ar (e_t (Ac rfl eh)) (e_t eh) (Db ?_)
     refine An (e_t (Ad rfl (em rfl eh))) (e_t eh) (Aa ?_)
     exact ⟨(decide ((⟨#[]⟩ : ByteArray) = p0.Name)), hr, (Ad rfl (Ad rfl h1)), (Ad rfl (Ad rfl h6)), eh, rfl⟩
   rintro f st' ⟨v23, hr, h1, h6, h107, rfl⟩
   rw [Ih] at hr
   refine Bo ?_
   unfold DJ
   refine Ab (e_t h107) ?_
   refine Au eh hr (fun hr => ?_) (fun hr => ?_)
   rotate_left
   · refine Ah eh (Ah (em rfl eh) (Ah (Ac rfl eh) (Ah (Ac rfl (em rfl eh)) (Ah (Ad rfl eh) (Ao (e_t (Ad rfl (em rfl eh))) e_c ?_)))))
     refine Aa ?_
     unfold BI
     refine Ab (e_t eh) (Aa (Ae (AI ?_)))
     cases hr
     exact A7 (AF eh AH) (AM AG v_d) (Av hwf) h
   refine Aj eh ?_
   refine AB (e_t (Ac rfl h6)) (by exact rfl) ?_
   refine Aj (em rfl eh) ?_
   refine Ap (e_t eh) ((Am rfl 1).trans rfl) (by exact rfl) ?_
   refine Aj (Ac rfl eh) ?_
   refine AB (e_t (Ad rfl h1)) (by exact rfl) ?_
   refine Aj (Ac rfl (em rfl eh)) ?_
   refine Ap (e_t eh) ((Am rfl 0).trans rfl) (by exact rfl) ?_
   refine Aj (Ad rfl eh) ?_
   refine Ar (e_t (Ac rfl eh)) (e_t eh) (Db ?_)
   refine An (e_t (Ad rfl (em rfl eh))) (e_t eh) (Aa ?_)
   unfold BI
   refine Ab (e_t eh) (Aa (Ae (AI ?_)))
   cases hr
   exact A7 (AF eh AH) (AM AG v_d) (Av hwf) h
 refine Hb (k := 2) rfl rfl ?_
 unfold RS
 refine Ag (R := []) rfl rfl (AB (e_t (Ai rfl (Ai rfl (em rfl eh)))) (by exact rfl) (Aa ?_))
 refine Ag rfl (Bz (e_t eh)) (Ap (e_t eh) ((Am rfl 0).trans rfl) (by exact rfl) (Aa ?_))
 refine Ag (R := []) rfl rfl (AB (e_t (Ai rfl (Ai rfl (Ac rfl (em rfl eh))))) (by exact rfl) (Aa ?_))
 refine Ag rfl (Bz (e_t eh)) (Ap (e_t eh) ((Am rfl 0).trans rfl) (by exact rfl) (Aa ?_))
 refine Ag rfl (U5 (e_t (Ac rfl eh)) (by exact rfl) (U5 (e_t eh) (by exact rfl) Ai1)) (CX (rows := List.map rS [p0.Name, p0.Src]) ((AE (e_t (Ac rfl eh)) AZ (As f_d AK) rfl (AE (e_t eh) AZ (As f_d AK) rfl DV))) (Aa ?_))
 obtain ⟨v18, hc_v18, hr⟩ := bind_some hr
 refine F1 (Ay (e_t eh) RO AR) (Cb (e_t eh) (by exact rfl) FC) (fun st2 => KX n ([p0.Name, p0.Src]) hc_v18 ⟨rfl, rfl⟩) ?_
 refine Ag (R := []) rfl rfl (AB (e_t (Ai rfl (Ai rfl (Ad rfl (Ac rfl (em rfl eh)))))) (by exact rfl) (Aa ?_))
 refine Ag rfl (Bz (e_t eh)) (Ap (e_t eh) ((Am rfl 0).trans rfl) (by exact rfl) (Aa ?_))
 refine Ag (R := []) rfl rfl (AB (e_t (Ai rfl (Ai rfl (Ak rfl (em rfl eh))))) (by exact rfl) (Aa ?_))
 refine Ag rfl (Bz (e_t eh)) (Ap (e_t eh) ((Am rfl 0).trans rfl) (by exact rfl) (Aa ?_))
 refine Ag (R := []) rfl rfl (Ab (e_t (Ad rfl eh)) (Aa ?_))
 refine Ag (R := []) rfl rfl (AB (e_t (Ai rfl (Ai rfl (em rfl eh)))) (by exact rfl) (Aa ?_))
 refine Iu (e_t eh) ((Am rfl 1).trans rfl) (e_t (Ad rfl eh)) AZ rfl (Nat.le_of_ble_eq_true rfl) (by exact rfl) (cells' := [(.d (.int .i64 (0 : Int))), (.d (.int .i64 (0 : Int))), (.d (.str (⟨#[]⟩ : ByteArray))), (.d (.str p0.Name)), (.d (.str (⟨#[]⟩ : ByteArray))), (.ex [])]) (by exact rfl) (Bk rfl _ _) ?_
 refine Ag (R := []) rfl rfl (AB (e_t (Ai rfl (Ai rfl (Ac rfl eh)))) (by exact rfl) (Aa ?_))
 refine Iu (e_t eh) ((Am rfl 1).trans rfl) (e_t (Ac rfl (em rfl eh))) AZ rfl (Nat.le_of_ble_eq_true rfl) (by exact rfl) (cells' := [(.d (.int .i64 (0 : Int))), (.d (.int .i64 (0 : Int))), (.d (.str (⟨#[]⟩ : ByteArray))), (.d (.str p0.Name)), (.d (.str p0.Src)), (.ex [])]) (by exact rfl) (Bk rfl _ _) ?_
 refine BC ?_
 refine ⟨by simp [BV, okPairs, BS, FE], ?_⟩
 refine BA ?_
 refine Ae (Al (Af ?_))
 unfold Fc
 refine Bb (fun f st' => ∃ (v19 : Bool), Ie p0 v19 = some r ∧ f 1 = (.ptr (st.length + 0) 0) ∧ f 6 = (.ptr (st.length + 1) 0) ∧ f 93 = (.d (.bool v19)) ∧ st' = st ++ [(.box [(.d (.int .i64 p0.Op)), (.d (.int .i64 p0.N)), (.d (.str p0.S)), (.d (.str p0.Name)), (.d (.str p0.Src)), (.d (.sl (List.map TE.row p0.Args)))]), (.box [(.d (.int .i64 (0 : Int))), (.d (.int .i64 (0 : Int))), (.d (.str (⟨#[]⟩ : ByteArray))), (.d (.str p0.Name)), (.d (.str p0.Src)), (.ex [])]), .fresh]) ?_ ?_
 · unfold DT
   refine Ab (e_t (Ac rfl eh)) (Ab (e_t eh) ?_)
   refine Au eh hr (fun hr => ?_) (fun hr => ?_)
   rotate_left
   · refine Ah eh (Ah (em rfl eh) (Ah (Ac rfl eh) (Ah (Ac rfl (em rfl eh)) (Ah (Ad rfl eh) (Ao (e_t (Ad rfl (em rfl eh))) e_c ?_)))))
     refine Aa ?_
     exact ⟨false, hr, (Ai rfl (Ai rfl (Ai rfl (Ad rfl (Ac rfl (em rfl eh)))))), (Ai rfl (Ai rfl (Ak rfl (Ad rfl eh)))), eh, rfl⟩
   refine Aj eh ?_
   refine AB (e_t (Ai rfl (Ai rfl (Ad rfl (Ac rfl eh))))) (by exact rfl) ?_
   refine Aj (em rfl eh) ?_
   refine Ap (e_t eh) ((Am rfl 1).trans rfl) (by exact rfl) ?_
   refine Aj (Ac rfl eh) ?_
   refine AB (e_t (Ai rfl (Ai rfl (Ai rfl (Ac rfl (em rfl eh)))))) (by exact rfl) ?_
   refine Aj (Ac rfl (em rfl eh)) ?_
   refine Ap (e_t eh) ((Am rfl 0).trans rfl) (by exact rfl) ?_
   refine Aj (Ad rfl eh) ?_
   refine Ar (e_t (Ac rfl eh)) (e_t eh) (BZ ?_)
   refine An (e_t (Ad rfl (em rfl eh))) (e_t eh) (Aa ?_)
   exact ⟨(decide ((0 : Int) = p0.N)), hr, (Ai rfl (Ai rfl (Ai rfl (Ad rfl (Ac rfl (em rfl eh)))))), (Ai rfl (Ai rfl (Ak rfl (Ad rfl eh)))), eh, rfl⟩
 rintro f st' ⟨v19, hr, h1, h6, h93, rfl⟩
 rw [Ie] at hr
 refine Bb (fun f st' => ∃ (v20 : Bool), Ia p0 v20 = some r ∧ f 1 = (.ptr (st.length + 0) 0) ∧ f 6 = (.ptr (st.length + 1) 0) ∧ f 100 = (.d (.bool v20)) ∧ st' = st ++ [(.box [(.d (.int .i64 p0.Op)), (.d (.int .i64 p0.N)), (.d (.str p0.S)), (.d (.str p0.Name)), (.d (.str p0.Src)), (.d (.sl (List.map TE.row p0.Args)))]), (.box [(.d (.int .i64 (0 : Int))), (.d (.int .i64 (0 : Int))), (.d (.str (⟨#[]⟩ : ByteArray))), (.d (.str p0.Name)), (.d (.str p0.Src)), (.ex [])]), .fresh]) ?_ ?_
 · unfold DP
   refine Ab (e_t h93) ?_
   refine Au eh hr (fun hr => ?_) (fun hr => ?_)
   rotate_left
   · refine Ah eh (Ah (em rfl eh) (Ah (Ac rfl eh) (Ah (Ac rfl (em rfl eh)) (Ah (Ad rfl eh) (Ao (e_t (Ad rfl (em rfl eh))) e_c ?_)))))
     refine Aa ?_
     exact ⟨false, hr, (Ad rfl (Ad rfl h1)), (Ad rfl (Ad rfl h6)), eh, rfl⟩
   refine Aj eh ?_
   refine AB (e_t (Ac rfl h6)) (by exact rfl) ?_
   refine Aj (em rfl eh) ?_
   refine Ap (e_t eh) ((Am rfl 1).trans rfl) (by exact rfl) ?_
   refine Aj (Ac rfl eh) ?_
   refine AB (e_t (Ad rfl h1)) (by exact rfl) ?_
   refine Aj (Ac rfl (em rfl eh)) ?_
   refine Ap (e_t eh) ((Am rfl 0).trans rfl) (by exact rfl) ?_
   refine Aj (Ad rfl eh) ?_
   refine Ar (e_t (Ac rfl eh)) (e_t eh) (Db ?_)
   refine An (e_t (Ad rfl (em rfl eh))) (e_t eh) (Aa ?_)
   exact ⟨(decide ((⟨#[]⟩ : ByteArray) = p0.S)), hr, (Ad rfl (Ad rfl h1)), (Ad rfl (Ad rfl h6)), eh, rfl⟩
 rintro f st' ⟨v20, hr, h1, h6, h100, rfl⟩
 rw [Ia] at hr
 refine Bb (fun f st' => ∃ (v21 : Bool), Ip p0 v21 = some r ∧ f 1 = (.ptr (st.length + 0) 0) ∧ f 6 = (.ptr (st.length + 1) 0) ∧ f 107 = (.d (.bool v21)) ∧ st' = st ++ [(.box [(.d (.int .i64 p0.Op)), (.d (.int .i64 p0.N)), (.d (.str p0.S)), (.d (.str p0.Name)), (.d (.str p0.Src)), (.d (.sl (List.map TE.row p0.Args)))]), (.box [(.d (.int .i64 (0 : Int))), (.d (.int .i64 (0 : Int))), (.d (.str (⟨#[]⟩ : ByteArray))), (.d (.str p0.Name)), (.d (.str p0.Src)), (.ex [])]), .fresh]) ?_ ?_
 · unfold DM
   refine Ab (e_t h100) ?_
   refine Au eh hr (fun hr => ?_) (fun hr => ?_)
   rotate_left
   · refine Ah eh (Ah (em rfl eh) (Ah (Ac rfl eh) (Ah (Ac rfl (em rfl eh)) (Ah (Ad rfl eh) (Ao (e_t (Ad rfl (em rfl eh))) e_c ?_)))))
     refine Aa ?_
     exact ⟨false, hr, (Ad rfl (Ad rfl h1)), (Ad rfl (Ad rfl h6)), eh, rfl⟩
   refine Aj eh ?_
   refine AB (e_t (Ac rfl h6)) (by exact rfl) ?_
   refine Aj (em rfl eh) ?_
   refine Ap (e_t eh) ((Am rfl 1).trans rfl) (by exact rfl) ?_
   refine Aj (Ac rfl eh) ?_
   refine AB (e_t (Ad rfl h1)) (by exact rfl) ?_
   refine Aj (Ac rfl (em rfl eh)) ?_
   refine Ap (e_t eh) ((Am rfl 0).trans rfl) (by exact rfl) ?_
   refine Aj (Ad rfl eh) ?_
   refine Ar (e_t (Ac rfl eh)) (e_t eh) (Db ?_)
   refine An (e_t (Ad rfl (em rfl eh))) (e_t eh) (Aa ?_)
   exact ⟨(decide (p0.Name = p0.Name)), hr, (Ad rfl (Ad rfl h1)), (Ad rfl (Ad rfl h6)), eh, rfl⟩
 rintro f st' ⟨v21, hr, h1, h6, h107, rfl⟩
 rw [Ip] at hr
 refine Bo ?_
 unfold DJ
 refine Ab (e_t h107) ?_
 refine Au eh hr (fun hr => ?_) (fun hr => ?_)
 rotate_left
 · refine Ah eh (Ah (em rfl eh) (Ah (Ac rfl eh) (Ah (Ac rfl (em rfl eh)) (Ah (Ad rfl eh) (Ao (e_t (Ad rfl (em rfl eh))) e_c ?_)))))
   refine Aa ?_
   unfold BI
   refine Ab (e_t eh) (Aa (Ae (AI ?_)))
   cases hr
   exact A7 (AF eh AH) (AM AG v_d) (Av hwf) h
 refine Aj eh ?_
 refine AB (e_t (Ac rfl h6)) (by exact rfl) ?_
 refine Aj (em rfl eh) ?_
 refine Ap (e_t eh) ((Am rfl 1).trans rfl) (by exact rfl) ?_
 refine Aj (Ac rfl eh) ?_
 refine AB (e_t (Ad rfl h1)) (by exact rfl) ?_
 refine Aj (Ac rfl (em rfl eh)) ?_
 refine Ap (e_t eh) ((Am rfl 0).trans rfl) (by exact rfl) ?_
 refine Aj (Ad rfl eh) ?_
 refine Ar (e_t (Ac rfl eh)) (e_t eh) (Db ?_)
 refine An (e_t (Ad rfl (em rfl eh))) (e_t eh) (Aa ?_)
 unfold BI
 refine Ab (e_t eh) (Aa (Ae (AI ?_)))
 cases hr
 exact A7 (AF eh AH) (AM AG v_d) (Av hwf) h
end Go.Ax
