import Derived.Test.YtojkpenjeglipaaPYT
import Derived.Test.YtojkpenjeglipaaPCVX
import Derived.Test.YtojkpenjeglipaaPCPrim
import Derived.Test.YtojkpenjeglipaaPYD2
import Derived.Test.YtojkpenjeglipaaPYD10
set_option linter.unusedVariables false
set_option linter.unusedSimpArgs false
namespace Go.Ax
attribute [local irreducible] BQ EX FK Bg CQ FI B8 Le Ii upd ev u0 Dw frz A9 EK mmD bnd B2 FD Dq CR G3 HS Hg cutV JT Cy
variable {st : List Content}
def Ch (v2 : Int) (q0 : Int → Option Bool) (v3 : Int) (v4 : Bool) : Option Bool :=
 (bif (!v4) then (bif (decide (v2 = (0 : Int))) then some false else (bif (decide ((48 : Int) ≤ v3)) then (bif (!(decide (v3 ≤ (57 : Int)))) then (bif (!decide (v3 = (95 : Int))) then some false else q0 (IntKind.wrap .i64 (v2 + (1 : Int)))) else q0 (IntKind.wrap .i64 (v2 + (1 : Int)))) else (bif (!false) then (bif (!decide (v3 = (95 : Int))) then some false else q0 (IntKind.wrap .i64 (v2 + (1 : Int)))) else q0 (IntKind.wrap .i64 (v2 + (1 : Int)))))) else q0 (IntKind.wrap .i64 (v2 + (1 : Int))))
def Cw (p0 : ByteArray) (q0 : Int → Option Bool) (v2 : Int) : Option Bool :=
 (bif (decide (v2 < (p0.size : Int))) then ((Ay6 p0 v2).bind fun v3 => (bif (decide ((97 : Int) ≤ v3)) then (Ch v2 q0 v3 (decide (v3 ≤ (122 : Int)))) else (Ch v2 q0 v3 false))) else some true)
def A6 (p0 : ByteArray) : Nat → Int → Option Bool
 | 0, _ => none
 | m + 1, v2 => Cw p0 (A6 p0 m) v2
def Cb (p0 : ByteArray) (n : Nat) (v1 : Bool) : Option Bool :=
 (bif v1 then some false else (A6 p0 n (0 : Int)))
def Ct (n : Nat) (p0 : ByteArray) : Option Bool :=
 (bif (decide ((p0.size : Int) < (1 : Int))) then (Cb p0 n true) else (Cb p0 n (decide ((16 : Int) < (p0.size : Int)))))
set_option maxRecDepth 100000 in
set_option maxHeartbeats 4000000 in
theorem R2 (n : Nat) (p0 : ByteArray) {r : Bool} (hr : Ct n p0 = some r) {K : PV → List Content → Prop} (h : K (.d (.bool r)) st) : Av PR Il [(.d (.str p0))] st K := by
 refine Av.of R3 (Nat.le_of_ble_eq_true rfl) fun hwf => ?_
 rw [B5]
 refine AQ ?_
 unfold K8
 rw [Ct] at hr
 refine Al (Af ?_)
 unfold JQ
 refine Ab e_c (Aa (Ae (Al ?_)))
 refine By (fun f st' => ∃ (v1 : Bool), Cb p0 n v1 = some r ∧ f 0 = (.d (.str p0)) ∧ f 13 = (.d (.bool v1)) ∧ st' = st ++ []) ?_ ?_
 · refine Af ?_
   unfold JH
   refine Ab (e_t (em rfl eh)) ?_
   refine Ij (e_t eh) ?_
   refine As (e_t eh) e_c (CM ?_)
   refine Ab (e_t eh) ?_
   refine Au eh hr (fun hr => ?_) (fun hr => ?_)
   · refine Ag eh (Ag (em rfl eh) (Ag (Ac rfl eh) (An (e_t (Ac rfl (em rfl eh))) e_c (Aa (Ae ?_)))))
     exact ⟨true, hr, (Ak rfl (Ac rfl eh)), eh, rfl⟩
   refine Ai eh (Ab (e_t (Ad rfl (Ac rfl eh))) (Ai (em rfl eh) ?_))
   refine Ij (e_t eh) ?_
   refine Ai (Ac rfl eh) ?_
   refine As (e_t eh) e_c (C8 ?_)
   refine Ao (e_t (Ac rfl (em rfl eh))) (e_t eh) (Aa (Ae ?_))
   exact ⟨(decide ((16 : Int) < (p0.size : Int))), hr, (Ak rfl (Ac rfl eh)), eh, rfl⟩
 rintro f st' ⟨v1, hr, h0, h13, rfl⟩
 rw [Cb] at hr
 refine AC (e_t h13) hr (fun hr => ?_) (fun hr => ?_)
 · refine Al (Af ?_)
   unfold JJ
   refine Ab e_c (Aa (Ae (AI (AA ?_))))
   cases hr
   exact A7 (AG eh AH) (AN AF v_d) (Ay hwf) h
 refine AO (Ae (Al (Al (Af ?_))))
 unfold Jd
 refine Ab e_c (Aa (Ae ?_))
 refine AT ?_
 refine BX (fun m f st' => ∃ (v2 : Int), A6 p0 m v2 = some r ∧ f 0 = (.d (.str p0)) ∧ f 3 = (.d (.int .i64 v2)) ∧ st' = st ++ []) n (Ghost.refl _) ⟨(0 : Int), hr, (em rfl h0), eh, rfl⟩ ?_
 rintro m f st' ⟨v2, hr, h0, h3, rfl⟩
 cases m with
 | zero => cases hr
 | succ m_0 =>
   rw [A6] at hr
   generalize hrec_0 : A6 p0 m_0 = q0 at hr
   rw [Cw] at hr
   unfold IZ
   refine Al (Al (Af ?_))
   unfold JL
   refine Ab (e_t h3) (Ab (e_t (em rfl h0)) ?_)
   refine Ij (e_t eh) ?_
   refine As (e_t (Ac rfl eh)) (e_t eh) (CM ?_)
   refine Aa (Ae ?_)
   refine AC (e_t eh) hr (fun hr => ?_) (fun hr => ?_)
   rotate_left
   · refine CG ?_
     refine AW ?_
     refine AW ?_
     refine DF ?_
     refine Ae (Al (Af ?_))
     unfold I7
     refine Ab e_c (Aa (Ae (AI ?_)))
     cases hr
     exact A7 (AG eh AH) (AN AF v_d) (Ay hwf) h
   refine AO (Ae (Al ?_))
   refine AT ?_
   refine Al (Af ?_)
   unfold JA
   refine Ab (e_t (Ad rfl h0)) (Ab (e_t (Ad rfl (em rfl h3))) ?_)
   refine Aq7 (e_t (em rfl eh)) (e_t eh) hr (fun v3 hr => ?_)
   refine Ab (e_t eh) (Aa (Ae ?_))
   refine By (fun f st' => ∃ (v4 : Bool), Ch v2 q0 v3 v4 = some r ∧ f 0 = (.d (.str p0)) ∧ f 3 = (.d (.int .i64 v2)) ∧ f 4 = (.d (.int .u8 v3)) ∧ f 5 = (.d (.bool v4)) ∧ st' = st ++ []) ?_ ?_
   · refine Af ?_
     unfold Jk
     refine Bn ?_
     unfold IB
     refine Ab (e_t eh) ?_
     refine As (e_t eh) e_c (Ei ?_)
     refine Ab (e_t eh) ?_
     refine Au eh hr (fun hr => ?_) (fun hr => ?_)
     rotate_left
     · refine Ag eh (Ag (em rfl eh) (Ao (e_t (Ac rfl eh)) e_c (Aa ?_)))
       unfold Gf
       refine Ab (e_t eh) (Aa (Ae ?_))
       exact ⟨false, hr, (Ak rfl (Ad rfl (Ad rfl h0))), (Ak rfl (Ad rfl (Ad rfl h3))), (Ad rfl (Ad rfl eh)), eh, rfl⟩
     refine Ai eh (Ab (e_t (Ad rfl eh)) (Ai (em rfl eh) ?_))
     refine As (e_t eh) e_c (JI ?_)
     refine An (e_t (Ac rfl eh)) (e_t eh) (Aa ?_)
     unfold Gf
     refine Ab (e_t eh) (Aa (Ae ?_))
     exact ⟨(decide (v3 ≤ (122 : Int))), hr, (Ak rfl (Ad rfl (Ad rfl h0))), (Ak rfl (Ad rfl (Ad rfl h3))), (Ad rfl (Ad rfl eh)), eh, rfl⟩
   rintro f st' ⟨v4, hr, h0, h3, h4, h5, rfl⟩
   rw [Ch] at hr
   refine Al (Af ?_)
   unfold JF
   refine Ab (e_t h5) (C2 (e_t eh) (Ab (e_t eh) ?_))
   refine Au eh hr (fun hr => ?_) (fun hr => ?_)
   rotate_left
   · refine Ag eh (Ag (em rfl eh) (Ag (Ac rfl eh) ?_))
     refine A4 eh ?_
     refine A4 (em rfl eh) ?_
     refine A4 (Ac rfl eh) ?_
     refine A4 eh ?_
     refine A4 (em rfl eh) ?_
     refine A4 (Ad rfl (em rfl eh)) ?_
     refine A4 (Ad rfl (Ac rfl eh)) ?_
     refine A4 (Ad rfl (Ac rfl (em rfl eh))) ?_
     refine A4 eh ?_
     refine A4 (em rfl eh) ?_
     refine A4 (Ak rfl (Ac rfl eh)) ?_
     refine Ag (Ak rfl (Ad rfl (Ac rfl eh))) (Ao (e_t (Ak rfl (Ad rfl (Ac rfl (em rfl eh))))) e_c (Aa (Ae ?_)))
     refine EZ (e_t eh) ?_
     refine AO ?_
     refine BB ?_
     refine Ae (Af ?_)
     unfold Da
     refine Ab (e_t (Aj rfl (Ad rfl h3))) ?_
     refine As (e_t eh) e_c (BU ?_)
     refine Ab (e_t eh) (Aa (Ae ?_))
     exact ⟨m_0, _, Nat.lt_succ_self m_0, Ghost.refl _, (IntKind.wrap .i64 (v2 + (1 : Int))), (by rw [hrec_0]; exact hr), (Aj rfl (Ad rfl (Ac rfl (em rfl h0)))), eh, rfl⟩
   refine Ai eh (Ab (e_t (Ad rfl h3)) (Ai (em rfl eh) ?_))
   refine As (e_t eh) e_c (BK ?_)
   refine Ai (Ac rfl eh) (Ab (e_t eh) ?_)
   refine Au eh hr (fun hr => ?_) (fun hr => ?_)
   · refine Ag eh (Ag (em rfl eh) (Ag (Ac rfl eh) ?_))
     refine A4 eh ?_
     refine A4 (em rfl eh) ?_
     refine Ag (Ad rfl (em rfl eh)) (Ag (Ad rfl (Ac rfl eh)) (Ag (Ad rfl (Ac rfl (em rfl eh))) ?_))
     refine A4 eh ?_
     refine A4 (em rfl eh) ?_
     refine Ag (Ak rfl (Ac rfl eh)) (Ai (Ak rfl (Ad rfl (Ac rfl (em rfl eh)))) (An (e_t (Ak rfl (Ac rfl (em rfl eh)))) e_c (An (e_t (Ak rfl (Ad rfl (Ad rfl eh)))) (e_t eh) (Aa (Ae ?_)))))
     refine Dy (e_t eh) ?_
     refine Al (Af ?_)
     unfold E3
     refine Ab e_c (Aa (Ae (AI ?_)))
     refine BH ?_
     refine AA (AA ?_)
     refine BH ?_
     refine AA ?_
     cases hr
     exact A7 (AG eh AH) (AN AF v_d) (Ay hwf) h
   refine Ai eh (Ab (e_t (Ad rfl (Ad rfl h4))) (Ai (em rfl eh) ?_))
   refine As (e_t eh) e_c (Ei ?_)
   refine Ai (Ac rfl eh) (Ab (e_t eh) ?_)
   refine Au eh hr (fun hr => ?_) (fun hr => ?_)
   rotate_left
   · refine Ag eh (Ag (em rfl eh) (Ai (Ad rfl (Ac rfl eh)) (Ao (e_t (Ac rfl eh)) e_c (Ai (Ad rfl (Ac rfl (em rfl eh))) (C2 (e_t eh) ?_)))))
     refine Ai (Ad rfl (Ad rfl eh)) (Ab (e_t eh) ?_)
     refine Au eh hr (fun hr => ?_) (fun hr => ?_)
     rotate_left
     · refine Ag eh (Ag (em rfl eh) (Ai (Ak rfl (Ad rfl eh)) (Ao (e_t (Ac rfl eh)) e_c (Ai (Aj rfl (em rfl eh)) (Ao (e_t (Ak rfl (Ad rfl (em rfl eh)))) (e_t eh) ?_)))))
       refine An (e_t (Aj rfl (Ac rfl eh))) (e_t eh) (Aa (Ae ?_))
       refine EZ (e_t eh) ?_
       refine AO ?_
       refine BB ?_
       refine Ae (Af ?_)
       unfold Da
       refine Ab (e_t (Aj rfl (Ad rfl (Ac rfl (em rfl h3))))) ?_
       refine As (e_t eh) e_c (BU ?_)
       refine Ab (e_t eh) (Aa (Ae ?_))
       exact ⟨m_0, _, Nat.lt_succ_self m_0, Ghost.refl _, (IntKind.wrap .i64 (v2 + (1 : Int))), (by rw [hrec_0]; exact hr), (Aj rfl (Ak rfl (Ac rfl h0))), eh, rfl⟩
     refine Ai eh (Ab (e_t (Aj rfl (Ac rfl h4))) (Ai (em rfl eh) ?_))
     refine As (e_t eh) e_c (SP ?_)
     refine Ai (Ak rfl (Ad rfl eh)) (An (e_t (Ac rfl eh)) (e_t eh) (Ai (Aj rfl (em rfl eh)) (Ao (e_t (Ak rfl (Ad rfl (em rfl eh)))) (e_t eh) (An (e_t (Aj rfl (Ac rfl eh))) (e_t eh) (Aa ?_)))))
     refine Ae ?_
     refine AC (e_t eh) hr (fun hr => ?_) (fun hr => ?_)
     rotate_left
     · refine AO ?_
       refine BB ?_
       refine Ae (Af ?_)
       unfold Da
       refine Ab (e_t (Aj rfl (Ad rfl (Ac rfl (em rfl h3))))) ?_
       refine As (e_t eh) e_c (BU ?_)
       refine Ab (e_t eh) (Aa (Ae ?_))
       exact ⟨m_0, _, Nat.lt_succ_self m_0, Ghost.refl _, (IntKind.wrap .i64 (v2 + (1 : Int))), (by rw [hrec_0]; exact hr), (Aj rfl (Ak rfl (Ac rfl h0))), eh, rfl⟩
     refine Al (Af ?_)
     unfold E3
     refine Ab e_c (Aa (Ae (AI ?_)))
     refine BH ?_
     refine AA (AA ?_)
     refine BH ?_
     refine AA ?_
     cases hr
     exact A7 (AG eh AH) (AN AF v_d) (Ay hwf) h
   refine Ai eh (Ab (e_t (Ak rfl (Ad rfl h4))) (Ai (em rfl eh) ?_))
   refine As (e_t eh) e_c (JI ?_)
   refine Ai (Ad rfl (Ac rfl eh)) (An (e_t (Ac rfl eh)) (e_t eh) (Ai (Ad rfl (Ac rfl (em rfl eh))) (C2 (e_t eh) (Ai (Ad rfl (Ad rfl eh)) (Ab (e_t eh) ?_)))))
   refine Au eh hr (fun hr => ?_) (fun hr => ?_)
   rotate_left
   · refine Ag eh (Ag (em rfl eh) (Ai (Ak rfl (Ad rfl eh)) (Ao (e_t (Ac rfl eh)) e_c (Ai (Aj rfl (em rfl eh)) (Ao (e_t (Ak rfl (Ad rfl (em rfl eh)))) (e_t eh) ?_)))))
     refine An (e_t (Aj rfl (Ac rfl eh))) (e_t eh) (Aa (Ae ?_))
     refine EZ (e_t eh) ?_
     refine AO ?_
     refine BB ?_
     refine Ae (Af ?_)
     unfold Da
     refine Ab (e_t (Aj rfl (Ad rfl (Ac rfl (em rfl h3))))) ?_
     refine As (e_t eh) e_c (BU ?_)
     refine Ab (e_t eh) (Aa (Ae ?_))
     exact ⟨m_0, _, Nat.lt_succ_self m_0, Ghost.refl _, (IntKind.wrap .i64 (v2 + (1 : Int))), (by rw [hrec_0]; exact hr), (Aj rfl (Ak rfl (Ac rfl h0))), eh, rfl⟩
   refine Ai eh (Ab (e_t (Aj rfl (Ac rfl h4))) (Ai (em rfl eh) ?_))
   refine As (e_t eh) e_c (SP ?_)
   refine Ai (Ak rfl (Ad rfl eh)) (An (e_t (Ac rfl eh)) (e_t eh) (Ai (Aj rfl (em rfl eh)) (Ao (e_t (Ak rfl (Ad rfl (em rfl eh)))) (e_t eh) (An (e_t (Aj rfl (Ac rfl eh))) (e_t eh) (Aa ?_)))))
   refine Ae ?_
   refine AC (e_t eh) hr (fun hr => ?_) (fun hr => ?_)
   rotate_left
   · refine AO ?_
     refine BB ?_
     refine Ae (Af ?_)
     unfold Da
     refine Ab (e_t (Aj rfl (Ad rfl (Ac rfl (em rfl h3))))) ?_
     refine As (e_t eh) e_c (BU ?_)
     refine Ab (e_t eh) (Aa (Ae ?_))
     exact ⟨m_0, _, Nat.lt_succ_self m_0, Ghost.refl _, (IntKind.wrap .i64 (v2 + (1 : Int))), (by rw [hrec_0]; exact hr), (Aj rfl (Ak rfl (Ac rfl h0))), eh, rfl⟩
   refine Al (Af ?_)
   unfold E3
   refine Ab e_c (Aa (Ae (AI ?_)))
   refine BH ?_
   refine AA (AA ?_)
   refine BH ?_
   refine AA ?_
   cases hr
   exact A7 (AG eh AH) (AN AF v_d) (Ay hwf) h
def Du (n : Nat) (p0 : ByteArray) : Option Bool :=
 ((Ct n p0).bind fun v1 => (bif v1 then ((F4 n p0).bind fun v2 => some (!v2)) else some false))
set_option maxRecDepth 100000 in
set_option maxHeartbeats 4000000 in
theorem Ko (n : Nat) (p0 : ByteArray) {r : Bool} (hr : Du n p0 = some r) {K : PV → List Content → Prop} (h : K (.d (.bool r)) st) : Av PR Jl [(.d (.str p0))] st K := by
 refine Av.of AV0 (Nat.le_of_ble_eq_true rfl) fun hwf => ?_
 rw [B5]
 refine AQ ?_
 unfold AE8
 rw [Du] at hr
 refine Al (Af ?_)
 unfold Yw
 refine Ab e_c (Aa (Ae (Al (Af ?_))))
 unfold Za
 refine Bn ?_
 unfold UZ
 refine Ab (e_t (em rfl eh)) ?_
 obtain ⟨v1, hc_v1, hr⟩ := bind_some hr
 refine AJ (Ar (e_t eh) AF AM) ?_
 refine R2 n p0 hc_v1 ?_
 refine Ab (e_t eh) ?_
 refine Au eh hr (fun hr => ?_) (fun hr => ?_)
 rotate_left
 · refine Ag eh (Ag (em rfl eh) (Ag (Ac rfl eh) (Ao (e_t (Ac rfl (em rfl eh))) e_c (Aa ?_))))
   unfold O2
   refine Ab (e_t eh) (Aa (Ae (AI ?_)))
   cases hr
   exact A7 (AG eh AH) (AN AF v_d) (Ay hwf) h
 refine Ai eh (Ab (e_t (Ad rfl (em rfl eh))) (Ai (em rfl eh) ?_))
 obtain ⟨v2, hc_v2, hr⟩ := bind_some hr
 refine AJ (Ar (e_t eh) AF AM) ?_
 refine Av1 n p0 hc_v2 ?_
 refine Ai (Ac rfl eh) (C2 (e_t eh) (An (e_t (Ac rfl (em rfl eh))) (e_t eh) (Aa ?_)))
 unfold O2
 refine Ab (e_t eh) (Aa (Ae (AI ?_)))
 cases hr
 exact A7 (AG eh AH) (AN AF v_d) (Ay hwf) h
end Go.Ax
