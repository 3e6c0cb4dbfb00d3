import Derived.Test.YtojkpenjeglipaaIYT
import Derived.Test.YtojkpenjeglipaaICVX
import Derived.Test.YtojkpenjeglipaaICPrim
import Derived.Test.YtojkpenjeglipaaIYD2
import Derived.Test.YtojkpenjeglipaaIYD10
set_option linter.unusedVariables false
set_option linter.unusedSimpArgs false
namespace Go.Ax
attribute [local irreducible] BL ER FD Bf CF Fz B6 KZ HX upd ev u0 Dt frz A6 EB mmD bnd BV Ft Do CO GU Ht G2 cutV I1 Cv
variable {st : List Content}
def Ce (v2 : Int) (q0 : Int → Option Bool) (v3 : Int) (v4 : Bool) : Option Bool :=
 (bif (!v4) then (bif (decide (v2 = (0 : Int))) then some false else (bif (decide ((48 : Int) ≤ v3)) then (bif (!(decide (v3 ≤ (57 : Int)))) then (bif (!decide (v3 = (95 : Int))) then some false else q0 (IntKind.wrap .i64 (v2 + (1 : Int)))) else q0 (IntKind.wrap .i64 (v2 + (1 : Int)))) else (bif (!false) then (bif (!decide (v3 = (95 : Int))) then some false else q0 (IntKind.wrap .i64 (v2 + (1 : Int)))) else q0 (IntKind.wrap .i64 (v2 + (1 : Int)))))) else q0 (IntKind.wrap .i64 (v2 + (1 : Int))))
def Cu (p0 : ByteArray) (q0 : Int → Option Bool) (v2 : Int) : Option Bool :=
 (bif (decide (v2 < (p0.size : Int))) then ((Al5 p0 v2).bind fun v3 => (bif (decide ((97 : Int) ≤ v3)) then (Ce v2 q0 v3 (decide (v3 ≤ (122 : Int)))) else (Ce v2 q0 v3 false))) else some true)
def A4 (p0 : ByteArray) : Nat → Int → Option Bool
 | 0, _ => none
 | m + 1, v2 => Cu p0 (A4 p0 m) v2
def B8 (p0 : ByteArray) (n : Nat) (v1 : Bool) : Option Bool :=
 (bif v1 then some false else (A4 p0 n (0 : Int)))
def Cr (n : Nat) (p0 : ByteArray) : Option Bool :=
 (bif (decide ((p0.size : Int) < (1 : Int))) then (B8 p0 n true) else (B8 p0 n (decide ((16 : Int) < (p0.size : Int)))))
set_option maxRecDepth 100000 in
set_option maxHeartbeats 4000000 in
theorem RB (n : Nat) (p0 : ByteArray) {r : Bool} (hr : Cr n p0 = some r) {K : PV → List Content → Prop} (h : K (.d (.bool r)) st) : Aw PR H2 [(.d (.str p0))] st K := by
 refine Aw.of RA (Nat.le_of_ble_eq_true rfl) fun hwf => ?_
 rw [Cm]
 refine AQ ?_
 unfold KP
 rw [Cr] at hr
 refine Al (Af ?_)
 unfold I7
 refine Ab e_c (Aa (Ae (Al ?_)))
 refine BD (fun f st' => ∃ (v1 : Bool), B8 p0 n v1 = some r ∧ f 0 = (.d (.str p0)) ∧ f 13 = (.d (.bool v1)) ∧ st' = st ++ []) ?_ ?_
 · refine Af ?_
   unfold Ju
   refine Ab (e_t (em rfl eh)) ?_
   refine H4 (e_t eh) ?_
   refine Ar (e_t eh) e_c (CL ?_)
   refine Ab (e_t eh) ?_
   refine Au eh hr (fun hr => ?_) (fun hr => ?_)
   · refine Ah eh (Ah (em rfl eh) (Ah (Ac rfl eh) (An (e_t (Ac rfl (em rfl eh))) e_c (Aa (Ae ?_)))))
     exact ⟨true, hr, (Ak rfl (Ac rfl eh)), eh, rfl⟩
   refine Aj eh (Ab (e_t (Ad rfl (Ac rfl eh))) (Aj (em rfl eh) ?_))
   refine H4 (e_t eh) ?_
   refine Aj (Ac rfl eh) ?_
   refine Ar (e_t eh) e_c (C8 ?_)
   refine Ao (e_t (Ac rfl (em rfl eh))) (e_t eh) (Aa (Ae ?_))
   exact ⟨(decide ((16 : Int) < (p0.size : Int))), hr, (Ak rfl (Ac rfl eh)), eh, rfl⟩
 rintro f st' ⟨v1, hr, h0, h13, rfl⟩
 rw [B8] at hr
 refine AC (e_t h13) hr (fun hr => ?_) (fun hr => ?_)
 · refine Al (Af ?_)
   unfold Jz
   refine Ab e_c (Aa (Ae (AI (AA ?_))))
   cases hr
   exact A7 (AF eh AH) (AM AG v_d) (Av hwf) h
 refine AN (Ae (Al (Al (Af ?_))))
 unfold Jr
 refine Ab e_c (Aa (Ae ?_))
 refine AX ?_
 refine Ca (fun m f st' => ∃ (v2 : Int), A4 p0 m v2 = some r ∧ f 0 = (.d (.str p0)) ∧ f 3 = (.d (.int .i64 v2)) ∧ st' = st ++ []) n (Ghost.refl _) ⟨(0 : Int), hr, (em rfl h0), eh, rfl⟩ ?_
 rintro m f st' ⟨v2, hr, h0, h3, rfl⟩
 cases m with
 | zero => cases hr
 | succ m_0 =>
   rw [A4] at hr
   generalize hrec_0 : A4 p0 m_0 = q0 at hr
   rw [Cu] at hr
   unfold IH
   refine Al (Al (Af ?_))
   unfold IZ
   refine Ab (e_t h3) (Ab (e_t (em rfl h0)) ?_)
   refine H4 (e_t eh) ?_
   refine Ar (e_t (Ac rfl eh)) (e_t eh) (CL ?_)
   refine Aa (Ae ?_)
   refine AC (e_t eh) hr (fun hr => ?_) (fun hr => ?_)
   rotate_left
   · refine CP ?_
     refine A0 ?_
     refine A0 ?_
     refine Ea ?_
     refine Ae (Al (Af ?_))
     unfold IB
     refine Ab e_c (Aa (Ae (AI ?_)))
     cases hr
     exact A7 (AF eh AH) (AM AG v_d) (Av hwf) h
   refine AN (Ae (Al ?_))
   refine AX ?_
   refine Al (Af ?_)
   unfold Jg
   refine Ab (e_t (Ad rfl h0)) (Ab (e_t (Ad rfl (em rfl h3))) ?_)
   refine Ah1 (e_t (em rfl eh)) (e_t eh) hr (fun v3 hr => ?_)
   refine Ab (e_t eh) (Aa (Ae ?_))
   refine BD (fun f st' => ∃ (v4 : Bool), Ce v2 q0 v3 v4 = some r ∧ f 0 = (.d (.str p0)) ∧ f 3 = (.d (.int .i64 v2)) ∧ f 4 = (.d (.int .u8 v3)) ∧ f 5 = (.d (.bool v4)) ∧ st' = st ++ []) ?_ ?_
   · refine Af ?_
     unfold Jc
     refine Bo ?_
     unfold Ib
     refine Ab (e_t eh) ?_
     refine Ar (e_t eh) e_c (ET ?_)
     refine Ab (e_t eh) ?_
     refine Au eh hr (fun hr => ?_) (fun hr => ?_)
     rotate_left
     · refine Ah eh (Ah (em rfl eh) (Ao (e_t (Ac rfl eh)) e_c (Aa ?_)))
       unfold F2
       refine Ab (e_t eh) (Aa (Ae ?_))
       exact ⟨false, hr, (Ak rfl (Ad rfl (Ad rfl h0))), (Ak rfl (Ad rfl (Ad rfl h3))), (Ad rfl (Ad rfl eh)), eh, rfl⟩
     refine Aj eh (Ab (e_t (Ad rfl eh)) (Aj (em rfl eh) ?_))
     refine Ar (e_t eh) e_c (JE ?_)
     refine An (e_t (Ac rfl eh)) (e_t eh) (Aa ?_)
     unfold F2
     refine Ab (e_t eh) (Aa (Ae ?_))
     exact ⟨(decide (v3 ≤ (122 : Int))), hr, (Ak rfl (Ad rfl (Ad rfl h0))), (Ak rfl (Ad rfl (Ad rfl h3))), (Ad rfl (Ad rfl eh)), eh, rfl⟩
   rintro f st' ⟨v4, hr, h0, h3, h4, h5, rfl⟩
   rw [Ce] at hr
   refine Al (Af ?_)
   unfold Jk
   refine Ab (e_t h5) (CS (e_t eh) (Ab (e_t eh) ?_))
   refine Au eh hr (fun hr => ?_) (fun hr => ?_)
   rotate_left
   · refine Ah eh (Ah (em rfl eh) (Ah (Ac rfl eh) ?_))
     refine A8 eh ?_
     refine A8 (em rfl eh) ?_
     refine A8 (Ac rfl eh) ?_
     refine A8 eh ?_
     refine A8 (em rfl eh) ?_
     refine A8 (Ad rfl (em rfl eh)) ?_
     refine A8 (Ad rfl (Ac rfl eh)) ?_
     refine A8 (Ad rfl (Ac rfl (em rfl eh))) ?_
     refine A8 eh ?_
     refine A8 (em rfl eh) ?_
     refine A8 (Ak rfl (Ac rfl eh)) ?_
     refine Ah (Ak rfl (Ad rfl (Ac rfl eh))) (Ao (e_t (Ak rfl (Ad rfl (Ac rfl (em rfl eh))))) e_c (Aa (Ae ?_)))
     refine EP (e_t eh) ?_
     refine AN ?_
     refine BA ?_
     refine Ae (Af ?_)
     unfold Da
     refine Ab (e_t (Ai rfl (Ad rfl h3))) ?_
     refine Ar (e_t eh) e_c (BX ?_)
     refine Ab (e_t eh) (Aa (Ae ?_))
     exact ⟨m_0, _, Nat.lt_succ_self m_0, Ghost.refl _, (IntKind.wrap .i64 (v2 + (1 : Int))), (by rw [hrec_0]; exact hr), (Ai rfl (Ad rfl (Ac rfl (em rfl h0)))), eh, rfl⟩
   refine Aj eh (Ab (e_t (Ad rfl h3)) (Aj (em rfl eh) ?_))
   refine Ar (e_t eh) e_c (BZ ?_)
   refine Aj (Ac rfl eh) (Ab (e_t eh) ?_)
   refine Au eh hr (fun hr => ?_) (fun hr => ?_)
   · refine Ah eh (Ah (em rfl eh) (Ah (Ac rfl eh) ?_))
     refine A8 eh ?_
     refine A8 (em rfl eh) ?_
     refine Ah (Ad rfl (em rfl eh)) (Ah (Ad rfl (Ac rfl eh)) (Ah (Ad rfl (Ac rfl (em rfl eh))) ?_))
     refine A8 eh ?_
     refine A8 (em rfl eh) ?_
     refine Ah (Ak rfl (Ac rfl eh)) (Aj (Ak rfl (Ad rfl (Ac rfl (em rfl eh)))) (An (e_t (Ak rfl (Ac rfl (em rfl eh)))) e_c (An (e_t (Ak rfl (Ad rfl (Ad rfl eh)))) (e_t eh) (Aa (Ae ?_)))))
     refine Dz (e_t eh) ?_
     refine Al (Af ?_)
     unfold EU
     refine Ab e_c (Aa (Ae (AI ?_)))
     refine BE ?_
     refine AA (AA ?_)
     refine BE ?_
     refine AA ?_
     cases hr
     exact A7 (AF eh AH) (AM AG v_d) (Av hwf) h
   refine Aj eh (Ab (e_t (Ad rfl (Ad rfl h4))) (Aj (em rfl eh) ?_))
   refine Ar (e_t eh) e_c (ET ?_)
   refine Aj (Ac rfl eh) (Ab (e_t eh) ?_)
   refine Au eh hr (fun hr => ?_) (fun hr => ?_)
   rotate_left
   · refine Ah eh (Ah (em rfl eh) (Aj (Ad rfl (Ac rfl eh)) (Ao (e_t (Ac rfl eh)) e_c (Aj (Ad rfl (Ac rfl (em rfl eh))) (CS (e_t eh) ?_)))))
     refine Aj (Ad rfl (Ad rfl eh)) (Ab (e_t eh) ?_)
     refine Au eh hr (fun hr => ?_) (fun hr => ?_)
     rotate_left
     · refine Ah eh (Ah (em rfl eh) (Aj (Ak rfl (Ad rfl eh)) (Ao (e_t (Ac rfl eh)) e_c (Aj (Ai rfl (em rfl eh)) (Ao (e_t (Ak rfl (Ad rfl (em rfl eh)))) (e_t eh) ?_)))))
       refine An (e_t (Ai rfl (Ac rfl eh))) (e_t eh) (Aa (Ae ?_))
       refine EP (e_t eh) ?_
       refine AN ?_
       refine BA ?_
       refine Ae (Af ?_)
       unfold Da
       refine Ab (e_t (Ai rfl (Ad rfl (Ac rfl (em rfl h3))))) ?_
       refine Ar (e_t eh) e_c (BX ?_)
       refine Ab (e_t eh) (Aa (Ae ?_))
       exact ⟨m_0, _, Nat.lt_succ_self m_0, Ghost.refl _, (IntKind.wrap .i64 (v2 + (1 : Int))), (by rw [hrec_0]; exact hr), (Ai rfl (Ak rfl (Ac rfl h0))), eh, rfl⟩
     refine Aj eh (Ab (e_t (Ai rfl (Ac rfl h4))) (Aj (em rfl eh) ?_))
     refine Ar (e_t eh) e_c (Sf ?_)
     refine Aj (Ak rfl (Ad rfl eh)) (An (e_t (Ac rfl eh)) (e_t eh) (Aj (Ai rfl (em rfl eh)) (Ao (e_t (Ak rfl (Ad rfl (em rfl eh)))) (e_t eh) (An (e_t (Ai rfl (Ac rfl eh))) (e_t eh) (Aa ?_)))))
     refine Ae ?_
     refine AC (e_t eh) hr (fun hr => ?_) (fun hr => ?_)
     rotate_left
     · refine AN ?_
       refine BA ?_
       refine Ae (Af ?_)
       unfold Da
       refine Ab (e_t (Ai rfl (Ad rfl (Ac rfl (em rfl h3))))) ?_
       refine Ar (e_t eh) e_c (BX ?_)
       refine Ab (e_t eh) (Aa (Ae ?_))
       exact ⟨m_0, _, Nat.lt_succ_self m_0, Ghost.refl _, (IntKind.wrap .i64 (v2 + (1 : Int))), (by rw [hrec_0]; exact hr), (Ai rfl (Ak rfl (Ac rfl h0))), eh, rfl⟩
     refine Al (Af ?_)
     unfold EU
     refine Ab e_c (Aa (Ae (AI ?_)))
     refine BE ?_
     refine AA (AA ?_)
     refine BE ?_
     refine AA ?_
     cases hr
     exact A7 (AF eh AH) (AM AG v_d) (Av hwf) h
   refine Aj eh (Ab (e_t (Ak rfl (Ad rfl h4))) (Aj (em rfl eh) ?_))
   refine Ar (e_t eh) e_c (JE ?_)
   refine Aj (Ad rfl (Ac rfl eh)) (An (e_t (Ac rfl eh)) (e_t eh) (Aj (Ad rfl (Ac rfl (em rfl eh))) (CS (e_t eh) (Aj (Ad rfl (Ad rfl eh)) (Ab (e_t eh) ?_)))))
   refine Au eh hr (fun hr => ?_) (fun hr => ?_)
   rotate_left
   · refine Ah eh (Ah (em rfl eh) (Aj (Ak rfl (Ad rfl eh)) (Ao (e_t (Ac rfl eh)) e_c (Aj (Ai rfl (em rfl eh)) (Ao (e_t (Ak rfl (Ad rfl (em rfl eh)))) (e_t eh) ?_)))))
     refine An (e_t (Ai rfl (Ac rfl eh))) (e_t eh) (Aa (Ae ?_))
     refine EP (e_t eh) ?_
     refine AN ?_
     refine BA ?_
     refine Ae (Af ?_)
     unfold Da
     refine Ab (e_t (Ai rfl (Ad rfl (Ac rfl (em rfl h3))))) ?_
     refine Ar (e_t eh) e_c (BX ?_)
     refine Ab (e_t eh) (Aa (Ae ?_))
     exact ⟨m_0, _, Nat.lt_succ_self m_0, Ghost.refl _, (IntKind.wrap .i64 (v2 + (1 : Int))), (by rw [hrec_0]; exact hr), (Ai rfl (Ak rfl (Ac rfl h0))), eh, rfl⟩
   refine Aj eh (Ab (e_t (Ai rfl (Ac rfl h4))) (Aj (em rfl eh) ?_))
   refine Ar (e_t eh) e_c (Sf ?_)
   refine Aj (Ak rfl (Ad rfl eh)) (An (e_t (Ac rfl eh)) (e_t eh) (Aj (Ai rfl (em rfl eh)) (Ao (e_t (Ak rfl (Ad rfl (em rfl eh)))) (e_t eh) (An (e_t (Ai rfl (Ac rfl eh))) (e_t eh) (Aa ?_)))))
   refine Ae ?_
   refine AC (e_t eh) hr (fun hr => ?_) (fun hr => ?_)
   rotate_left
   · refine AN ?_
     refine BA ?_
     refine Ae (Af ?_)
     unfold Da
     refine Ab (e_t (Ai rfl (Ad rfl (Ac rfl (em rfl h3))))) ?_
     refine Ar (e_t eh) e_c (BX ?_)
     refine Ab (e_t eh) (Aa (Ae ?_))
     exact ⟨m_0, _, Nat.lt_succ_self m_0, Ghost.refl _, (IntKind.wrap .i64 (v2 + (1 : Int))), (by rw [hrec_0]; exact hr), (Ai rfl (Ak rfl (Ac rfl h0))), eh, rfl⟩
   refine Al (Af ?_)
   unfold EU
   refine Ab e_c (Aa (Ae (AI ?_)))
   refine BE ?_
   refine AA (AA ?_)
   refine BE ?_
   refine AA ?_
   cases hr
   exact A7 (AF eh AH) (AM AG v_d) (Av hwf) h
def Dr (n : Nat) (p0 : ByteArray) : Option Bool :=
 ((Cr n p0).bind fun v1 => (bif v1 then ((FO n p0).bind fun v2 => some (!v2)) else some false))
set_option maxRecDepth 100000 in
set_option maxHeartbeats 4000000 in
theorem JV (n : Nat) (p0 : ByteArray) {r : Bool} (hr : Dr n p0 = some r) {K : PV → List Content → Prop} (h : K (.d (.bool r)) st) : Aw PR Jh [(.d (.str p0))] st K := by
 refine Aw.of AL5 (Nat.le_of_ble_eq_true rfl) fun hwf => ?_
 rw [Cm]
 refine AQ ?_
 unfold AA4
 rw [Dr] at hr
 refine Al (Af ?_)
 unfold YZ
 refine Ab e_c (Aa (Ae (Al (Af ?_))))
 unfold Yy
 refine Bo ?_
 unfold S9
 refine Ab (e_t (em rfl eh)) ?_
 obtain ⟨v1, hc_v1, hr⟩ := bind_some hr
 refine AP (Ay (e_t eh) AG AR) ?_
 refine RB n p0 hc_v1 ?_
 refine Ab (e_t eh) ?_
 refine Au eh hr (fun hr => ?_) (fun hr => ?_)
 rotate_left
 · refine Ah eh (Ah (em rfl eh) (Ah (Ac rfl eh) (Ao (e_t (Ac rfl (em rfl eh))) e_c (Aa ?_))))
   unfold OO
   refine Ab (e_t eh) (Aa (Ae (AI ?_)))
   cases hr
   exact A7 (AF eh AH) (AM AG v_d) (Av hwf) h
 refine Aj eh (Ab (e_t (Ad rfl (em rfl eh))) (Aj (em rfl eh) ?_))
 obtain ⟨v2, hc_v2, hr⟩ := bind_some hr
 refine AP (Ay (e_t eh) AG AR) ?_
 refine Ar7 n p0 hc_v2 ?_
 refine Aj (Ac rfl eh) (CS (e_t eh) (An (e_t (Ac rfl (em rfl eh))) (e_t eh) (Aa ?_)))
 unfold OO
 refine Ab (e_t eh) (Aa (Ae (AI ?_)))
 cases hr
 exact A7 (AF eh AH) (AM AG v_d) (Av hwf) h
end Go.Ax
