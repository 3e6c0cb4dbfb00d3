import Derived.Test.YtojkpenjeglipaaPYT
import Derived.Test.YtojkpenjeglipaaPCVX
import Derived.Test.YtojkpenjeglipaaPCPrim
set_option linter.unusedVariables false
set_option linter.unusedSimpArgs false
namespace Go.Ax
attribute [local irreducible] BQ EX FK Bg CQ FI B8 Le Ii upd ev u0 Dw frz A9 EK mmD bnd B2 FD Dq CR G3 HS Hg cutV JT Cy
variable {st : List Content}
def H6 (p1 : (List TKnot)) (q0 : Int → Option Bool) (v8 : Int) (q1 : Int → Option Bool) (v14 : Int) : Option Bool :=
 ((Dd p1 v8).bind fun v15 => (bif (decide (v14 < (v15.Cols.length : Int))) then ((Dd p1 v8).bind fun v16 => ((Dd v16.Cols v14).bind fun v17 => (bif (decide ((100 : Int) < (v17.size : Int))) then some true else q1 (IntKind.wrap .i64 (v14 + (1 : Int)))))) else q0 (IntKind.wrap .i64 (v8 + (1 : Int)))))
def Cp (p1 : (List TKnot)) (q0 : Int → Option Bool) (v8 : Int) : Nat → Int → Option Bool
 | 0, _ => none
 | m + 1, v14 => H6 p1 q0 v8 (Cp p1 q0 v8 m) v14
def GT (p1 : (List TKnot)) (n : Nat) (q0 : Int → Option Bool) (v8 : Int) (v13 : Bool) : Option Bool :=
 (bif v13 then some true else (Cp p1 q0 v8 n (0 : Int)))
def GP (p1 : (List TKnot)) (n : Nat) (q0 : Int → Option Bool) (v8 : Int) (v11 : Bool) : Option Bool :=
 (bif v11 then (GT p1 n q0 v8 true) else ((Dd p1 v8).bind fun v12 => (GT p1 n q0 v8 (decide ((12 : Int) < (v12.Cols.length : Int))))))
def H2 (p1 : (List TKnot)) (n : Nat) (q0 : Int → Option Bool) (v8 : Int) : Option Bool :=
 (bif (decide (v8 < (p1.length : Int))) then ((Dd p1 v8).bind fun v9 => (bif (decide ((100 : Int) < (v9.Name.size : Int))) then (GP p1 n q0 v8 true) else ((Dd p1 v8).bind fun v10 => (GP p1 n q0 v8 (decide ((100 : Int) < (v10.Src.size : Int))))))) else some false)
def BA (p1 : (List TKnot)) (n : Nat) : Nat → Int → Option Bool
 | 0, _ => none
 | m + 1, v8 => H2 p1 n (BA p1 n m) v8
def HI (p1 : (List TKnot)) (n : Nat) : Option Bool :=
 (BA p1 n n (0 : Int))
def GJ (p0 : (List TLeaf)) (v3 : Int) (q2 : Int → Option Bool) (v6 : Bool) : Option Bool :=
 (bif v6 then some true else ((Dd p0 v3).bind fun v7 => (bif (decide ((100 : Int) < (v7.Src.size : Int))) then some true else q2 (IntKind.wrap .i64 (v3 + (1 : Int))))))
def HY (p0 : (List TLeaf)) (p1 : (List TKnot)) (n : Nat) (q2 : Int → Option Bool) (v3 : Int) : Option Bool :=
 (bif (decide (v3 < (p0.length : Int))) then ((Dd p0 v3).bind fun v4 => (bif (decide ((300 : Int) < (v4.S.size : Int))) then (GJ p0 v3 q2 true) else ((Dd p0 v3).bind fun v5 => (GJ p0 v3 q2 (decide ((100 : Int) < (v5.Name.size : Int))))))) else (HI p1 n))
def CN (p0 : (List TLeaf)) (p1 : (List TKnot)) (n : Nat) : Nat → Int → Option Bool
 | 0, _ => none
 | m + 1, v3 => HY p0 p1 n (CN p0 p1 n m) v3
def Fo (p0 : (List TLeaf)) (p1 : (List TKnot)) (n : Nat) (v2 : Bool) : Option Bool :=
 (bif v2 then some true else (CN p0 p1 n n (0 : Int)))
def Ky (n : Nat) (p0 : (List TLeaf)) (p1 : (List TKnot)) : Option Bool :=
 (bif (decide ((50 : Int) < (p0.length : Int))) then (Fo p0 p1 n true) else (Fo p0 p1 n (decide ((50 : Int) < (p1.length : Int)))))
set_option maxRecDepth 100000 in
set_option maxHeartbeats 4000000 in
theorem AL3 (n : Nat) (p0 : (List TLeaf)) (p1 : (List TKnot)) {r : Bool} (hr : Ky n p0 p1 = some r) {K : PV → List Content → Prop} (h : K (.d (.bool r)) st) : Av PR Yx [(.d (.sl (List.map TLeaf.row p0))), (.d (.sl (List.map TKnot.row p1)))] st K := by
 refine Av.of AO9 (Nat.le_of_ble_eq_true rfl) fun hwf => ?_
 rw [Ed]
 refine AQ ?_
 unfold Az5
 rw [Ky] at hr
 refine Al (Af ?_)
 unfold WY
 refine Ab e_c (Aa (Ae (Al ?_)))
 refine By (fun f st' => ∃ (v2 : Bool), Fo p0 p1 n v2 = some r ∧ f 0 = (.d (.sl (List.map TLeaf.row p0))) ∧ f 1 = (.d (.sl (List.map TKnot.row p1))) ∧ f 15 = (.d (.bool v2)) ∧ st' = st ++ []) ?_ ?_
 · refine Af ?_
   unfold Xe
   refine Ab (e_t (em rfl eh)) ?_
   refine Bh (row := TLeaf.row) (AP (e_t eh) Bt) ?_
   refine As (e_t eh) e_c (C8 ?_)
   refine Ab (e_t eh) ?_
   refine Au eh hr (fun hr => ?_) (fun hr => ?_)
   · refine Ag eh (Ag (em rfl eh) (Ag (Ac rfl eh) (An (e_t (Ac rfl (em rfl eh))) e_c (Aa (Ae ?_)))))
     exact ⟨true, hr, (Ak rfl (Ac rfl eh)), (Ak rfl (Ac rfl (em rfl eh))), eh, rfl⟩
   refine Ai eh (Ab (e_t (Ad rfl (Ac rfl (em rfl eh)))) (Ai (em rfl eh) ?_))
   refine Bh (row := TKnot.row) (AP (e_t eh) Bt) ?_
   refine Ai (Ac rfl eh) ?_
   refine As (e_t eh) e_c (C8 ?_)
   refine Ao (e_t (Ac rfl (em rfl eh))) (e_t eh) (Aa (Ae ?_))
   exact ⟨(decide ((50 : Int) < (p1.length : Int))), hr, (Ak rfl (Ac rfl eh)), (Ak rfl (Ac rfl (em rfl eh))), eh, rfl⟩
 rintro f st' ⟨v2, hr, h0, h1, h15, rfl⟩
 rw [Fo] at hr
 refine AC (e_t h15) hr (fun hr => ?_) (fun hr => ?_)
 · refine Al (Af ?_)
   unfold WZ
   refine Ab e_c (Aa (Ae (AI (AA ?_))))
   cases hr
   exact A7 (AG eh AH) (AN AF v_d) (Ay hwf) h
 refine AO (Ae ?_)
 refine By (fun f st' => HI p1 n = some r ∧ f 1 = (.d (.sl (List.map TKnot.row p1))) ∧ st' = st ++ []) ?_ ?_
 · refine Al (Af ?_)
   unfold WM
   refine Ab e_c (Aa (Ae ?_))
   refine AT ?_
   refine BX (fun m f st' => ∃ (v3 : Int), CN p0 p1 n m v3 = some r ∧ f 0 = (.d (.sl (List.map TLeaf.row p0))) ∧ f 1 = (.d (.sl (List.map TKnot.row p1))) ∧ f 5 = (.d (.int .i64 v3)) ∧ st' = st ++ []) n (Ghost.refl _) ⟨(0 : Int), hr, (em rfl h0), (em rfl h1), eh, rfl⟩ ?_
   rintro m f st' ⟨v3, hr, h0, h1, h5, rfl⟩
   cases m with
   | zero => cases hr
   | succ m_2 =>
     rw [CN] at hr
     generalize hrec_2 : CN p0 p1 n m_2 = q2 at hr
     rw [HY] at hr
     unfold WA
     refine Al (Al (Af ?_))
     unfold Xb
     refine Ab (e_t h5) (Ab (e_t (em rfl h0)) ?_)
     refine Bh (row := TLeaf.row) (AP (e_t eh) Bt) ?_
     refine As (e_t (Ac rfl eh)) (e_t eh) (CM ?_)
     refine Aa (Ae ?_)
     refine AC (e_t eh) hr (fun hr => ?_) (fun hr => ?_)
     rotate_left
     · refine CG ?_
       refine AW ?_
       refine AW ?_
       refine DF ?_
       refine Ae ?_
       exact ⟨hr, (Ad rfl h1), rfl⟩
     refine AO (Ae (Al ?_))
     refine AT ?_
     refine Al (Af ?_)
     unfold Xi
     refine A1 (fun f st' => ∃ (v6 : Bool), GJ p0 v3 q2 v6 = some r ∧ f 0 = (.d (.sl (List.map TLeaf.row p0))) ∧ f 1 = (.d (.sl (List.map TKnot.row p1))) ∧ f 5 = (.d (.int .i64 v3)) ∧ f 37 = (.d (.bool v6)) ∧ st' = st ++ []) ?_ ?_
     · unfold Sg
       refine Ab (e_t (Ad rfl h0)) (Ab (e_t (Ad rfl (em rfl h5))) ?_)
       refine Br (row := TLeaf.row) (AP (e_t (em rfl eh)) Bt) (e_t eh) hr TLeaf.row_eq (fun _ => rfl) (fun v4 hr => ?_)
       refine MA (e_t eh) (by exact rfl) ?_
       refine BI (e_t eh) (by exact rfl) ?_
       refine Ij (e_t eh) ?_
       refine As (e_t eh) e_c (C8 ?_)
       refine Ab (e_t eh) ?_
       refine Au eh hr (fun hr => ?_) (fun hr => ?_)
       · refine Ag eh (Ag (em rfl eh) (Ag (Ac rfl eh) (Ag (Ac rfl (em rfl eh)) (Ag (Ad rfl eh) (Ag (Ad rfl (em rfl eh)) ?_)))))
         refine Ag (Ad rfl (Ac rfl eh)) (An (e_t (Ad rfl (Ac rfl (em rfl eh)))) e_c (Aa ?_))
         exact ⟨true, hr, (Aj rfl (Ad rfl (em rfl h0))), (Aj rfl (Ad rfl (em rfl h1))), (Aj rfl (Ad rfl (em rfl h5))), eh, rfl⟩
       refine Ai eh (Ab (e_t (Ak rfl (Ad rfl (em rfl h0)))) (Ai (em rfl eh) (Ab (e_t (Ak rfl (Ad rfl (Ac rfl h5)))) (Ai (Ac rfl eh) ?_))))
       refine Br (row := TLeaf.row) (AP (e_t (em rfl eh)) Bt) (e_t eh) hr TLeaf.row_eq (fun _ => rfl) (fun v5 hr => ?_)
       refine Ai (Ac rfl (em rfl eh)) ?_
       refine MA (e_t eh) (by exact rfl) ?_
       refine Ai (Ad rfl eh) ?_
       refine BI (e_t eh) (by exact rfl) ?_
       refine Ai (Ad rfl (em rfl eh)) ?_
       refine Ij (e_t eh) ?_
       refine Ai (Ad rfl (Ac rfl eh)) ?_
       refine As (e_t eh) e_c (C8 ?_)
       refine Ao (e_t (Ad rfl (Ac rfl (em rfl eh)))) (e_t eh) (Aa ?_)
       exact ⟨(decide ((100 : Int) < (v5.Name.size : Int))), hr, (Aj rfl (Ad rfl (em rfl h0))), (Aj rfl (Ad rfl (em rfl h1))), (Aj rfl (Ad rfl (em rfl h5))), eh, rfl⟩
     rintro f st' ⟨v6, hr, h0, h1, h5, h37, rfl⟩
     rw [GJ] at hr
     unfold SJ
     refine Ab (e_t h37) ?_
     refine Au eh hr (fun hr => ?_) (fun hr => ?_)
     · refine Ag eh (Ag (em rfl eh) (Ag (Ac rfl eh) (Ag (Ac rfl (em rfl eh)) (Ag (Ad rfl eh) (Ag (Ad rfl (em rfl eh)) ?_)))))
       refine Ag (Ad rfl (Ac rfl eh)) (An (e_t (Ad rfl (Ac rfl (em rfl eh)))) e_c (Aa (Ae ?_)))
       refine Dy (e_t eh) ?_
       refine Al (Af ?_)
       unfold Q5
       refine Ab e_c (Aa (Ae (AI ?_)))
       refine BH ?_
       refine AA (AA ?_)
       refine BH ?_
       refine AA ?_
       cases hr
       exact A7 (AG eh AH) (AN AF v_d) (Ay hwf) h
     refine Ai eh (Ab (e_t (Ac rfl h0)) (Ai (em rfl eh) (Ab (e_t (Ac rfl (em rfl h5))) (Ai (Ac rfl eh) ?_))))
     refine Br (row := TLeaf.row) (AP (e_t (em rfl eh)) Bt) (e_t eh) hr TLeaf.row_eq (fun _ => rfl) (fun v7 hr => ?_)
     refine Ai (Ac rfl (em rfl eh)) ?_
     refine MA (e_t eh) (by exact rfl) ?_
     refine Ai (Ad rfl eh) ?_
     refine BI (e_t eh) (by exact rfl) ?_
     refine Ai (Ad rfl (em rfl eh)) ?_
     refine Ij (e_t eh) ?_
     refine Ai (Ad rfl (Ac rfl eh)) ?_
     refine As (e_t eh) e_c (C8 ?_)
     refine Ao (e_t (Ad rfl (Ac rfl (em rfl eh)))) (e_t eh) (Aa (Ae ?_))
     refine AC (e_t eh) hr (fun hr => ?_) (fun hr => ?_)
     rotate_left
     · refine AO ?_
       refine BB ?_
       refine Ae (Af ?_)
       unfold XL
       refine Ab (e_t (Ak rfl (Ac rfl h5))) ?_
       refine As (e_t eh) e_c (BU ?_)
       refine Ab (e_t eh) (Aa (Ae ?_))
       exact ⟨m_2, _, Nat.lt_succ_self m_2, Ghost.refl _, (IntKind.wrap .i64 (v3 + (1 : Int))), (by rw [hrec_2]; exact hr), (Ak rfl (Ad rfl (em rfl h0))), (Ak rfl (Ad rfl (em rfl h1))), eh, rfl⟩
     refine Al (Af ?_)
     unfold Q5
     refine Ab e_c (Aa (Ae (AI ?_)))
     refine BH ?_
     refine AA (AA ?_)
     refine BH ?_
     refine AA ?_
     cases hr
     exact A7 (AG eh AH) (AN AF v_d) (Ay hwf) h
 rintro f st' ⟨hr, h1, rfl⟩
 rw [HI] at hr
 refine Al (Al (Af ?_))
 unfold XK
 refine Ab e_c (Aa (Ae ?_))
 refine AT ?_
 refine BX (fun m f st' => ∃ (v8 : Int), BA p1 n m v8 = some r ∧ f 1 = (.d (.sl (List.map TKnot.row p1))) ∧ f 6 = (.d (.int .i64 v8)) ∧ st' = st ++ []) n (Ghost.refl _) ⟨(0 : Int), hr, (em rfl h1), eh, rfl⟩ ?_
 rintro m f st' ⟨v8, hr, h1, h6, rfl⟩
 cases m with
 | zero => cases hr
 | succ m_0 =>
   rw [BA] at hr
   generalize hrec_0 : BA p1 n m_0 = q0 at hr
   rw [H2] at hr
   unfold U9
   refine Al (Al (Af ?_))
   unfold U2
   refine Ab (e_t h6) (Ab (e_t (em rfl h1)) ?_)
   refine Bh (row := TKnot.row) (AP (e_t eh) Bt) ?_
   refine As (e_t (Ac rfl eh)) (e_t eh) (CM ?_)
   refine Aa (Ae ?_)
   refine AC (e_t eh) hr (fun hr => ?_) (fun hr => ?_)
   rotate_left
   · refine CG ?_
     refine AW ?_
     refine AW ?_
     refine DF ?_
     refine Ae (Al (Af ?_))
     unfold VY
     refine Ab e_c (Aa (Ae (AI ?_)))
     cases hr
     exact A7 (AG eh AH) (AN AF v_d) (Ay hwf) h
   refine AO (Ae (Al ?_))
   refine AT ?_
   refine Al ?_
   refine By (fun f st' => ∃ (v13 : Bool), GT p1 n q0 v8 v13 = some r ∧ f 1 = (.d (.sl (List.map TKnot.row p1))) ∧ f 6 = (.d (.int .i64 v8)) ∧ f 77 = (.d (.bool v13)) ∧ st' = st ++ []) ?_ ?_
   · refine Af ?_
     unfold Ui
     refine A1 (fun f st' => ∃ (v11 : Bool), GP p1 n q0 v8 v11 = some r ∧ f 1 = (.d (.sl (List.map TKnot.row p1))) ∧ f 6 = (.d (.int .i64 v8)) ∧ f 68 = (.d (.bool v11)) ∧ st' = st ++ []) ?_ ?_
     rotate_left
     · rintro f st' ⟨v11, hr, h1, h6, h68, rfl⟩
       rw [GP] at hr
       unfold QG
       refine Ab (e_t h68) ?_
       refine Au eh hr (fun hr => ?_) (fun hr => ?_)
       · refine Ag eh (Ag (em rfl eh) (Ag (Ac rfl eh) (Ag (Ac rfl (em rfl eh)) (Ag (Ad rfl eh) (Ag (Ad rfl (em rfl eh)) ?_)))))
         refine Ag (Ad rfl (Ac rfl eh)) (An (e_t (Ad rfl (Ac rfl (em rfl eh)))) e_c (Aa (Ae ?_)))
         exact ⟨true, hr, (Ak rfl (Ac rfl h1)), (Ak rfl (Ac rfl h6)), eh, rfl⟩
       refine Ai eh (Ab (e_t (Ac rfl h1)) (Ai (em rfl eh) (Ab (e_t (Ac rfl (em rfl h6))) (Ai (Ac rfl eh) ?_))))
       refine Br (row := TKnot.row) (AP (e_t (em rfl eh)) Bt) (e_t eh) hr TKnot.row_eq (fun _ => rfl) (fun v12 hr => ?_)
       refine Ai (Ac rfl (em rfl eh)) ?_
       refine MA (e_t eh) (by exact rfl) ?_
       refine Ai (Ad rfl eh) ?_
       refine BI (e_t eh) (by exact rfl) ?_
       refine Ai (Ad rfl (em rfl eh)) ?_
       refine Bh (row := rS) (AP (e_t eh) Bt) ?_
       refine Ai (Ad rfl (Ac rfl eh)) ?_
       refine As (e_t eh) e_c (C8 ?_)
       refine Ao (e_t (Ad rfl (Ac rfl (em rfl eh)))) (e_t eh) (Aa (Ae ?_))
       exact ⟨(decide ((12 : Int) < (v12.Cols.length : Int))), hr, (Ak rfl (Ac rfl h1)), (Ak rfl (Ac rfl h6)), eh, rfl⟩
     unfold Rg
     refine Ab (e_t (Ad rfl h1)) (Ab (e_t (Ad rfl (em rfl h6))) ?_)
     refine Br (row := TKnot.row) (AP (e_t (em rfl eh)) Bt) (e_t eh) hr TKnot.row_eq (fun _ => rfl) (fun v9 hr => ?_)
     refine MA (e_t eh) (by exact rfl) ?_
     refine BI (e_t eh) (by exact rfl) ?_
     refine Ij (e_t eh) ?_
     refine As (e_t eh) e_c (C8 ?_)
     refine Ab (e_t eh) ?_
     refine Au eh hr (fun hr => ?_) (fun hr => ?_)
     · refine Ag eh (Ag (em rfl eh) (Ag (Ac rfl eh) (Ag (Ac rfl (em rfl eh)) (Ag (Ad rfl eh) (Ag (Ad rfl (em rfl eh)) ?_)))))
       refine Ag (Ad rfl (Ac rfl eh)) (An (e_t (Ad rfl (Ac rfl (em rfl eh)))) e_c (Aa ?_))
       exact ⟨true, hr, (Aj rfl (Ad rfl (em rfl h1))), (Aj rfl (Ad rfl (em rfl h6))), eh, rfl⟩
     refine Ai eh (Ab (e_t (Ak rfl (Ad rfl (em rfl h1)))) (Ai (em rfl eh) (Ab (e_t (Ak rfl (Ad rfl (Ac rfl h6)))) (Ai (Ac rfl eh) ?_))))
     refine Br (row := TKnot.row) (AP (e_t (em rfl eh)) Bt) (e_t eh) hr TKnot.row_eq (fun _ => rfl) (fun v10 hr => ?_)
     refine Ai (Ac rfl (em rfl eh)) ?_
     refine MA (e_t eh) (by exact rfl) ?_
     refine Ai (Ad rfl eh) ?_
     refine BI (e_t eh) (by exact rfl) ?_
     refine Ai (Ad rfl (em rfl eh)) ?_
     refine Ij (e_t eh) ?_
     refine Ai (Ad rfl (Ac rfl eh)) ?_
     refine As (e_t eh) e_c (C8 ?_)
     refine Ao (e_t (Ad rfl (Ac rfl (em rfl eh)))) (e_t eh) (Aa ?_)
     exact ⟨(decide ((100 : Int) < (v10.Src.size : Int))), hr, (Aj rfl (Ad rfl (em rfl h1))), (Aj rfl (Ad rfl (em rfl h6))), eh, rfl⟩
   rintro f st' ⟨v13, hr, h1, h6, h77, rfl⟩
   rw [GT] at hr
   refine AC (e_t h77) hr (fun hr => ?_) (fun hr => ?_)
   · refine Al (Af ?_)
     unfold UH
     refine Ab e_c (Aa (Ae (AI (AA ?_))))
     refine BH ?_
     refine AA (AA ?_)
     refine BH ?_
     refine AA ?_
     cases hr
     exact A7 (AG eh AH) (AN AF v_d) (Ay hwf) h
   refine AO (Ae (Al (Af ?_)))
   unfold Ul
   refine Ab e_c (Aa (Ae ?_))
   refine AT ?_
   refine BX (fun m f st' => ∃ (v14 : Int), Cp p1 q0 v8 m v14 = some r ∧ f 1 = (.d (.sl (List.map TKnot.row p1))) ∧ f 6 = (.d (.int .i64 v8)) ∧ f 7 = (.d (.int .i64 v14)) ∧ st' = st ++ []) n (Ghost.refl _) ⟨(0 : Int), hr, (em rfl h1), (em rfl h6), eh, rfl⟩ ?_
   rintro m f st' ⟨v14, hr, h1, h6, h7, rfl⟩
   cases m with
   | zero => cases hr
   | succ m_1 =>
     rw [Cp] at hr
     generalize hrec_1 : Cp p1 q0 v8 m_1 = q1 at hr
     rw [H6] at hr
     unfold Vp
     refine Al (Al (Af ?_))
     unfold T3
     refine Ab (e_t h7) (Ab (e_t (em rfl h1)) (Ab (e_t (Ac rfl h6)) ?_))
     refine Br (row := TKnot.row) (AP (e_t (em rfl eh)) Bt) (e_t eh) hr TKnot.row_eq (fun _ => rfl) (fun v15 hr => ?_)
     refine MA (e_t eh) (by exact rfl) ?_
     refine BI (e_t eh) (by exact rfl) ?_
     refine Bh (row := rS) (AP (e_t eh) Bt) ?_
     refine As (e_t (Ad rfl (Ac rfl eh))) (e_t eh) (CM ?_)
     refine Aa (Ae ?_)
     refine AC (e_t eh) hr (fun hr => ?_) (fun hr => ?_)
     rotate_left
     · refine CG ?_
       refine AW ?_
       refine AW ?_
       refine DF ?_
       refine BB ?_
       refine Ae (Af ?_)
       unfold Uy
       refine Ab (e_t (Ad rfl (Ad rfl h6))) ?_
       refine As (e_t eh) e_c (BU ?_)
       refine Ab (e_t eh) (Aa (Ae ?_))
       exact ⟨m_0, _, Nat.lt_succ_self m_0, Ghost.refl _, (IntKind.wrap .i64 (v8 + (1 : Int))), (by rw [hrec_0]; exact hr), (Ak rfl (Ac rfl (em rfl h1))), eh, rfl⟩
     refine AO (Ae (Al ?_))
     refine AT ?_
     refine Al (Af ?_)
     unfold US
     refine Ab (e_t (Ad rfl (Ad rfl h1))) (Ab (e_t (Ak rfl (em rfl h6))) ?_)
     refine Br (row := TKnot.row) (AP (e_t (em rfl eh)) Bt) (e_t eh) hr TKnot.row_eq (fun _ => rfl) (fun v16 hr => ?_)
     refine MA (e_t eh) (by exact rfl) ?_
     refine BI (e_t eh) (by exact rfl) ?_
     refine Ab (e_t (Ak rfl (Ad rfl (em rfl h7)))) ?_
     refine Br (row := rS) (AP (e_t (em rfl eh)) Bt) (e_t eh) hr (fun _ => rfl) (fun _ => rfl) (fun v17 hr => ?_)
     refine BI (e_t eh) (by exact rfl) ?_
     refine Ij (e_t eh) ?_
     refine As (e_t eh) e_c (C8 ?_)
     refine Aa (Ae ?_)
     refine AC (e_t eh) hr (fun hr => ?_) (fun hr => ?_)
     rotate_left
     · refine AO ?_
       refine BB ?_
       refine Ae (Af ?_)
       unfold Td
       refine Ab (e_t (Aj rfl (Ac rfl h7))) ?_
       refine As (e_t eh) e_c (BU ?_)
       refine Ab (e_t eh) (Aa (Ae ?_))
       exact ⟨m_1, _, Nat.lt_succ_self m_1, Ghost.refl _, (IntKind.wrap .i64 (v14 + (1 : Int))), (by rw [hrec_1]; exact hr), (Aj rfl (Ad rfl (em rfl h1))), (Aj rfl (Ad rfl (em rfl h6))), eh, rfl⟩
     refine Al (Af ?_)
     unfold Ty
     refine Ab e_c (Aa (Ae (AI ?_)))
     refine BH ?_
     refine AA (AA ?_)
     refine BH ?_
     refine BH ?_
     refine AA (AA ?_)
     refine BH ?_
     refine AA ?_
     cases hr
     exact A7 (AG eh AH) (AN AF v_d) (Ay hwf) h
def Ht (p0 : Int) (p1 : Int) : Option Int :=
 (bif (decide (p1 = (0 : Int))) then some (-1) else ((Aj8 (decide ((IntKind.wrap .u64 p1) ≠ 0))).bind fun _ => some (IntKind.wrap .i64 ((IntKind.wrap .i64 (p1 - (1 : Int))) - (IntKind.wrap .i64 (Int.tmod (IntKind.wrap .u64 p0) (IntKind.wrap .u64 p1)))))))
set_option maxRecDepth 100000 in
set_option maxHeartbeats 4000000 in
theorem Yl (p0 : Int) (p1 : Int) {r : Int} (hr : Ht p0 p1 = some r) {K : PV → List Content → Prop} (h : K (.d (.int .i64 r)) st) : Av PR RZ [(.d (.int .i64 p0)), (.d (.int .i64 p1))] st K := by
 refine Av.of AV5 (Nat.le_of_ble_eq_true rfl) fun hwf => ?_
 rw [Ed]
 refine AQ ?_
 unfold AF1
 rw [Ht] at hr
 refine Al (Af ?_)
 unfold YL
 refine Ab e_c (Aa (Ae (Al (Al (Af ?_)))))
 unfold Zp
 refine Ab (e_t (Ac rfl eh)) ?_
 refine As (e_t eh) e_c (BK ?_)
 refine Aa (Ae ?_)
 refine AC (e_t eh) hr (fun hr => ?_) (fun hr => ?_)
 · refine Al (Af ?_)
   unfold ZJ
   refine Ab e_c (Aa (Ae (AI (AA ?_))))
   cases hr
   exact A7 (AG eh AH) (AN AF v_d) (Ay hwf) h
 refine AO (Ae (Al (Af ?_)))
 unfold ZZ
 refine Ab (e_t (Ad rfl eh)) ?_
 refine As (e_t eh) e_c (Aw0 ?_)
 refine Ab (e_t (Ad rfl (em rfl eh))) ?_
 refine RY (e_t eh) ?_
 refine Ab (e_t (Ad rfl (Ad rfl eh))) ?_
 refine RY (e_t eh) ?_
 refine As (e_t (Ac rfl eh)) (e_t eh) (AN5 hr (fun hr => ?_))
 refine RY (e_t eh) ?_
 refine As (e_t (Ad rfl (Ac rfl eh))) (e_t eh) (Aw0 ?_)
 refine Ab (e_t eh) (Aa (Ae (AI ?_)))
 cases hr
 exact A7 (AG eh AH) (AN AF v_d) (Ay hwf) h
def Me (p0 : Int) (p1 : Int) (v2 : Bool) : (Int × Int) :=
 (bif v2 then ((1000 : Int), (1000 : Int)) else (p0, p1))
def DJ (p0 : Int) (p1 : Int) : (Int × Int) :=
 (bif (decide ((1000 : Int) ≤ p0)) then (Me p0 p1 true) else (Me p0 p1 (decide ((1000 : Int) ≤ p1))))
set_option maxRecDepth 100000 in
set_option maxHeartbeats 4000000 in
theorem Ap0 (p0 : Int) (p1 : Int) {r : (Int × Int)} (hr : DJ p0 p1 = r) {K : PV → List Content → Prop} (h : K (.tup [(.d (.int .i64 r.1)), (.d (.int .i64 r.2))]) st) : Av PR Tp [(.d (.int .i64 p0)), (.d (.int .i64 p1))] st K := by
 refine Av.of AT6 (Nat.le_of_ble_eq_true rfl) fun hwf => ?_
 rw [Ed]
 refine AQ ?_
 unfold AE7
 rw [DJ] at hr
 refine Al (Af ?_)
 unfold Zz
 refine Ab e_c (Ab e_c (Aa (Ae (Al ?_))))
 refine By (fun f st' => ∃ (v2 : Bool), Me p0 p1 v2 = r ∧ f 0 = (.d (.int .i64 p0)) ∧ f 1 = (.d (.int .i64 p1)) ∧ f 11 = (.d (.bool v2)) ∧ st' = st ++ []) ?_ ?_
 · refine Af ?_
   unfold YQ
   refine Ab (e_t (Ac rfl eh)) ?_
   refine As (e_t eh) e_c (Ei ?_)
   refine Ab (e_t eh) ?_
   refine Au eh hr (fun hr => ?_) (fun hr => ?_)
   · refine Ag eh (Ag (em rfl eh) (An (e_t (Ac rfl eh)) e_c (Aa (Ae ?_))))
     exact ⟨true, hr, (Ak rfl (em rfl eh)), (Ak rfl (Ac rfl eh)), eh, rfl⟩
   refine Ai eh (Ab (e_t (Ad rfl (Ac rfl (em rfl eh)))) (Ai (em rfl eh) ?_))
   refine As (e_t eh) e_c (Ei ?_)
   refine Ao (e_t (Ac rfl eh)) (e_t eh) (Aa (Ae ?_))
   exact ⟨(decide ((1000 : Int) ≤ p1)), hr, (Ak rfl (em rfl eh)), (Ak rfl (Ac rfl eh)), eh, rfl⟩
 rintro f st' ⟨v2, hr, h0, h1, h11, rfl⟩
 rw [Me] at hr
 refine AC (e_t h11) hr (fun hr => ?_) (fun hr => ?_)
 · refine Al (Af ?_)
   unfold ZQ
   refine Ab e_c (Ab e_c (Aa (Ae (AI (AA ?_)))))
   subst hr
   exact A7 (AG (em rfl eh) (AG eh AH)) (HJ (Bu FU (Bu FU HN)) rfl) (Ay hwf) h
 refine AO (Ae (Al (Af ?_)))
 unfold Ac4
 refine Ab (e_t h0) (Ab (e_t (em rfl h1)) (Ab (e_t (em rfl eh)) (Ab (e_t (em rfl eh)) (Aa (Ae ?_)))))
 refine AI ?_
 subst hr
 exact A7 (AG (em rfl eh) (AG eh AH)) (HJ (Bu FU (Bu FU HN)) rfl) (Ay hwf) h
end Go.Ax
