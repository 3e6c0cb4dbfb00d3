import Derived.Test.YtojkpenjeglipaaGreatTWT
import Derived.Test.YtojkpenjeglipaaGreatTCVX
import Derived.Test.YtojkpenjeglipaaGreatTCPrim
set_option linter.unusedVariables false
set_option maxRecDepth 100000
set_option maxHeartbeats 4000000
namespace Go.Ax
attribute [local irreducible] BH FA F2 Bf DM Hp Cq V4 Lz upd ev u0 Dh frz A4 EO mmD bnd Ch Gk DU C2 Ie JH FZ cutV NL CO
variable {st : List Content}
def IK (p1 : (List TKnot)) (q0 : Int → Option Bool) (v8 : Int) (q1 : Int → Option Bool) (v14 : Int) : Option Bool :=
 ((Dw p1 v8).bind fun v15 => (bif (decide (v14 < (v15.Cols.length : Int))) then ((Dw p1 v8).bind fun v16 => ((Dw v16.Cols v14).bind fun v17 => (bif (decide ((100 : Int) < (v17.size : Int))) then some true else q1 (IntKind.wrap .i64 (v14 + (1 : Int)))))) else q0 (IntKind.wrap .i64 (v8 + (1 : Int)))))
def B9 (p1 : (List TKnot)) (q0 : Int → Option Bool) (v8 : Int) : Nat → Int → Option Bool
 | 0, _ => none
 | m + 1, v14 => IK p1 q0 v8 (B9 p1 q0 v8 m) v14
def GX (p1 : (List TKnot)) (n : Nat) (q0 : Int → Option Bool) (v8 : Int) (v13 : Bool) : Option Bool :=
 (bif v13 then some true else (B9 p1 q0 v8 n (0 : Int)))
def GZ (p1 : (List TKnot)) (n : Nat) (q0 : Int → Option Bool) (v8 : Int) (v11 : Bool) : Option Bool :=
 (bif v11 then (GX p1 n q0 v8 true) else ((Dw p1 v8).bind fun v12 => (GX p1 n q0 v8 (decide ((12 : Int) < (v12.Cols.length : Int))))))
def II (p1 : (List TKnot)) (n : Nat) (q0 : Int → Option Bool) (v8 : Int) : Option Bool :=
 (bif (decide (v8 < (p1.length : Int))) then ((Dw p1 v8).bind fun v9 => (bif (decide ((100 : Int) < (v9.Name.size : Int))) then (GZ p1 n q0 v8 true) else ((Dw p1 v8).bind fun v10 => (GZ p1 n q0 v8 (decide ((100 : Int) < (v10.Src.size : Int))))))) else some false)
def Bq (p1 : (List TKnot)) (n : Nat) : Nat → Int → Option Bool
 | 0, _ => none
 | m + 1, v8 => II p1 n (Bq p1 n m) v8
def Ir (p1 : (List TKnot)) (n : Nat) : Option Bool :=
 (Bq p1 n n (0 : Int))
def GO (p0 : (List TLeaf)) (v3 : Int) (q2 : Int → Option Bool) (v6 : Bool) : Option Bool :=
 (bif v6 then some true else ((Dw p0 v3).bind fun v7 => (bif (decide ((100 : Int) < (v7.Src.size : Int))) then some true else q2 (IntKind.wrap .i64 (v3 + (1 : Int))))))
def IB (p0 : (List TLeaf)) (p1 : (List TKnot)) (n : Nat) (q2 : Int → Option Bool) (v3 : Int) : Option Bool :=
 (bif (decide (v3 < (p0.length : Int))) then ((Dw p0 v3).bind fun v4 => (bif (decide ((300 : Int) < (v4.S.size : Int))) then (GO p0 v3 q2 true) else ((Dw p0 v3).bind fun v5 => (GO p0 v3 q2 (decide ((100 : Int) < (v5.Name.size : Int))))))) else (Ir p1 n))
def CG (p0 : (List TLeaf)) (p1 : (List TKnot)) (n : Nat) : Nat → Int → Option Bool
 | 0, _ => none
 | m + 1, v3 => IB p0 p1 n (CG p0 p1 n m) v3
def Fc (p0 : (List TLeaf)) (p1 : (List TKnot)) (n : Nat) (v2 : Bool) : Option Bool :=
 (bif v2 then some true else (CG p0 p1 n n (0 : Int)))
def Nc (n : Nat) (p0 : (List TLeaf)) (p1 : (List TKnot)) : Option Bool :=
 (bif (decide ((50 : Int) < (p0.length : Int))) then (Fc p0 p1 n true) else (Fc p0 p1 n (decide ((50 : Int) < (p1.length : Int)))))
theorem BW9 (n : Nat) (p0 : (List TLeaf)) (p1 : (List TKnot)) {r : Bool} (hr : Nc n p0 p1 = some r) {K : PV → List Content → Prop} (h : K (.d (.bool r)) st) : Aw PR Be1 [(.d (.sl (List.map TLeaf.row p0))), (.d (.sl (List.map TKnot.row p1)))] st K := by
 refine Aw.of BV5 (Nat.le_of_ble_eq_true rfl) fun hwf => ?_
 rw [ED]
 refine AS ?_
 unfold BF8
 rw [Nc] at hr
 refine Al (Af ?_)
 unfold AT8
 refine Ab e_c (Aa (Ae (Al ?_)))
 refine BL (fun f st' => ∃ (v2 : Bool), Fc p0 p1 n v2 = some r ∧ f 0 = (.d (.sl (List.map TLeaf.row p0))) ∧ f 1 = (.d (.sl (List.map TKnot.row p1))) ∧ f 15 = (.d (.bool v2)) ∧ st' = st ++ []) ?_ ?_
 · refine Af ?_
   unfold AU6
   refine Ab (e_t (em rfl eh)) ?_
   refine Bc (row := TLeaf.row) (AN (e_t eh) Bo) ?_
   refine Ap (e_t eh) e_c (B6 ?_)
   refine Ab (e_t eh) ?_
   refine Ar eh hr (fun hr => ?_) (fun hr => ?_)
   · refine Ah eh (Ah (em rfl eh) (Ah (Ac rfl eh) (Am (e_t (Ac rfl (em rfl eh))) e_c (Aa (Ae ?_)))))
     exact ⟨true, hr, (Ak rfl (Ac rfl eh)), (Ak rfl (Ac rfl (em rfl eh))), eh, rfl⟩
   refine Aj eh (Ab (e_t (Ad rfl (Ac rfl (em rfl eh)))) (Aj (em rfl eh) ?_))
   refine Bc (row := TKnot.row) (AN (e_t eh) Bo) ?_
   refine Aj (Ac rfl eh) ?_
   refine Ap (e_t eh) e_c (B6 ?_)
   refine An (e_t (Ac rfl (em rfl eh))) (e_t eh) (Aa (Ae ?_))
   exact ⟨(decide ((50 : Int) < (p1.length : Int))), hr, (Ak rfl (Ac rfl eh)), (Ak rfl (Ac rfl (em rfl eh))), eh, rfl⟩
 rintro f st' ⟨v2, hr, h0, h1, h15, rfl⟩
 rw [Fc] at hr
 refine AB (e_t h15) hr (fun hr => ?_) (fun hr => ?_)
 · refine Al (Af ?_)
   unfold AT2
   refine Ab e_c (Aa (Ae (AH (Ay ?_))))
   cases hr
   exact A5 (AE eh AG) (AK AF v_d) (As hwf) h
 refine AM (Ae ?_)
 refine BL (fun f st' => Ir p1 n = some r ∧ f 1 = (.d (.sl (List.map TKnot.row p1))) ∧ st' = st ++ []) ?_ ?_
 · refine Al (Af ?_)
   unfold AW9
   refine Ab e_c (Aa (Ae ?_))
   refine A3 ?_
   refine Cy (fun m f st' => ∃ (v3 : Int), CG p0 p1 n m v3 = some r ∧ f 0 = (.d (.sl (List.map TLeaf.row p0))) ∧ f 1 = (.d (.sl (List.map TKnot.row p1))) ∧ f 5 = (.d (.int .i64 v3)) ∧ st' = st ++ []) n (Ghost.refl _) ⟨(0 : Int), hr, (em rfl h0), (em rfl h1), eh, rfl⟩ ?_
   rintro m f st' ⟨v3, hr, h0, h1, h5, rfl⟩
   cases m with
   | zero => cases hr
   | succ m_2 =>
     rw [CG] at hr
     generalize hrec_2 : CG p0 p1 n m_2 = q2 at hr
     rw [IB] at hr
     unfold AX2
     refine Al (Al (Af ?_))
     unfold AR9
     refine Ab (e_t h5) (Ab (e_t (em rfl h0)) ?_)
     refine Bc (row := TLeaf.row) (AN (e_t eh) Bo) ?_
     refine Ap (e_t (Ac rfl eh)) (e_t eh) (Da ?_)
     refine Aa (Ae ?_)
     refine AB (e_t eh) hr (fun hr => ?_) (fun hr => ?_)
     rotate_left
     · refine Dj ?_
       refine A8 ?_
       refine A8 ?_
       refine Fo ?_
       refine Ae ?_
       exact ⟨hr, (Ad rfl h1), rfl⟩
     refine AM (Ae (Al ?_))
     refine A3 ?_
     refine Al (Af ?_)
     unfold AT3
     refine Ba (fun f st' => ∃ (v6 : Bool), GO p0 v3 q2 v6 = some r ∧ f 0 = (.d (.sl (List.map TLeaf.row p0))) ∧ f 1 = (.d (.sl (List.map TKnot.row p1))) ∧ f 5 = (.d (.int .i64 v3)) ∧ f 37 = (.d (.bool v6)) ∧ st' = st ++ []) ?_ ?_
     · unfold Ap8
       refine Ab (e_t (Ad rfl h0)) (Ab (e_t (Ad rfl (em rfl h5))) ?_)
       refine Bt (row := TLeaf.row) (AN (e_t (em rfl eh)) Bo) (e_t eh) hr TLeaf.row_eq (fun _ => rfl) (fun v4 hr => ?_)
       refine No (e_t eh) (by rfl) ?_
       refine BF (e_t eh) (by rfl) ?_
       refine I2 (e_t eh) ?_
       refine Ap (e_t eh) e_c (B6 ?_)
       refine Ab (e_t eh) ?_
       refine Ar eh hr (fun hr => ?_) (fun hr => ?_)
       · refine Ah eh (Ah (em rfl eh) (Ah (Ac rfl eh) (Ah (Ac rfl (em rfl eh)) (Ah (Ad rfl eh) (Ah (Ad rfl (em rfl eh)) ?_)))))
         refine Ah (Ad rfl (Ac rfl eh)) (Am (e_t (Ad rfl (Ac rfl (em rfl eh)))) e_c (Aa ?_))
         exact ⟨true, hr, (Ai rfl (Ad rfl (em rfl h0))), (Ai rfl (Ad rfl (em rfl h1))), (Ai rfl (Ad rfl (em rfl h5))), eh, rfl⟩
       refine Aj eh (Ab (e_t (Ak rfl (Ad rfl (em rfl h0)))) (Aj (em rfl eh) (Ab (e_t (Ak rfl (Ad rfl (Ac rfl h5)))) (Aj (Ac rfl eh) ?_))))
       refine Bt (row := TLeaf.row) (AN (e_t (em rfl eh)) Bo) (e_t eh) hr TLeaf.row_eq (fun _ => rfl) (fun v5 hr => ?_)
       refine Aj (Ac rfl (em rfl eh)) ?_
       refine No (e_t eh) (by rfl) ?_
       refine Aj (Ad rfl eh) ?_
       refine BF (e_t eh) (by rfl) ?_
       refine Aj (Ad rfl (em rfl eh)) ?_
       refine I2 (e_t eh) ?_
       refine Aj (Ad rfl (Ac rfl eh)) ?_
       refine Ap (e_t eh) e_c (B6 ?_)
       refine An (e_t (Ad rfl (Ac rfl (em rfl eh)))) (e_t eh) (Aa ?_)
       exact ⟨(decide ((100 : Int) < (v5.Name.size : Int))), hr, (Ai rfl (Ad rfl (em rfl h0))), (Ai rfl (Ad rfl (em rfl h1))), (Ai rfl (Ad rfl (em rfl h5))), eh, rfl⟩
     rintro f st' ⟨v6, hr, h0, h1, h5, h37, rfl⟩
     rw [GO] at hr
     unfold Aq0
     refine Ab (e_t h37) ?_
     refine Ar eh hr (fun hr => ?_) (fun hr => ?_)
     · refine Ah eh (Ah (em rfl eh) (Ah (Ac rfl eh) (Ah (Ac rfl (em rfl eh)) (Ah (Ad rfl eh) (Ah (Ad rfl (em rfl eh)) ?_)))))
       refine Ah (Ad rfl (Ac rfl eh)) (Am (e_t (Ad rfl (Ac rfl (em rfl eh)))) e_c (Aa (Ae ?_)))
       refine DC (e_t eh) ?_
       refine Al (Af ?_)
       unfold Ae1
       refine Ab e_c (Aa (Ae (AH ?_)))
       refine Bw ?_
       refine Ay (Ay ?_)
       refine Bw ?_
       refine Ay ?_
       cases hr
       exact A5 (AE eh AG) (AK AF v_d) (As hwf) h
     refine Aj eh (Ab (e_t (Ac rfl h0)) (Aj (em rfl eh) (Ab (e_t (Ac rfl (em rfl h5))) (Aj (Ac rfl eh) ?_))))
     refine Bt (row := TLeaf.row) (AN (e_t (em rfl eh)) Bo) (e_t eh) hr TLeaf.row_eq (fun _ => rfl) (fun v7 hr => ?_)
     refine Aj (Ac rfl (em rfl eh)) ?_
     refine No (e_t eh) (by rfl) ?_
     refine Aj (Ad rfl eh) ?_
     refine BF (e_t eh) (by rfl) ?_
     refine Aj (Ad rfl (em rfl eh)) ?_
     refine I2 (e_t eh) ?_
     refine Aj (Ad rfl (Ac rfl eh)) ?_
     refine Ap (e_t eh) e_c (B6 ?_)
     refine An (e_t (Ad rfl (Ac rfl (em rfl eh)))) (e_t eh) (Aa (Ae ?_))
     refine AB (e_t eh) hr (fun hr => ?_) (fun hr => ?_)
     rotate_left
     · refine AM ?_
       refine BQ ?_
       refine Ae (Af ?_)
       unfold AZ0
       refine Ab (e_t (Ak rfl (Ac rfl h5))) ?_
       refine Ap (e_t eh) e_c (B4 ?_)
       refine Ab (e_t eh) (Aa (Ae ?_))
       exact ⟨m_2, _, Nat.lt_succ_self m_2, Ghost.refl _, (IntKind.wrap .i64 (v3 + (1 : Int))), (by rw [hrec_2]; exact hr), (Ak rfl (Ad rfl (em rfl h0))), (Ak rfl (Ad rfl (em rfl h1))), eh, rfl⟩
     refine Al (Af ?_)
     unfold Ae1
     refine Ab e_c (Aa (Ae (AH ?_)))
     refine Bw ?_
     refine Ay (Ay ?_)
     refine Bw ?_
     refine Ay ?_
     cases hr
     exact A5 (AE eh AG) (AK AF v_d) (As hwf) h
 rintro f st' ⟨hr, h1, rfl⟩
 rw [Ir] at hr
 refine Al (Al (Af ?_))
 unfold AU2
 refine Ab e_c (Aa (Ae ?_))
 refine A3 ?_
 refine Cy (fun m f st' => ∃ (v8 : Int), Bq p1 n m v8 = some r ∧ f 1 = (.d (.sl (List.map TKnot.row p1))) ∧ f 6 = (.d (.int .i64 v8)) ∧ st' = st ++ []) n (Ghost.refl _) ⟨(0 : Int), hr, (em rfl h1), eh, rfl⟩ ?_
 rintro m f st' ⟨v8, hr, h1, h6, rfl⟩
 cases m with
 | zero => cases hr
 | succ m_0 =>
   rw [Bq] at hr
   generalize hrec_0 : Bq p1 n m_0 = q0 at hr
   rw [II] at hr
   unfold AC9
   refine Al (Al (Af ?_))
   unfold AF3
   refine Ab (e_t h6) (Ab (e_t (em rfl h1)) ?_)
   refine Bc (row := TKnot.row) (AN (e_t eh) Bo) ?_
   refine Ap (e_t (Ac rfl eh)) (e_t eh) (Da ?_)
   refine Aa (Ae ?_)
   refine AB (e_t eh) hr (fun hr => ?_) (fun hr => ?_)
   rotate_left
   · refine Dj ?_
     refine A8 ?_
     refine A8 ?_
     refine Fo ?_
     refine Ae (Al (Af ?_))
     unfold AC6
     refine Ab e_c (Aa (Ae (AH ?_)))
     cases hr
     exact A5 (AE eh AG) (AK AF v_d) (As hwf) h
   refine AM (Ae (Al ?_))
   refine A3 ?_
   refine Al ?_
   refine BL (fun f st' => ∃ (v13 : Bool), GX p1 n q0 v8 v13 = some r ∧ f 1 = (.d (.sl (List.map TKnot.row p1))) ∧ f 6 = (.d (.int .i64 v8)) ∧ f 77 = (.d (.bool v13)) ∧ st' = st ++ []) ?_ ?_
   · refine Af ?_
     unfold Ay5
     refine Ba (fun f st' => ∃ (v11 : Bool), GZ p1 n q0 v8 v11 = some r ∧ f 1 = (.d (.sl (List.map TKnot.row p1))) ∧ f 6 = (.d (.int .i64 v8)) ∧ f 68 = (.d (.bool v11)) ∧ st' = st ++ []) ?_ ?_
     rotate_left
     · rintro f st' ⟨v11, hr, h1, h6, h68, rfl⟩
       rw [GZ] at hr
       unfold Ac2
       refine Ab (e_t h68) ?_
       refine Ar eh hr (fun hr => ?_) (fun hr => ?_)
       · refine Ah eh (Ah (em rfl eh) (Ah (Ac rfl eh) (Ah (Ac rfl (em rfl eh)) (Ah (Ad rfl eh) (Ah (Ad rfl (em rfl eh)) ?_)))))
         refine Ah (Ad rfl (Ac rfl eh)) (Am (e_t (Ad rfl (Ac rfl (em rfl eh)))) e_c (Aa (Ae ?_)))
         exact ⟨true, hr, (Ak rfl (Ac rfl h1)), (Ak rfl (Ac rfl h6)), eh, rfl⟩
       refine Aj eh (Ab (e_t (Ac rfl h1)) (Aj (em rfl eh) (Ab (e_t (Ac rfl (em rfl h6))) (Aj (Ac rfl eh) ?_))))
       refine Bt (row := TKnot.row) (AN (e_t (em rfl eh)) Bo) (e_t eh) hr TKnot.row_eq (fun _ => rfl) (fun v12 hr => ?_)
       refine Aj (Ac rfl (em rfl eh)) ?_
       refine No (e_t eh) (by rfl) ?_
       refine Aj (Ad rfl eh) ?_
       refine BF (e_t eh) (by rfl) ?_
       refine Aj (Ad rfl (em rfl eh)) ?_
       refine Bc (row := rS) (AN (e_t eh) Bo) ?_
       refine Aj (Ad rfl (Ac rfl eh)) ?_
       refine Ap (e_t eh) e_c (B6 ?_)
       refine An (e_t (Ad rfl (Ac rfl (em rfl eh)))) (e_t eh) (Aa (Ae ?_))
       exact ⟨(decide ((12 : Int) < (v12.Cols.length : Int))), hr, (Ak rfl (Ac rfl h1)), (Ak rfl (Ac rfl h6)), eh, rfl⟩
     unfold Ah4
     refine Ab (e_t (Ad rfl h1)) (Ab (e_t (Ad rfl (em rfl h6))) ?_)
     refine Bt (row := TKnot.row) (AN (e_t (em rfl eh)) Bo) (e_t eh) hr TKnot.row_eq (fun _ => rfl) (fun v9 hr => ?_)
     refine No (e_t eh) (by rfl) ?_
     refine BF (e_t eh) (by rfl) ?_
     refine I2 (e_t eh) ?_
     refine Ap (e_t eh) e_c (B6 ?_)
     refine Ab (e_t eh) ?_
     refine Ar eh hr (fun hr => ?_) (fun hr => ?_)
     · refine Ah eh (Ah (em rfl eh) (Ah (Ac rfl eh) (Ah (Ac rfl (em rfl eh)) (Ah (Ad rfl eh) (Ah (Ad rfl (em rfl eh)) ?_)))))
       refine Ah (Ad rfl (Ac rfl eh)) (Am (e_t (Ad rfl (Ac rfl (em rfl eh)))) e_c (Aa ?_))
       exact ⟨true, hr, (Ai rfl (Ad rfl (em rfl h1))), (Ai rfl (Ad rfl (em rfl h6))), eh, rfl⟩
     refine Aj eh (Ab (e_t (Ak rfl (Ad rfl (em rfl h1)))) (Aj (em rfl eh) (Ab (e_t (Ak rfl (Ad rfl (Ac rfl h6)))) (Aj (Ac rfl eh) ?_))))
     refine Bt (row := TKnot.row) (AN (e_t (em rfl eh)) Bo) (e_t eh) hr TKnot.row_eq (fun _ => rfl) (fun v10 hr => ?_)
     refine Aj (Ac rfl (em rfl eh)) ?_
     refine No (e_t eh) (by rfl) ?_
     refine Aj (Ad rfl eh) ?_
     refine BF (e_t eh) (by rfl) ?_
     refine Aj (Ad rfl (em rfl eh)) ?_
     refine I2 (e_t eh) ?_
     refine Aj (Ad rfl (Ac rfl eh)) ?_
     refine Ap (e_t eh) e_c (B6 ?_)
     refine An (e_t (Ad rfl (Ac rfl (em rfl eh)))) (e_t eh) (Aa ?_)
     exact ⟨(decide ((100 : Int) < (v10.Src.size : Int))), hr, (Ai rfl (Ad rfl (em rfl h1))), (Ai rfl (Ad rfl (em rfl h6))), eh, rfl⟩
   rintro f st' ⟨v13, hr, h1, h6, h77, rfl⟩
   rw [GX] at hr
   refine AB (e_t h77) hr (fun hr => ?_) (fun hr => ?_)
   · refine Al (Af ?_)
     unfold AB7
     refine Ab e_c (Aa (Ae (AH (Ay ?_))))
     refine Bw ?_
     refine Ay (Ay ?_)
     refine Bw ?_
     refine Ay ?_
     cases hr
     exact A5 (AE eh AG) (AK AF v_d) (As hwf) h
   refine AM (Ae (Al (Af ?_)))
   unfold Av8
   refine Ab e_c (Aa (Ae ?_))
   refine A3 ?_
   refine Cy (fun m f st' => ∃ (v14 : Int), B9 p1 q0 v8 m v14 = some r ∧ f 1 = (.d (.sl (List.map TKnot.row p1))) ∧ f 6 = (.d (.int .i64 v8)) ∧ f 7 = (.d (.int .i64 v14)) ∧ st' = st ++ []) n (Ghost.refl _) ⟨(0 : Int), hr, (em rfl h1), (em rfl h6), eh, rfl⟩ ?_
   rintro m f st' ⟨v14, hr, h1, h6, h7, rfl⟩
   cases m with
   | zero => cases hr
   | succ m_1 =>
     rw [B9] at hr
     generalize hrec_1 : B9 p1 q0 v8 m_1 = q1 at hr
     rw [IK] at hr
     unfold Ax4
     refine Al (Al (Af ?_))
     unfold AL6
     refine Ab (e_t h7) (Ab (e_t (em rfl h1)) (Ab (e_t (Ac rfl h6)) ?_))
     refine Bt (row := TKnot.row) (AN (e_t (em rfl eh)) Bo) (e_t eh) hr TKnot.row_eq (fun _ => rfl) (fun v15 hr => ?_)
     refine No (e_t eh) (by rfl) ?_
     refine BF (e_t eh) (by rfl) ?_
     refine Bc (row := rS) (AN (e_t eh) Bo) ?_
     refine Ap (e_t (Ad rfl (Ac rfl eh))) (e_t eh) (Da ?_)
     refine Aa (Ae ?_)
     refine AB (e_t eh) hr (fun hr => ?_) (fun hr => ?_)
     rotate_left
     · refine Dj ?_
       refine A8 ?_
       refine A8 ?_
       refine Fo ?_
       refine BQ ?_
       refine Ae (Af ?_)
       unfold AG7
       refine Ab (e_t (Ad rfl (Ad rfl h6))) ?_
       refine Ap (e_t eh) e_c (B4 ?_)
       refine Ab (e_t eh) (Aa (Ae ?_))
       exact ⟨m_0, _, Nat.lt_succ_self m_0, Ghost.refl _, (IntKind.wrap .i64 (v8 + (1 : Int))), (by rw [hrec_0]; exact hr), (Ak rfl (Ac rfl (em rfl h1))), eh, rfl⟩
     refine AM (Ae (Al ?_))
     refine A3 ?_
     refine Al (Af ?_)
     unfold AB6
     refine Ab (e_t (Ad rfl (Ad rfl h1))) (Ab (e_t (Ak rfl (em rfl h6))) ?_)
     refine Bt (row := TKnot.row) (AN (e_t (em rfl eh)) Bo) (e_t eh) hr TKnot.row_eq (fun _ => rfl) (fun v16 hr => ?_)
     refine No (e_t eh) (by rfl) ?_
     refine BF (e_t eh) (by rfl) ?_
     refine Ab (e_t (Ak rfl (Ad rfl (em rfl h7)))) ?_
     refine Bt (row := rS) (AN (e_t (em rfl eh)) Bo) (e_t eh) hr (fun _ => rfl) (fun _ => rfl) (fun v17 hr => ?_)
     refine BF (e_t eh) (by rfl) ?_
     refine I2 (e_t eh) ?_
     refine Ap (e_t eh) e_c (B6 ?_)
     refine Aa (Ae ?_)
     refine AB (e_t eh) hr (fun hr => ?_) (fun hr => ?_)
     rotate_left
     · refine AM ?_
       refine BQ ?_
       refine Ae (Af ?_)
       unfold Aw6
       refine Ab (e_t (Ai rfl (Ac rfl h7))) ?_
       refine Ap (e_t eh) e_c (B4 ?_)
       refine Ab (e_t eh) (Aa (Ae ?_))
       exact ⟨m_1, _, Nat.lt_succ_self m_1, Ghost.refl _, (IntKind.wrap .i64 (v14 + (1 : Int))), (by rw [hrec_1]; exact hr), (Ai rfl (Ad rfl (em rfl h1))), (Ai rfl (Ad rfl (em rfl h6))), eh, rfl⟩
     refine Al (Af ?_)
     unfold Az2
     refine Ab e_c (Aa (Ae (AH ?_)))
     refine Bw ?_
     refine Ay (Ay ?_)
     refine Bw ?_
     refine Bw ?_
     refine Ay (Ay ?_)
     refine Bw ?_
     refine Ay ?_
     cases hr
     exact A5 (AE eh AG) (AK AF v_d) (As hwf) h
def HT (p0 : Int) (p1 : Int) : Option Int :=
 (bif (decide (p1 = (0 : Int))) then some (-1) else ((Br2 (decide ((IntKind.wrap .u64 p1) ≠ 0))).bind fun _ => some (IntKind.wrap .i64 ((IntKind.wrap .i64 (p1 - (1 : Int))) - (IntKind.wrap .i64 (Int.tmod (IntKind.wrap .u64 p0) (IntKind.wrap .u64 p1)))))))
theorem Bd6 (p0 : Int) (p1 : Int) {r : Int} (hr : HT p0 p1 = some r) {K : PV → List Content → Prop} (h : K (.d (.int .i64 r)) st) : Aw PR Am9 [(.d (.int .i64 p0)), (.d (.int .i64 p1))] st K := by
 refine Aw.of Cc8 (Nat.le_of_ble_eq_true rfl) fun hwf => ?_
 rw [ED]
 refine AS ?_
 unfold BO6
 rw [HT] at hr
 refine Al (Af ?_)
 unfold Bh5
 refine Ab e_c (Aa (Ae (Al (Al (Af ?_)))))
 unfold Bm6
 refine Ab (e_t (Ac rfl eh)) ?_
 refine Ap (e_t eh) e_c (Ci ?_)
 refine Aa (Ae ?_)
 refine AB (e_t eh) hr (fun hr => ?_) (fun hr => ?_)
 · refine Al (Af ?_)
   unfold Bm0
   refine Ab e_c (Aa (Ae (AH (Ay ?_))))
   cases hr
   exact A5 (AE eh AG) (AK AF v_d) (As hwf) h
 refine AM (Ae (Al (Af ?_)))
 unfold Bl3
 refine Ab (e_t (Ad rfl eh)) ?_
 refine Ap (e_t eh) e_c (BA1 ?_)
 refine Ab (e_t (Ad rfl (em rfl eh))) ?_
 refine An2 (e_t eh) ?_
 refine Ab (e_t (Ad rfl (Ad rfl eh))) ?_
 refine An2 (e_t eh) ?_
 refine Ap (e_t (Ac rfl eh)) (e_t eh) (BZ5 hr (fun hr => ?_))
 refine An2 (e_t eh) ?_
 refine Ap (e_t (Ad rfl (Ac rfl eh))) (e_t eh) (BA1 ?_)
 refine Ab (e_t eh) (Aa (Ae (AH ?_)))
 cases hr
 exact A5 (AE eh AG) (AK AF v_d) (As hwf) h
def SZ (p0 : Int) (p1 : Int) (v2 : Bool) : (Int × Int) :=
 (bif v2 then ((1000 : Int), (1000 : Int)) else (p0, p1))
def DI (p0 : Int) (p1 : Int) : (Int × Int) :=
 (bif (decide ((1000 : Int) ≤ p0)) then (SZ p0 p1 true) else (SZ p0 p1 (decide ((1000 : Int) ≤ p1))))
theorem Bw0 (p0 : Int) (p1 : Int) {r : (Int × Int)} (hr : DI p0 p1 = r) {K : PV → List Content → Prop} (h : K (.tup [(.d (.int .i64 r.1)), (.d (.int .i64 r.2))]) st) : Aw PR Ax5 [(.d (.int .i64 p0)), (.d (.int .i64 p1))] st K := by
 refine Aw.of Cd2 (Nat.le_of_ble_eq_true rfl) fun hwf => ?_
 rw [ED]
 refine AS ?_
 unfold BP9
 rw [DI] at hr
 refine Al (Af ?_)
 unfold Bg7
 refine Ab e_c (Ab e_c (Aa (Ae (Al ?_))))
 refine BL (fun f st' => ∃ (v2 : Bool), SZ p0 p1 v2 = r ∧ f 0 = (.d (.int .i64 p0)) ∧ f 1 = (.d (.int .i64 p1)) ∧ f 11 = (.d (.bool v2)) ∧ st' = st ++ []) ?_ ?_
 · refine Af ?_
   unfold Bj9
   refine Ab (e_t (Ac rfl eh)) ?_
   refine Ap (e_t eh) e_c (E5 ?_)
   refine Ab (e_t eh) ?_
   refine Ar eh hr (fun hr => ?_) (fun hr => ?_)
   · refine Ah eh (Ah (em rfl eh) (Am (e_t (Ac rfl eh)) e_c (Aa (Ae ?_))))
     exact ⟨true, hr, (Ak rfl (em rfl eh)), (Ak rfl (Ac rfl eh)), eh, rfl⟩
   refine Aj eh (Ab (e_t (Ad rfl (Ac rfl (em rfl eh)))) (Aj (em rfl eh) ?_))
   refine Ap (e_t eh) e_c (E5 ?_)
   refine An (e_t (Ac rfl eh)) (e_t eh) (Aa (Ae ?_))
   exact ⟨(decide ((1000 : Int) ≤ p1)), hr, (Ak rfl (em rfl eh)), (Ak rfl (Ac rfl eh)), eh, rfl⟩
 rintro f st' ⟨v2, hr, h0, h1, h11, rfl⟩
 rw [SZ] at hr
 refine AB (e_t h11) hr (fun hr => ?_) (fun hr => ?_)
 · refine Al (Af ?_)
   unfold Bj5
   refine Ab e_c (Ab e_c (Aa (Ae (AH (Ay ?_)))))
   subst hr
   exact A5 (AE (em rfl eh) (AE eh AG)) (JU (Bm G8 (Bm G8 JW)) rfl) (As hwf) h
 refine AM (Ae (Al (Af ?_)))
 unfold Bm3
 refine Ab (e_t h0) (Ab (e_t (em rfl h1)) (Ab (e_t (em rfl eh)) (Ab (e_t (em rfl eh)) (Aa (Ae ?_)))))
 refine AH ?_
 subst hr
 exact A5 (AE (em rfl eh) (AE eh AG)) (JU (Bm G8 (Bm G8 JW)) rfl) (As hwf) h
end Go.Ax
