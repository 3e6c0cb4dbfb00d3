import Derived.Test.YtojkpenjeglipaaIYT
import Derived.Test.YtojkpenjeglipaaICVX
import Derived.Test.YtojkpenjeglipaaICPrim
set_option linter.unusedVariables false
set_option linter.unusedSimpArgs false
namespace Go.Ax
attribute [local irreducible] BL ER FD Bf CF Fz B6 KZ HX upd ev u0 Dt frz A6 EB mmD bnd BV Ft Do CO GU Ht G2 cutV I1 Cv
variable {st : List Content}
def HR (p1 : (List TKnot)) (q0 : Int → Option Bool) (v8 : Int) (q1 : Int → Option Bool) (v14 : Int) : Option Bool :=
 ((Dh p1 v8).bind fun v15 => (bif (decide (v14 < (v15.Cols.length : Int))) then ((Dh p1 v8).bind fun v16 => ((Dh v16.Cols v14).bind fun v17 => (bif (decide ((100 : Int) < (v17.size : Int))) then some true else q1 (IntKind.wrap .i64 (v14 + (1 : Int)))))) else q0 (IntKind.wrap .i64 (v8 + (1 : Int)))))
def Cp (p1 : (List TKnot)) (q0 : Int → Option Bool) (v8 : Int) : Nat → Int → Option Bool
 | 0, _ => none
 | m + 1, v14 => HR p1 q0 v8 (Cp p1 q0 v8 m) v14
def Gz (p1 : (List TKnot)) (n : Nat) (q0 : Int → Option Bool) (v8 : Int) (v13 : Bool) : Option Bool :=
 (bif v13 then some true else (Cp p1 q0 v8 n (0 : Int)))
def GD (p1 : (List TKnot)) (n : Nat) (q0 : Int → Option Bool) (v8 : Int) (v11 : Bool) : Option Bool :=
 (bif v11 then (Gz p1 n q0 v8 true) else ((Dh p1 v8).bind fun v12 => (Gz p1 n q0 v8 (decide ((12 : Int) < (v12.Cols.length : Int))))))
def HS (p1 : (List TKnot)) (n : Nat) (q0 : Int → Option Bool) (v8 : Int) : Option Bool :=
 (bif (decide (v8 < (p1.length : Int))) then ((Dh p1 v8).bind fun v9 => (bif (decide ((100 : Int) < (v9.Name.size : Int))) then (GD p1 n q0 v8 true) else ((Dh p1 v8).bind fun v10 => (GD p1 n q0 v8 (decide ((100 : Int) < (v10.Src.size : Int))))))) else some false)
def Bv (p1 : (List TKnot)) (n : Nat) : Nat → Int → Option Bool
 | 0, _ => none
 | m + 1, v8 => HS p1 n (Bv p1 n m) v8
def Hr (p1 : (List TKnot)) (n : Nat) : Option Bool :=
 (Bv p1 n n (0 : Int))
def Gu (p0 : (List TLeaf)) (v3 : Int) (q2 : Int → Option Bool) (v6 : Bool) : Option Bool :=
 (bif v6 then some true else ((Dh p0 v3).bind fun v7 => (bif (decide ((100 : Int) < (v7.Src.size : Int))) then some true else q2 (IntKind.wrap .i64 (v3 + (1 : Int))))))
def HN (p0 : (List TLeaf)) (p1 : (List TKnot)) (n : Nat) (q2 : Int → Option Bool) (v3 : Int) : Option Bool :=
 (bif (decide (v3 < (p0.length : Int))) then ((Dh p0 v3).bind fun v4 => (bif (decide ((300 : Int) < (v4.S.size : Int))) then (Gu p0 v3 q2 true) else ((Dh p0 v3).bind fun v5 => (Gu p0 v3 q2 (decide ((100 : Int) < (v5.Name.size : Int))))))) else (Hr p1 n))
def CN (p0 : (List TLeaf)) (p1 : (List TKnot)) (n : Nat) : Nat → Int → Option Bool
 | 0, _ => none
 | m + 1, v3 => HN p0 p1 n (CN p0 p1 n m) v3
def Ff (p0 : (List TLeaf)) (p1 : (List TKnot)) (n : Nat) (v2 : Bool) : Option Bool :=
 (bif v2 then some true else (CN p0 p1 n n (0 : Int)))
def Ke (n : Nat) (p0 : (List TLeaf)) (p1 : (List TKnot)) : Option Bool :=
 (bif (decide ((50 : Int) < (p0.length : Int))) then (Ff p0 p1 n true) else (Ff p0 p1 n (decide ((50 : Int) < (p1.length : Int)))))
set_option maxRecDepth 100000 in
set_option maxHeartbeats 4000000 in
theorem AI0 (n : Nat) (p0 : (List TLeaf)) (p1 : (List TKnot)) {r : Bool} (hr : Ke n p0 p1 = some r) {K : PV → List Content → Prop} (h : K (.d (.bool r)) st) : Aw PR Yq [(.d (.sl (List.map TLeaf.row p0))), (.d (.sl (List.map TKnot.row p1)))] st K := by
 refine Aw.of AE5 (Nat.le_of_ble_eq_true rfl) fun hwf => ?_
 rw [DX]
 refine AQ ?_
 unfold Aq8
 rw [Ke] at hr
 refine Al (Af ?_)
 unfold WS
 refine Ab e_c (Aa (Ae (Al ?_)))
 refine BD (fun f st' => ∃ (v2 : Bool), Ff p0 p1 n v2 = some r ∧ f 0 = (.d (.sl (List.map TLeaf.row p0))) ∧ f 1 = (.d (.sl (List.map TKnot.row p1))) ∧ f 15 = (.d (.bool v2)) ∧ st' = st ++ []) ?_ ?_
 · refine Af ?_
   unfold WL
   refine Ab (e_t (em rfl eh)) ?_
   refine Bh (row := TLeaf.row) (AL (e_t eh) Bq) ?_
   refine Ar (e_t eh) e_c (C8 ?_)
   refine Ab (e_t eh) ?_
   refine Au eh hr (fun hr => ?_) (fun hr => ?_)
   · refine Ah eh (Ah (em rfl eh) (Ah (Ac rfl eh) (An (e_t (Ac rfl (em rfl eh))) e_c (Aa (Ae ?_)))))
     exact ⟨true, hr, (Ak rfl (Ac rfl eh)), (Ak rfl (Ac rfl (em rfl eh))), eh, rfl⟩
   refine Aj eh (Ab (e_t (Ad rfl (Ac rfl (em rfl eh)))) (Aj (em rfl eh) ?_))
   refine Bh (row := TKnot.row) (AL (e_t eh) Bq) ?_
   refine Aj (Ac rfl eh) ?_
   refine Ar (e_t eh) e_c (C8 ?_)
   refine Ao (e_t (Ac rfl (em rfl eh))) (e_t eh) (Aa (Ae ?_))
   exact ⟨(decide ((50 : Int) < (p1.length : Int))), hr, (Ak rfl (Ac rfl eh)), (Ak rfl (Ac rfl (em rfl eh))), eh, rfl⟩
 rintro f st' ⟨v2, hr, h0, h1, h15, rfl⟩
 rw [Ff] at hr
 refine AC (e_t h15) hr (fun hr => ?_) (fun hr => ?_)
 · refine Al (Af ?_)
   unfold V8
   refine Ab e_c (Aa (Ae (AI (AA ?_))))
   cases hr
   exact A7 (AF eh AH) (AM AG v_d) (Av hwf) h
 refine AN (Ae ?_)
 refine BD (fun f st' => Hr p1 n = some r ∧ f 1 = (.d (.sl (List.map TKnot.row p1))) ∧ st' = st ++ []) ?_ ?_
 · refine Al (Af ?_)
   unfold Wp
   refine Ab e_c (Aa (Ae ?_))
   refine AX ?_
   refine Ca (fun m f st' => ∃ (v3 : Int), CN p0 p1 n m v3 = some r ∧ f 0 = (.d (.sl (List.map TLeaf.row p0))) ∧ f 1 = (.d (.sl (List.map TKnot.row p1))) ∧ f 5 = (.d (.int .i64 v3)) ∧ st' = st ++ []) n (Ghost.refl _) ⟨(0 : Int), hr, (em rfl h0), (em rfl h1), eh, rfl⟩ ?_
   rintro m f st' ⟨v3, hr, h0, h1, h5, rfl⟩
   cases m with
   | zero => cases hr
   | succ m_2 =>
     rw [CN] at hr
     generalize hrec_2 : CN p0 p1 n m_2 = q2 at hr
     rw [HN] at hr
     unfold Wq
     refine Al (Al (Af ?_))
     unfold V4
     refine Ab (e_t h5) (Ab (e_t (em rfl h0)) ?_)
     refine Bh (row := TLeaf.row) (AL (e_t eh) Bq) ?_
     refine Ar (e_t (Ac rfl eh)) (e_t eh) (CL ?_)
     refine Aa (Ae ?_)
     refine AC (e_t eh) hr (fun hr => ?_) (fun hr => ?_)
     rotate_left
     · refine CP ?_
       refine A0 ?_
       refine A0 ?_
       refine Ea ?_
       refine Ae ?_
       exact ⟨hr, (Ad rfl h1), rfl⟩
     refine AN (Ae (Al ?_))
     refine AX ?_
     refine Al (Af ?_)
     unfold WC
     refine Bb (fun f st' => ∃ (v6 : Bool), Gu p0 v3 q2 v6 = some r ∧ f 0 = (.d (.sl (List.map TLeaf.row p0))) ∧ f 1 = (.d (.sl (List.map TKnot.row p1))) ∧ f 5 = (.d (.int .i64 v3)) ∧ f 37 = (.d (.bool v6)) ∧ st' = st ++ []) ?_ ?_
     · unfold RE
       refine Ab (e_t (Ad rfl h0)) (Ab (e_t (Ad rfl (em rfl h5))) ?_)
       refine Bt (row := TLeaf.row) (AL (e_t (em rfl eh)) Bq) (e_t eh) hr TLeaf.row_eq (fun _ => rfl) (fun v4 hr => ?_)
       refine MV (e_t eh) (by exact rfl) ?_
       refine BG (e_t eh) (by exact rfl) ?_
       refine H4 (e_t eh) ?_
       refine Ar (e_t eh) e_c (C8 ?_)
       refine Ab (e_t eh) ?_
       refine Au eh hr (fun hr => ?_) (fun hr => ?_)
       · refine Ah eh (Ah (em rfl eh) (Ah (Ac rfl eh) (Ah (Ac rfl (em rfl eh)) (Ah (Ad rfl eh) (Ah (Ad rfl (em rfl eh)) ?_)))))
         refine Ah (Ad rfl (Ac rfl eh)) (An (e_t (Ad rfl (Ac rfl (em rfl eh)))) e_c (Aa ?_))
         exact ⟨true, hr, (Ai rfl (Ad rfl (em rfl h0))), (Ai rfl (Ad rfl (em rfl h1))), (Ai rfl (Ad rfl (em rfl h5))), eh, rfl⟩
       refine Aj eh (Ab (e_t (Ak rfl (Ad rfl (em rfl h0)))) (Aj (em rfl eh) (Ab (e_t (Ak rfl (Ad rfl (Ac rfl h5)))) (Aj (Ac rfl eh) ?_))))
       refine Bt (row := TLeaf.row) (AL (e_t (em rfl eh)) Bq) (e_t eh) hr TLeaf.row_eq (fun _ => rfl) (fun v5 hr => ?_)
       refine Aj (Ac rfl (em rfl eh)) ?_
       refine MV (e_t eh) (by exact rfl) ?_
       refine Aj (Ad rfl eh) ?_
       refine BG (e_t eh) (by exact rfl) ?_
       refine Aj (Ad rfl (em rfl eh)) ?_
       refine H4 (e_t eh) ?_
       refine Aj (Ad rfl (Ac rfl eh)) ?_
       refine Ar (e_t eh) e_c (C8 ?_)
       refine Ao (e_t (Ad rfl (Ac rfl (em rfl eh)))) (e_t eh) (Aa ?_)
       exact ⟨(decide ((100 : Int) < (v5.Name.size : Int))), hr, (Ai rfl (Ad rfl (em rfl h0))), (Ai rfl (Ad rfl (em rfl h1))), (Ai rfl (Ad rfl (em rfl h5))), eh, rfl⟩
     rintro f st' ⟨v6, hr, h0, h1, h5, h37, rfl⟩
     rw [Gu] at hr
     unfold RL
     refine Ab (e_t h37) ?_
     refine Au eh hr (fun hr => ?_) (fun hr => ?_)
     · refine Ah eh (Ah (em rfl eh) (Ah (Ac rfl eh) (Ah (Ac rfl (em rfl eh)) (Ah (Ad rfl eh) (Ah (Ad rfl (em rfl eh)) ?_)))))
       refine Ah (Ad rfl (Ac rfl eh)) (An (e_t (Ad rfl (Ac rfl (em rfl eh)))) e_c (Aa (Ae ?_)))
       refine Dz (e_t eh) ?_
       refine Al (Af ?_)
       unfold Qy
       refine Ab e_c (Aa (Ae (AI ?_)))
       refine BE ?_
       refine AA (AA ?_)
       refine BE ?_
       refine AA ?_
       cases hr
       exact A7 (AF eh AH) (AM AG v_d) (Av hwf) h
     refine Aj eh (Ab (e_t (Ac rfl h0)) (Aj (em rfl eh) (Ab (e_t (Ac rfl (em rfl h5))) (Aj (Ac rfl eh) ?_))))
     refine Bt (row := TLeaf.row) (AL (e_t (em rfl eh)) Bq) (e_t eh) hr TLeaf.row_eq (fun _ => rfl) (fun v7 hr => ?_)
     refine Aj (Ac rfl (em rfl eh)) ?_
     refine MV (e_t eh) (by exact rfl) ?_
     refine Aj (Ad rfl eh) ?_
     refine BG (e_t eh) (by exact rfl) ?_
     refine Aj (Ad rfl (em rfl eh)) ?_
     refine H4 (e_t eh) ?_
     refine Aj (Ad rfl (Ac rfl eh)) ?_
     refine Ar (e_t eh) e_c (C8 ?_)
     refine Ao (e_t (Ad rfl (Ac rfl (em rfl eh)))) (e_t eh) (Aa (Ae ?_))
     refine AC (e_t eh) hr (fun hr => ?_) (fun hr => ?_)
     rotate_left
     · refine AN ?_
       refine BA ?_
       refine Ae (Af ?_)
       unfold W4
       refine Ab (e_t (Ak rfl (Ac rfl h5))) ?_
       refine Ar (e_t eh) e_c (BX ?_)
       refine Ab (e_t eh) (Aa (Ae ?_))
       exact ⟨m_2, _, Nat.lt_succ_self m_2, Ghost.refl _, (IntKind.wrap .i64 (v3 + (1 : Int))), (by rw [hrec_2]; exact hr), (Ak rfl (Ad rfl (em rfl h0))), (Ak rfl (Ad rfl (em rfl h1))), eh, rfl⟩
     refine Al (Af ?_)
     unfold Qy
     refine Ab e_c (Aa (Ae (AI ?_)))
     refine BE ?_
     refine AA (AA ?_)
     refine BE ?_
     refine AA ?_
     cases hr
     exact A7 (AF eh AH) (AM AG v_d) (Av hwf) h
 rintro f st' ⟨hr, h1, rfl⟩
 rw [Hr] at hr
 refine Al (Al (Af ?_))
 unfold VO
 refine Ab e_c (Aa (Ae ?_))
 refine AX ?_
 refine Ca (fun m f st' => ∃ (v8 : Int), Bv p1 n m v8 = some r ∧ f 1 = (.d (.sl (List.map TKnot.row p1))) ∧ f 6 = (.d (.int .i64 v8)) ∧ st' = st ++ []) n (Ghost.refl _) ⟨(0 : Int), hr, (em rfl h1), eh, rfl⟩ ?_
 rintro m f st' ⟨v8, hr, h1, h6, rfl⟩
 cases m with
 | zero => cases hr
 | succ m_0 =>
   rw [Bv] at hr
   generalize hrec_0 : Bv p1 n m_0 = q0 at hr
   rw [HS] at hr
   unfold TQ
   refine Al (Al (Af ?_))
   unfold To
   refine Ab (e_t h6) (Ab (e_t (em rfl h1)) ?_)
   refine Bh (row := TKnot.row) (AL (e_t eh) Bq) ?_
   refine Ar (e_t (Ac rfl eh)) (e_t eh) (CL ?_)
   refine Aa (Ae ?_)
   refine AC (e_t eh) hr (fun hr => ?_) (fun hr => ?_)
   rotate_left
   · refine CP ?_
     refine A0 ?_
     refine A0 ?_
     refine Ea ?_
     refine Ae (Al (Af ?_))
     unfold TV
     refine Ab e_c (Aa (Ae (AI ?_)))
     cases hr
     exact A7 (AF eh AH) (AM AG v_d) (Av hwf) h
   refine AN (Ae (Al ?_))
   refine AX ?_
   refine Al ?_
   refine BD (fun f st' => ∃ (v13 : Bool), Gz p1 n q0 v8 v13 = some r ∧ f 1 = (.d (.sl (List.map TKnot.row p1))) ∧ f 6 = (.d (.int .i64 v8)) ∧ f 77 = (.d (.bool v13)) ∧ st' = st ++ []) ?_ ?_
   · refine Af ?_
     unfold TW
     refine Bb (fun f st' => ∃ (v11 : Bool), GD p1 n q0 v8 v11 = some r ∧ f 1 = (.d (.sl (List.map TKnot.row p1))) ∧ f 6 = (.d (.int .i64 v8)) ∧ f 68 = (.d (.bool v11)) ∧ st' = st ++ []) ?_ ?_
     rotate_left
     · rintro f st' ⟨v11, hr, h1, h6, h68, rfl⟩
       rw [GD] at hr
       unfold PY
       refine Ab (e_t h68) ?_
       refine Au eh hr (fun hr => ?_) (fun hr => ?_)
       · refine Ah eh (Ah (em rfl eh) (Ah (Ac rfl eh) (Ah (Ac rfl (em rfl eh)) (Ah (Ad rfl eh) (Ah (Ad rfl (em rfl eh)) ?_)))))
         refine Ah (Ad rfl (Ac rfl eh)) (An (e_t (Ad rfl (Ac rfl (em rfl eh)))) e_c (Aa (Ae ?_)))
         exact ⟨true, hr, (Ak rfl (Ac rfl h1)), (Ak rfl (Ac rfl h6)), eh, rfl⟩
       refine Aj eh (Ab (e_t (Ac rfl h1)) (Aj (em rfl eh) (Ab (e_t (Ac rfl (em rfl h6))) (Aj (Ac rfl eh) ?_))))
       refine Bt (row := TKnot.row) (AL (e_t (em rfl eh)) Bq) (e_t eh) hr TKnot.row_eq (fun _ => rfl) (fun v12 hr => ?_)
       refine Aj (Ac rfl (em rfl eh)) ?_
       refine MV (e_t eh) (by exact rfl) ?_
       refine Aj (Ad rfl eh) ?_
       refine BG (e_t eh) (by exact rfl) ?_
       refine Aj (Ad rfl (em rfl eh)) ?_
       refine Bh (row := rS) (AL (e_t eh) Bq) ?_
       refine Aj (Ad rfl (Ac rfl eh)) ?_
       refine Ar (e_t eh) e_c (C8 ?_)
       refine Ao (e_t (Ad rfl (Ac rfl (em rfl eh)))) (e_t eh) (Aa (Ae ?_))
       exact ⟨(decide ((12 : Int) < (v12.Cols.length : Int))), hr, (Ak rfl (Ac rfl h1)), (Ak rfl (Ac rfl h6)), eh, rfl⟩
     unfold Rd
     refine Ab (e_t (Ad rfl h1)) (Ab (e_t (Ad rfl (em rfl h6))) ?_)
     refine Bt (row := TKnot.row) (AL (e_t (em rfl eh)) Bq) (e_t eh) hr TKnot.row_eq (fun _ => rfl) (fun v9 hr => ?_)
     refine MV (e_t eh) (by exact rfl) ?_
     refine BG (e_t eh) (by exact rfl) ?_
     refine H4 (e_t eh) ?_
     refine Ar (e_t eh) e_c (C8 ?_)
     refine Ab (e_t eh) ?_
     refine Au eh hr (fun hr => ?_) (fun hr => ?_)
     · refine Ah eh (Ah (em rfl eh) (Ah (Ac rfl eh) (Ah (Ac rfl (em rfl eh)) (Ah (Ad rfl eh) (Ah (Ad rfl (em rfl eh)) ?_)))))
       refine Ah (Ad rfl (Ac rfl eh)) (An (e_t (Ad rfl (Ac rfl (em rfl eh)))) e_c (Aa ?_))
       exact ⟨true, hr, (Ai rfl (Ad rfl (em rfl h1))), (Ai rfl (Ad rfl (em rfl h6))), eh, rfl⟩
     refine Aj eh (Ab (e_t (Ak rfl (Ad rfl (em rfl h1)))) (Aj (em rfl eh) (Ab (e_t (Ak rfl (Ad rfl (Ac rfl h6)))) (Aj (Ac rfl eh) ?_))))
     refine Bt (row := TKnot.row) (AL (e_t (em rfl eh)) Bq) (e_t eh) hr TKnot.row_eq (fun _ => rfl) (fun v10 hr => ?_)
     refine Aj (Ac rfl (em rfl eh)) ?_
     refine MV (e_t eh) (by exact rfl) ?_
     refine Aj (Ad rfl eh) ?_
     refine BG (e_t eh) (by exact rfl) ?_
     refine Aj (Ad rfl (em rfl eh)) ?_
     refine H4 (e_t eh) ?_
     refine Aj (Ad rfl (Ac rfl eh)) ?_
     refine Ar (e_t eh) e_c (C8 ?_)
     refine Ao (e_t (Ad rfl (Ac rfl (em rfl eh)))) (e_t eh) (Aa ?_)
     exact ⟨(decide ((100 : Int) < (v10.Src.size : Int))), hr, (Ai rfl (Ad rfl (em rfl h1))), (Ai rfl (Ad rfl (em rfl h6))), eh, rfl⟩
   rintro f st' ⟨v13, hr, h1, h6, h77, rfl⟩
   rw [Gz] at hr
   refine AC (e_t h77) hr (fun hr => ?_) (fun hr => ?_)
   · refine Al (Af ?_)
     unfold TY
     refine Ab e_c (Aa (Ae (AI (AA ?_))))
     refine BE ?_
     refine AA (AA ?_)
     refine BE ?_
     refine AA ?_
     cases hr
     exact A7 (AF eh AH) (AM AG v_d) (Av hwf) h
   refine AN (Ae (Al (Af ?_)))
   unfold Tz
   refine Ab e_c (Aa (Ae ?_))
   refine AX ?_
   refine Ca (fun m f st' => ∃ (v14 : Int), Cp p1 q0 v8 m v14 = some r ∧ f 1 = (.d (.sl (List.map TKnot.row p1))) ∧ f 6 = (.d (.int .i64 v8)) ∧ f 7 = (.d (.int .i64 v14)) ∧ st' = st ++ []) n (Ghost.refl _) ⟨(0 : Int), hr, (em rfl h1), (em rfl h6), eh, rfl⟩ ?_
   rintro m f st' ⟨v14, hr, h1, h6, h7, rfl⟩
   cases m with
   | zero => cases hr
   | succ m_1 =>
     rw [Cp] at hr
     generalize hrec_1 : Cp p1 q0 v8 m_1 = q1 at hr
     rw [HR] at hr
     unfold T9
     refine Al (Al (Af ?_))
     unfold TR
     refine Ab (e_t h7) (Ab (e_t (em rfl h1)) (Ab (e_t (Ac rfl h6)) ?_))
     refine Bt (row := TKnot.row) (AL (e_t (em rfl eh)) Bq) (e_t eh) hr TKnot.row_eq (fun _ => rfl) (fun v15 hr => ?_)
     refine MV (e_t eh) (by exact rfl) ?_
     refine BG (e_t eh) (by exact rfl) ?_
     refine Bh (row := rS) (AL (e_t eh) Bq) ?_
     refine Ar (e_t (Ad rfl (Ac rfl eh))) (e_t eh) (CL ?_)
     refine Aa (Ae ?_)
     refine AC (e_t eh) hr (fun hr => ?_) (fun hr => ?_)
     rotate_left
     · refine CP ?_
       refine A0 ?_
       refine A0 ?_
       refine Ea ?_
       refine BA ?_
       refine Ae (Af ?_)
       unfold Tr
       refine Ab (e_t (Ad rfl (Ad rfl h6))) ?_
       refine Ar (e_t eh) e_c (BX ?_)
       refine Ab (e_t eh) (Aa (Ae ?_))
       exact ⟨m_0, _, Nat.lt_succ_self m_0, Ghost.refl _, (IntKind.wrap .i64 (v8 + (1 : Int))), (by rw [hrec_0]; exact hr), (Ak rfl (Ac rfl (em rfl h1))), eh, rfl⟩
     refine AN (Ae (Al ?_))
     refine AX ?_
     refine Al (Af ?_)
     unfold Va
     refine Ab (e_t (Ad rfl (Ad rfl h1))) (Ab (e_t (Ak rfl (em rfl h6))) ?_)
     refine Bt (row := TKnot.row) (AL (e_t (em rfl eh)) Bq) (e_t eh) hr TKnot.row_eq (fun _ => rfl) (fun v16 hr => ?_)
     refine MV (e_t eh) (by exact rfl) ?_
     refine BG (e_t eh) (by exact rfl) ?_
     refine Ab (e_t (Ak rfl (Ad rfl (em rfl h7)))) ?_
     refine Bt (row := rS) (AL (e_t (em rfl eh)) Bq) (e_t eh) hr (fun _ => rfl) (fun _ => rfl) (fun v17 hr => ?_)
     refine BG (e_t eh) (by exact rfl) ?_
     refine H4 (e_t eh) ?_
     refine Ar (e_t eh) e_c (C8 ?_)
     refine Aa (Ae ?_)
     refine AC (e_t eh) hr (fun hr => ?_) (fun hr => ?_)
     rotate_left
     · refine AN ?_
       refine BA ?_
       refine Ae (Af ?_)
       unfold TX
       refine Ab (e_t (Ai rfl (Ac rfl h7))) ?_
       refine Ar (e_t eh) e_c (BX ?_)
       refine Ab (e_t eh) (Aa (Ae ?_))
       exact ⟨m_1, _, Nat.lt_succ_self m_1, Ghost.refl _, (IntKind.wrap .i64 (v14 + (1 : Int))), (by rw [hrec_1]; exact hr), (Ai rfl (Ad rfl (em rfl h1))), (Ai rfl (Ad rfl (em rfl h6))), eh, rfl⟩
     refine Al (Af ?_)
     unfold TK
     refine Ab e_c (Aa (Ae (AI ?_)))
     refine BE ?_
     refine AA (AA ?_)
     refine BE ?_
     refine BE ?_
     refine AA (AA ?_)
     refine BE ?_
     refine AA ?_
     cases hr
     exact A7 (AF eh AH) (AM AG v_d) (Av hwf) h
def Hi (p0 : Int) (p1 : Int) : Option Int :=
 (bif (decide (p1 = (0 : Int))) then some (-1) else ((VX (decide ((IntKind.wrap .u64 p1) ≠ 0))).bind fun _ => some (IntKind.wrap .i64 ((IntKind.wrap .i64 (p1 - (1 : Int))) - (IntKind.wrap .i64 (Int.tmod (IntKind.wrap .u64 p0) (IntKind.wrap .u64 p1)))))))
set_option maxRecDepth 100000 in
set_option maxHeartbeats 4000000 in
theorem Xp (p0 : Int) (p1 : Int) {r : Int} (hr : Hi p0 p1 = some r) {K : PV → List Content → Prop} (h : K (.d (.int .i64 r)) st) : Aw PR Rp [(.d (.int .i64 p0)), (.d (.int .i64 p1))] st K := by
 refine Aw.of AL4 (Nat.le_of_ble_eq_true rfl) fun hwf => ?_
 rw [DX]
 refine AQ ?_
 unfold Ay6
 rw [Hi] at hr
 refine Al (Af ?_)
 unfold X4
 refine Ab e_c (Aa (Ae (Al (Al (Af ?_)))))
 unfold YY
 refine Ab (e_t (Ac rfl eh)) ?_
 refine Ar (e_t eh) e_c (BZ ?_)
 refine Aa (Ae ?_)
 refine AC (e_t eh) hr (fun hr => ?_) (fun hr => ?_)
 · refine Al (Af ?_)
   unfold Yx
   refine Ab e_c (Aa (Ae (AI (AA ?_))))
   cases hr
   exact A7 (AF eh AH) (AM AG v_d) (Av hwf) h
 refine AN (Ae (Al (Af ?_)))
 unfold Zf
 refine Ab (e_t (Ad rfl eh)) ?_
 refine Ar (e_t eh) e_c (An6 ?_)
 refine Ab (e_t (Ad rfl (em rfl eh))) ?_
 refine KV (e_t eh) ?_
 refine Ab (e_t (Ad rfl (Ad rfl eh))) ?_
 refine KV (e_t eh) ?_
 refine Ar (e_t (Ac rfl eh)) (e_t eh) (Ax1 hr (fun hr => ?_))
 refine KV (e_t eh) ?_
 refine Ar (e_t (Ad rfl (Ac rfl eh))) (e_t eh) (An6 ?_)
 refine Ab (e_t eh) (Aa (Ae (AI ?_)))
 cases hr
 exact A7 (AF eh AH) (AM AG v_d) (Av hwf) h
def L5 (p0 : Int) (p1 : Int) (v2 : Bool) : (Int × Int) :=
 (bif v2 then ((1000 : Int), (1000 : Int)) else (p0, p1))
def Du (p0 : Int) (p1 : Int) : (Int × Int) :=
 (bif (decide ((1000 : Int) ≤ p0)) then (L5 p0 p1 true) else (L5 p0 p1 (decide ((1000 : Int) ≤ p1))))
set_option maxRecDepth 100000 in
set_option maxHeartbeats 4000000 in
theorem Aj8 (p0 : Int) (p1 : Int) {r : (Int × Int)} (hr : Du p0 p1 = r) {K : PV → List Content → Prop} (h : K (.tup [(.d (.int .i64 r.1)), (.d (.int .i64 r.2))]) st) : Aw PR TH [(.d (.int .i64 p0)), (.d (.int .i64 p1))] st K := by
 refine Aw.of AM5 (Nat.le_of_ble_eq_true rfl) fun hwf => ?_
 rw [DX]
 refine AQ ?_
 unfold Ax2
 rw [Du] at hr
 refine Al (Af ?_)
 unfold Yh
 refine Ab e_c (Ab e_c (Aa (Ae (Al ?_))))
 refine BD (fun f st' => ∃ (v2 : Bool), L5 p0 p1 v2 = r ∧ f 0 = (.d (.int .i64 p0)) ∧ f 1 = (.d (.int .i64 p1)) ∧ f 11 = (.d (.bool v2)) ∧ st' = st ++ []) ?_ ?_
 · refine Af ?_
   unfold Yu
   refine Ab (e_t (Ac rfl eh)) ?_
   refine Ar (e_t eh) e_c (ET ?_)
   refine Ab (e_t eh) ?_
   refine Au eh hr (fun hr => ?_) (fun hr => ?_)
   · refine Ah eh (Ah (em rfl eh) (An (e_t (Ac rfl eh)) e_c (Aa (Ae ?_))))
     exact ⟨true, hr, (Ak rfl (em rfl eh)), (Ak rfl (Ac rfl eh)), eh, rfl⟩
   refine Aj eh (Ab (e_t (Ad rfl (Ac rfl (em rfl eh)))) (Aj (em rfl eh) ?_))
   refine Ar (e_t eh) e_c (ET ?_)
   refine Ao (e_t (Ac rfl eh)) (e_t eh) (Aa (Ae ?_))
   exact ⟨(decide ((1000 : Int) ≤ p1)), hr, (Ak rfl (em rfl eh)), (Ak rfl (Ac rfl eh)), eh, rfl⟩
 rintro f st' ⟨v2, hr, h0, h1, h11, rfl⟩
 rw [L5] at hr
 refine AC (e_t h11) hr (fun hr => ?_) (fun hr => ?_)
 · refine Al (Af ?_)
   unfold Yi
   refine Ab e_c (Ab e_c (Aa (Ae (AI (AA ?_)))))
   subst hr
   exact A7 (AF (em rfl eh) (AF eh AH)) (HE (Br FS (Br FS Hz)) rfl) (Av hwf) h
 refine AN (Ae (Al (Af ?_)))
 unfold YF
 refine Ab (e_t h0) (Ab (e_t (em rfl h1)) (Ab (e_t (em rfl eh)) (Ab (e_t (em rfl eh)) (Aa (Ae ?_)))))
 refine AI ?_
 subst hr
 exact A7 (AF (em rfl eh) (AF eh AH)) (HE (Br FS (Br FS Hz)) rfl) (Av hwf) h
end Go.Ax
