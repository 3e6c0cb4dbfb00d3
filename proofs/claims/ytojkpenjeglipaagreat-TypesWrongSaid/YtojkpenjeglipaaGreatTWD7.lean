import Derived.Test.YtojkpenjeglipaaGreatTWT
import Derived.Test.YtojkpenjeglipaaGreatTCVX
import Derived.Test.YtojkpenjeglipaaGreatTCPrim
set_option linter.unusedVariables false
set_option maxRecDepth 100000
set_option maxHeartbeats 4000000
namespace Go.Ax
attribute [local irreducible] BH FA F2 Bf DM Hp Cq V4 Lz upd ev u0 Dh frz A4 EO mmD bnd Ch Gk DU C2 Ie JH FZ cutV NL CO
variable {st : List Content}
def Kh (p0 : T_api_Catalog) (q0 : Int → Option Bool) (v8 : Int) : Option Bool :=
 (bif (decide (v8 < (p0.Sinks.length : Int))) then ((Dw p0.Sinks v8).bind fun v9 => (bif (decide ((12 : Int) < (v9.Cols.length : Int))) then some true else q0 (IntKind.wrap .i64 (v8 + (1 : Int))))) else some false)
def CA (p0 : T_api_Catalog) : Nat → Int → Option Bool
 | 0, _ => none
 | m + 1, v8 => Kh p0 (CA p0 m) v8
def C1 (p0 : T_api_Catalog) (n : Nat) : Option Bool :=
 (CA p0 n (0 : Int))
def KF (p0 : T_api_Catalog) (n : Nat) (q1 : Int → Option Bool) (v6 : Int) : Option Bool :=
 (bif (decide (v6 < (p0.Streams.length : Int))) then ((Dw p0.Streams v6).bind fun v7 => (bif (decide ((12 : Int) < (v7.Cols.length : Int))) then some true else q1 (IntKind.wrap .i64 (v6 + (1 : Int))))) else (C1 p0 n))
def Cz (p0 : T_api_Catalog) (n : Nat) : Nat → Int → Option Bool
 | 0, _ => none
 | m + 1, v6 => KF p0 n (Cz p0 n m) v6
def C5 (p0 : T_api_Catalog) (n : Nat) : Option Bool :=
 (Cz p0 n n (0 : Int))
def Ko (p0 : T_api_Catalog) (n : Nat) (q2 : Int → Option Bool) (v4 : Int) : Option Bool :=
 (bif (decide (v4 < (p0.Tables.length : Int))) then ((Dw p0.Tables v4).bind fun v5 => (bif (decide ((12 : Int) < (v5.Cols.length : Int))) then some true else q2 (IntKind.wrap .i64 (v4 + (1 : Int))))) else (C5 p0 n))
def Cx (p0 : T_api_Catalog) (n : Nat) : Nat → Int → Option Bool
 | 0, _ => none
 | m + 1, v4 => Ko p0 n (Cx p0 n m) v4
def Bj (p0 : T_api_Catalog) (n : Nat) (v3 : Bool) : Option Bool :=
 (bif v3 then some true else (Cx p0 n n (0 : Int)))
def Bz (p0 : T_api_Catalog) (n : Nat) (v2 : Bool) : Option Bool :=
 (bif v2 then (Bj p0 n true) else (bif (decide ((10 : Int) < (p0.Sinks.length : Int))) then (Bj p0 n true) else (Bj p0 n (decide ((10 : Int) < (p0.Procs.length : Int))))))
def BA (p0 : T_api_Catalog) (n : Nat) (v1 : Bool) : Option Bool :=
 (bif v1 then (Bz p0 n true) else (Bz p0 n (decide ((10 : Int) < (p0.Windows.length : Int)))))
def BU (n : Nat) (p0 : T_api_Catalog) : Option Bool :=
 (bif (decide ((10 : Int) < (p0.Tables.length : Int))) then (BA p0 n true) else (BA p0 n (decide ((10 : Int) < (p0.Streams.length : Int)))))
theorem An9 (n : Nat) (p0 : T_api_Catalog) {r : Bool} (hr : BU n p0 = some r) {K : PV → List Content → Prop} (h : K (.d (.bool r)) st) : Aw PR I4 [(.agg [(.d (.sl (List.map T_api_Schema.row p0.Tables))), (.d (.sl (List.map T_api_Stream.row p0.Streams))), (.d (.sl (List.map T_api_Window.row p0.Windows))), (.d (.sl (List.map T_api_Stream.row p0.Sinks))), (.d (.sl (List.map TP.row p0.Procs)))])] st K := by
 refine Aw.of Ao2 (Nat.le_of_ble_eq_true rfl) fun hwf => ?_
 rw [CE]
 refine AS ?_
 unfold Qo
 rw [BU] at hr
 refine Al (Af ?_)
 unfold KL
 refine GV (k := 0) rfl rfl (e_t eh) Bi (by rfl) ?_
 refine Ab e_c (Aa (Ae (Al ?_)))
 refine BL (fun f st' => ∃ (v3 : Bool), Bj p0 n v3 = some r ∧ f 1 = (.ptr (st.length + 0) 0) ∧ f 33 = (.d (.bool v3)) ∧ st' = st ++ [(.box [(.d (.sl (List.map T_api_Schema.row p0.Tables))), (.d (.sl (List.map T_api_Stream.row p0.Streams))), (.d (.sl (List.map T_api_Window.row p0.Windows))), (.d (.sl (List.map T_api_Stream.row p0.Sinks))), (.d (.sl (List.map TP.row p0.Procs)))])]) ?_ ?_
 · refine Af ?_
   unfold Lo
   refine Ba (fun f st' => ∃ (v1 : Bool), BA p0 n v1 = some r ∧ f 1 = (.ptr (st.length + 0) 0) ∧ f 15 = (.d (.bool v1)) ∧ st' = st ++ [(.box [(.d (.sl (List.map T_api_Schema.row p0.Tables))), (.d (.sl (List.map T_api_Stream.row p0.Streams))), (.d (.sl (List.map T_api_Window.row p0.Windows))), (.d (.sl (List.map T_api_Stream.row p0.Sinks))), (.d (.sl (List.map TP.row p0.Procs)))])]) ?_ ?_
   · unfold Jv
     refine AA (e_t (em rfl eh)) (by rfl) ?_
     refine Ao (e_t eh) (gx 0 rfl) (by rfl) ?_
     refine Bc (row := T_api_Schema.row) (AN (e_t eh) Bo) ?_
     refine Ap (e_t eh) e_c (B6 ?_)
     refine Ab (e_t eh) ?_
     refine Ar eh hr (fun hr => ?_) (fun hr => ?_)
     · refine Ah eh (Ah (em rfl eh) (Ah (Ac rfl eh) (Ah (Ac rfl (em rfl eh)) (Am (e_t (Ad rfl eh)) e_c (Aa ?_)))))
       exact ⟨true, hr, (Ak rfl (Ad rfl eh)), eh, rfl⟩
     refine Aj eh ?_
     refine AA (e_t (Ad rfl (Ac rfl (em rfl eh)))) (by rfl) ?_
     refine Aj (em rfl eh) ?_
     refine Ao (e_t eh) (gx 0 rfl) (by rfl) ?_
     refine Aj (Ac rfl eh) ?_
     refine Bc (row := T_api_Stream.row) (AN (e_t eh) Bo) ?_
     refine Aj (Ac rfl (em rfl eh)) ?_
     refine Ap (e_t eh) e_c (B6 ?_)
     refine An (e_t (Ad rfl eh)) (e_t eh) (Aa ?_)
     exact ⟨(decide ((10 : Int) < (p0.Streams.length : Int))), hr, (Ak rfl (Ad rfl eh)), eh, rfl⟩
   rintro f st' ⟨v1, hr, h1, h15, rfl⟩
   rw [BA] at hr
   refine Ba (fun f st' => ∃ (v2 : Bool), Bz p0 n v2 = some r ∧ f 1 = (.ptr (st.length + 0) 0) ∧ f 21 = (.d (.bool v2)) ∧ st' = st ++ [(.box [(.d (.sl (List.map T_api_Schema.row p0.Tables))), (.d (.sl (List.map T_api_Stream.row p0.Streams))), (.d (.sl (List.map T_api_Window.row p0.Windows))), (.d (.sl (List.map T_api_Stream.row p0.Sinks))), (.d (.sl (List.map TP.row p0.Procs)))])]) ?_ ?_
   · unfold Jb
     refine Ab (e_t h15) ?_
     refine Ar eh hr (fun hr => ?_) (fun hr => ?_)
     · refine Ah eh (Ah (em rfl eh) (Ah (Ac rfl eh) (Ah (Ac rfl (em rfl eh)) (Am (e_t (Ad rfl eh)) e_c (Aa ?_)))))
       exact ⟨true, hr, (Ad rfl (Ac rfl (em rfl h1))), eh, rfl⟩
     refine Aj eh ?_
     refine AA (e_t (Ac rfl h1)) (by rfl) ?_
     refine Aj (em rfl eh) ?_
     refine Ao (e_t eh) (gx 0 rfl) (by rfl) ?_
     refine Aj (Ac rfl eh) ?_
     refine Bc (row := T_api_Window.row) (AN (e_t eh) Bo) ?_
     refine Aj (Ac rfl (em rfl eh)) ?_
     refine Ap (e_t eh) e_c (B6 ?_)
     refine An (e_t (Ad rfl eh)) (e_t eh) (Aa ?_)
     exact ⟨(decide ((10 : Int) < (p0.Windows.length : Int))), hr, (Ad rfl (Ac rfl (em rfl h1))), eh, rfl⟩
   rintro f st' ⟨v2, hr, h1, h21, rfl⟩
   rw [Bz] at hr
   refine Bh ?_
   unfold I6
   refine Ab (e_t h21) ?_
   refine Ar eh hr (fun hr => ?_) (fun hr => ?_)
   · refine Ah eh (Ah (em rfl eh) (Ah (Ac rfl eh) (Ah (Ac rfl (em rfl eh)) (Am (e_t (Ad rfl eh)) e_c (Aa ?_)))))
     unfold F7
     refine Ab (e_t eh) (Ah eh (Ah (em rfl eh) (Ah (Ac rfl eh) (Ah (Ac rfl (em rfl eh)) (Am (e_t (Ad rfl eh)) e_c ?_)))))
     refine Aa (Ae ?_)
     exact ⟨true, hr, (Ak rfl (Ad rfl (em rfl h1))), eh, rfl⟩
   refine Aj eh ?_
   refine AA (e_t (Ac rfl h1)) (by rfl) ?_
   refine Aj (em rfl eh) ?_
   refine Ao (e_t eh) (gx 0 rfl) (by rfl) ?_
   refine Aj (Ac rfl eh) ?_
   refine Bc (row := T_api_Stream.row) (AN (e_t eh) Bo) ?_
   refine Aj (Ac rfl (em rfl eh)) ?_
   refine Ap (e_t eh) e_c (B6 ?_)
   refine An (e_t (Ad rfl eh)) (e_t eh) (Aa ?_)
   unfold F7
   refine Ab (e_t eh) ?_
   refine Ar eh hr (fun hr => ?_) (fun hr => ?_)
   · refine Ah eh (Ah (em rfl eh) (Ah (Ac rfl eh) (Ah (Ac rfl (em rfl eh)) (Am (e_t (Ad rfl eh)) e_c (Aa ?_)))))
     refine Ae ?_
     exact ⟨true, hr, (Ak rfl (Ad rfl (Ac rfl h1))), eh, rfl⟩
   refine Aj eh ?_
   refine AA (e_t (Ak rfl (em rfl h1))) (by rfl) ?_
   refine Aj (em rfl eh) ?_
   refine Ao (e_t eh) (gx 0 rfl) (by rfl) ?_
   refine Aj (Ac rfl eh) ?_
   refine Bc (row := TP.row) (AN (e_t eh) Bo) ?_
   refine Aj (Ac rfl (em rfl eh)) ?_
   refine Ap (e_t eh) e_c (B6 ?_)
   refine An (e_t (Ad rfl eh)) (e_t eh) (Aa (Ae ?_))
   exact ⟨(decide ((10 : Int) < (p0.Procs.length : Int))), hr, (Ak rfl (Ad rfl (Ac rfl h1))), eh, rfl⟩
 rintro f st' ⟨v3, hr, h1, h33, rfl⟩
 rw [Bj] at hr
 refine AB (e_t h33) hr (fun hr => ?_) (fun hr => ?_)
 · refine Al (Af ?_)
   unfold Lr
   refine Ab e_c (Aa (Ae (AH (Ay ?_))))
   cases hr
   exact A5 (AE eh AG) (AK AF v_d) (As hwf) h
 refine AM (Ae ?_)
 refine BL (fun f st' => C5 p0 n = some r ∧ f 1 = (.ptr (st.length + 0) 0) ∧ st' = st ++ [(.box [(.d (.sl (List.map T_api_Schema.row p0.Tables))), (.d (.sl (List.map T_api_Stream.row p0.Streams))), (.d (.sl (List.map T_api_Window.row p0.Windows))), (.d (.sl (List.map T_api_Stream.row p0.Sinks))), (.d (.sl (List.map TP.row p0.Procs)))])]) ?_ ?_
 · refine Al (Af ?_)
   unfold Lb
   refine Ab e_c (Aa (Ae ?_))
   refine A3 ?_
   refine Cy (fun m f st' => ∃ (v4 : Int), Cx p0 n m v4 = some r ∧ f 1 = (.ptr (st.length + 0) 0) ∧ f 3 = (.d (.int .i64 v4)) ∧ st' = st ++ [(.box [(.d (.sl (List.map T_api_Schema.row p0.Tables))), (.d (.sl (List.map T_api_Stream.row p0.Streams))), (.d (.sl (List.map T_api_Window.row p0.Windows))), (.d (.sl (List.map T_api_Stream.row p0.Sinks))), (.d (.sl (List.map TP.row p0.Procs)))])]) n (Ghost.refl _) ⟨(0 : Int), hr, (em rfl h1), eh, rfl⟩ ?_
   rintro m f st' ⟨v4, hr, h1, h3, rfl⟩
   cases m with
   | zero => cases hr
   | succ m_2 =>
     rw [Cx] at hr
     generalize hrec_2 : Cx p0 n m_2 = q2 at hr
     rw [Ko] at hr
     unfold KV
     refine Al (Al (Af ?_))
     unfold Ln
     refine Ab (e_t h3) ?_
     refine AA (e_t (em rfl h1)) (by rfl) ?_
     refine Ao (e_t eh) (gx 0 rfl) (by rfl) ?_
     refine Bc (row := T_api_Schema.row) (AN (e_t eh) Bo) ?_
     refine Ap (e_t (Ac rfl (em rfl eh))) (e_t eh) (Da ?_)
     refine Aa (Ae ?_)
     refine AB (e_t eh) hr (fun hr => ?_) (fun hr => ?_)
     rotate_left
     · refine Dj ?_
       refine A8 ?_
       refine A8 ?_
       refine Fo ?_
       refine Ae ?_
       exact ⟨hr, (Ad rfl (em rfl h1)), rfl⟩
     refine AM (Ae (Al ?_))
     refine A3 ?_
     refine Al (Af ?_)
     unfold Lq
     refine AA (e_t (Ad rfl (em rfl h1))) (by rfl) ?_
     refine Ao (e_t eh) (gx 0 rfl) (by rfl) ?_
     refine Ab (e_t (Ad rfl (Ac rfl (em rfl h3)))) ?_
     refine Bt (row := T_api_Schema.row) (AN (e_t (em rfl eh)) Bo) (e_t eh) hr T_api_Schema.row_eq (fun _ => rfl) (fun v5 hr => ?_)
     refine No (e_t eh) (by rfl) ?_
     refine BF (e_t eh) (by rfl) ?_
     refine Bc (row := T_api_Column.row) (AN (e_t eh) Bo) ?_
     refine Ap (e_t eh) e_c (B6 ?_)
     refine Aa (Ae ?_)
     refine AB (e_t eh) hr (fun hr => ?_) (fun hr => ?_)
     rotate_left
     · refine AM ?_
       refine BQ ?_
       refine Ae (Af ?_)
       unfold KR
       refine Ab (e_t (Ak rfl (Ad rfl (em rfl h3)))) ?_
       refine Ap (e_t eh) e_c (B4 ?_)
       refine Ab (e_t eh) (Aa (Ae ?_))
       exact ⟨m_2, _, Nat.lt_succ_self m_2, Ghost.refl _, (IntKind.wrap .i64 (v4 + (1 : Int))), (by rw [hrec_2]; exact hr), (Ak rfl (Ad rfl (Ad rfl h1))), eh, rfl⟩
     refine Al (Af ?_)
     unfold K6
     refine Ab e_c (Aa (Ae (AH ?_)))
     refine Bw ?_
     refine Ay (Ay ?_)
     refine Bw ?_
     refine Ay ?_
     cases hr
     exact A5 (AE eh AG) (AK AF v_d) (As hwf) h
 rintro f st' ⟨hr, h1, rfl⟩
 rw [C5] at hr
 refine BL (fun f st' => C1 p0 n = some r ∧ f 1 = (.ptr (st.length + 0) 0) ∧ st' = st ++ [(.box [(.d (.sl (List.map T_api_Schema.row p0.Tables))), (.d (.sl (List.map T_api_Stream.row p0.Streams))), (.d (.sl (List.map T_api_Window.row p0.Windows))), (.d (.sl (List.map T_api_Stream.row p0.Sinks))), (.d (.sl (List.map TP.row p0.Procs)))])]) ?_ ?_
 · refine Al (Af ?_)
   unfold Lm
   refine Ab e_c (Aa (Ae ?_))
   refine A3 ?_
   refine Cy (fun m f st' => ∃ (v6 : Int), Cz p0 n m v6 = some r ∧ f 1 = (.ptr (st.length + 0) 0) ∧ f 4 = (.d (.int .i64 v6)) ∧ st' = st ++ [(.box [(.d (.sl (List.map T_api_Schema.row p0.Tables))), (.d (.sl (List.map T_api_Stream.row p0.Streams))), (.d (.sl (List.map T_api_Window.row p0.Windows))), (.d (.sl (List.map T_api_Stream.row p0.Sinks))), (.d (.sl (List.map TP.row p0.Procs)))])]) n (Ghost.refl _) ⟨(0 : Int), hr, (em rfl h1), eh, rfl⟩ ?_
   rintro m f st' ⟨v6, hr, h1, h4, rfl⟩
   cases m with
   | zero => cases hr
   | succ m_1 =>
     rw [Cz] at hr
     generalize hrec_1 : Cz p0 n m_1 = q1 at hr
     rw [KF] at hr
     unfold Kk
     refine Al (Al (Af ?_))
     unfold JY
     refine Ab (e_t h4) ?_
     refine AA (e_t (em rfl h1)) (by rfl) ?_
     refine Ao (e_t eh) (gx 0 rfl) (by rfl) ?_
     refine Bc (row := T_api_Stream.row) (AN (e_t eh) Bo) ?_
     refine Ap (e_t (Ac rfl (em rfl eh))) (e_t eh) (Da ?_)
     refine Aa (Ae ?_)
     refine AB (e_t eh) hr (fun hr => ?_) (fun hr => ?_)
     rotate_left
     · refine Dj ?_
       refine A8 ?_
       refine A8 ?_
       refine Fo ?_
       refine Ae ?_
       exact ⟨hr, (Ad rfl (em rfl h1)), rfl⟩
     refine AM (Ae (Al ?_))
     refine A3 ?_
     refine Al (Af ?_)
     unfold Kj
     refine AA (e_t (Ad rfl (em rfl h1))) (by rfl) ?_
     refine Ao (e_t eh) (gx 0 rfl) (by rfl) ?_
     refine Ab (e_t (Ad rfl (Ac rfl (em rfl h4)))) ?_
     refine Bt (row := T_api_Stream.row) (AN (e_t (em rfl eh)) Bo) (e_t eh) hr T_api_Stream.row_eq (fun _ => rfl) (fun v7 hr => ?_)
     refine No (e_t eh) (by rfl) ?_
     refine BF (e_t eh) (by rfl) ?_
     refine Bc (row := T_api_Column.row) (AN (e_t eh) Bo) ?_
     refine Ap (e_t eh) e_c (B6 ?_)
     refine Aa (Ae ?_)
     refine AB (e_t eh) hr (fun hr => ?_) (fun hr => ?_)
     rotate_left
     · refine AM ?_
       refine BQ ?_
       refine Ae (Af ?_)
       unfold Kn
       refine Ab (e_t (Ak rfl (Ad rfl (em rfl h4)))) ?_
       refine Ap (e_t eh) e_c (B4 ?_)
       refine Ab (e_t eh) (Aa (Ae ?_))
       exact ⟨m_1, _, Nat.lt_succ_self m_1, Ghost.refl _, (IntKind.wrap .i64 (v6 + (1 : Int))), (by rw [hrec_1]; exact hr), (Ak rfl (Ad rfl (Ad rfl h1))), eh, rfl⟩
     refine Al (Af ?_)
     unfold Ku
     refine Ab e_c (Aa (Ae (AH ?_)))
     refine Bw ?_
     refine Ay (Ay ?_)
     refine Bw ?_
     refine Ay ?_
     cases hr
     exact A5 (AE eh AG) (AK AF v_d) (As hwf) h
 rintro f st' ⟨hr, h1, rfl⟩
 rw [C1] at hr
 refine Al (Al (Af ?_))
 unfold J9
 refine Ab e_c (Aa (Ae ?_))
 refine A3 ?_
 refine Cy (fun m f st' => ∃ (v8 : Int), CA p0 m v8 = some r ∧ f 1 = (.ptr (st.length + 0) 0) ∧ f 5 = (.d (.int .i64 v8)) ∧ st' = st ++ [(.box [(.d (.sl (List.map T_api_Schema.row p0.Tables))), (.d (.sl (List.map T_api_Stream.row p0.Streams))), (.d (.sl (List.map T_api_Window.row p0.Windows))), (.d (.sl (List.map T_api_Stream.row p0.Sinks))), (.d (.sl (List.map TP.row p0.Procs)))])]) n (Ghost.refl _) ⟨(0 : Int), hr, (em rfl h1), eh, rfl⟩ ?_
 rintro m f st' ⟨v8, hr, h1, h5, rfl⟩
 cases m with
 | zero => cases hr
 | succ m_0 =>
   rw [CA] at hr
   generalize hrec_0 : CA p0 m_0 = q0 at hr
   rw [Kh] at hr
   unfold Kf
   refine Al (Al (Af ?_))
   unfold Kq
   refine Ab (e_t h5) ?_
   refine AA (e_t (em rfl h1)) (by rfl) ?_
   refine Ao (e_t eh) (gx 0 rfl) (by rfl) ?_
   refine Bc (row := T_api_Stream.row) (AN (e_t eh) Bo) ?_
   refine Ap (e_t (Ac rfl (em rfl eh))) (e_t eh) (Da ?_)
   refine Aa (Ae ?_)
   refine AB (e_t eh) hr (fun hr => ?_) (fun hr => ?_)
   rotate_left
   · refine Dj ?_
     refine A8 ?_
     refine A8 ?_
     refine Fo ?_
     refine Ae (Al (Af ?_))
     unfold Ke
     refine Ab e_c (Aa (Ae (AH ?_)))
     cases hr
     exact A5 (AE eh AG) (AK AF v_d) (As hwf) h
   refine AM (Ae (Al ?_))
   refine A3 ?_
   refine Al (Af ?_)
   unfold Kz
   refine AA (e_t (Ad rfl (em rfl h1))) (by rfl) ?_
   refine Ao (e_t eh) (gx 0 rfl) (by rfl) ?_
   refine Ab (e_t (Ad rfl (Ac rfl (em rfl h5)))) ?_
   refine Bt (row := T_api_Stream.row) (AN (e_t (em rfl eh)) Bo) (e_t eh) hr T_api_Stream.row_eq (fun _ => rfl) (fun v9 hr => ?_)
   refine No (e_t eh) (by rfl) ?_
   refine BF (e_t eh) (by rfl) ?_
   refine Bc (row := T_api_Column.row) (AN (e_t eh) Bo) ?_
   refine Ap (e_t eh) e_c (B6 ?_)
   refine Aa (Ae ?_)
   refine AB (e_t eh) hr (fun hr => ?_) (fun hr => ?_)
   rotate_left
   · refine AM ?_
     refine BQ ?_
     refine Ae (Af ?_)
     unfold Km
     refine Ab (e_t (Ak rfl (Ad rfl (em rfl h5)))) ?_
     refine Ap (e_t eh) e_c (B4 ?_)
     refine Ab (e_t eh) (Aa (Ae ?_))
     exact ⟨m_0, _, Nat.lt_succ_self m_0, Ghost.refl _, (IntKind.wrap .i64 (v8 + (1 : Int))), (by rw [hrec_0]; exact hr), (Ak rfl (Ad rfl (Ad rfl h1))), eh, rfl⟩
   refine Al (Af ?_)
   unfold Ka
   refine Ab e_c (Aa (Ae (AH ?_)))
   refine Bw ?_
   refine Ay (Ay ?_)
   refine Bw ?_
   refine Ay ?_
   cases hr
   exact A5 (AE eh AG) (AK AF v_d) (As hwf) h
def Ca (p0 : T_Ssize) : Bool :=
 (bif (decide ((1000 : Int) ≤ p0.nodes)) then true else (decide ((1000 : Int) ≤ p0.depth)))
theorem Aw7 (p0 : T_Ssize) {r : Bool} (hr : Ca p0 = r) {x0 : Nat} (hx_x0 : st[x0]? = some (.box [(.d (.int .i64 p0.nodes)), (.d (.int .i64 p0.depth))])) {K : PV → List Content → Prop} (h : K (.d (.bool r)) st) : Aw PR Ls [(.ptr x0 0)] st K := by
 refine Aw.of Av7 (Nat.le_of_ble_eq_true rfl) fun hwf => ?_
 rw [CE]
 refine AS ?_
 unfold Xz
 rw [Ca] at hr
 refine Al (Af ?_)
 unfold YT
 refine Ab e_c (Aa (Ae (Al (Af ?_))))
 unfold Y6
 refine Bh ?_
 unfold Ul
 refine Ab (e_t (em rfl eh)) ?_
 refine Ag1 (e_t eh) ?_
 refine AA (e_t eh) (by rfl) ?_
 refine Ao (e_t eh) (AU9 hx_x0) (by rfl) ?_
 refine Ap (e_t eh) e_c (E5 ?_)
 refine Ab (e_t eh) ?_
 refine Ar eh hr (fun hr => ?_) (fun hr => ?_)
 · refine Ah eh (Ah (em rfl eh) (Ah (Ac rfl eh) (Ah (Ac rfl (em rfl eh)) (Ah (Ad rfl eh) (Am (e_t (Ad rfl (em rfl eh))) e_c ?_)))))
   refine Aa ?_
   unfold KU
   refine Ab (e_t eh) (Aa (Ae (AH ?_)))
   subst hr
   exact A5 (AE eh AG) (AK AF v_d) (As hwf) h
 refine Aj eh (Ab (e_t (Ad rfl (Ad rfl eh))) (Aj (em rfl eh) ?_))
 refine Ag1 (e_t eh) ?_
 refine Aj (Ac rfl eh) ?_
 refine AA (e_t eh) (by rfl) ?_
 refine Aj (Ac rfl (em rfl eh)) ?_
 refine Ao (e_t eh) (AU9 hx_x0) (by rfl) ?_
 refine Aj (Ad rfl eh) ?_
 refine Ap (e_t eh) e_c (E5 ?_)
 refine An (e_t (Ad rfl (em rfl eh))) (e_t eh) (Aa ?_)
 unfold KU
 refine Ab (e_t eh) (Aa (Ae (AH ?_)))
 subst hr
 exact A5 (AE eh AG) (AK AF v_d) (As hwf) h
def A0 (p0 : T_Ssize) (p1 : T_Ssize) : T_Ssize :=
 (⟨(min (IntKind.wrap .i64 (p0.nodes + p1.nodes)) (1000 : Int)), (max p0.depth p1.depth)⟩ : T_Ssize)
theorem TQ (p0 : T_Ssize) (p1 : T_Ssize) {r : T_Ssize} (hr : A0 p0 p1 = r) {x0 : Nat} (hx_x0 : st[x0]? = some (.box [(.d (.int .i64 p0.nodes)), (.d (.int .i64 p0.depth))])) {st' : List Content} (hst : (List.set st x0 (.box [(.d (.int .i64 r.nodes)), (.d (.int .i64 r.depth))])) = st') {K : PV → List Content → Prop} (h : K (.tup []) st') : Aw PR H6 [(.ptr x0 0), (.agg [(.d (.int .i64 p1.nodes)), (.d (.int .i64 p1.depth))])] st K := by
 subst hst
 refine Aw.of AT7 (Nat.le_of_ble_eq_true rfl) fun hwf => ?_
 rw [ED]
 refine AS ?_
 unfold Ak7
 rw [A0] at hr
 refine Al (Af ?_)
 unfold Ad2
 refine GV (k := 0) rfl rfl (e_t (em rfl eh)) Bi (by rfl) ?_
 refine Aa (Ae ?_)
 refine IM (k := 1) rfl rfl ?_
 unfold Ak0
 refine Ag (R := []) rfl rfl (Ab (e_t (em rfl eh)) (Aa ?_))
 refine Ag (R := []) rfl rfl (Ab (e_t (Ac rfl eh)) (Aa ?_))
 refine Ag (R := []) rfl rfl (Ab (e_t (Ac rfl (em rfl eh))) (Aa ?_))
 refine Ag (R := []) rfl rfl (Ag1 (e_t eh) (Aa ?_))
 refine Ag (R := []) rfl rfl (AA (e_t eh) (by rfl) (Aa ?_))
 refine Ag rfl (BM (e_t eh)) (Ao (e_t eh) (AU9 hx_x0) (by rfl) (Aa ?_))
 refine Ag (R := []) rfl rfl (AA (e_t (Ad rfl (Ac rfl eh))) (by rfl) (Aa ?_))
 refine Ag rfl (BM (e_t eh)) (Ao (e_t eh) (gx 0 rfl) (by rfl) (Aa ?_))
 refine Ag (R := []) rfl rfl (Ap (e_t (Ac rfl eh)) (e_t eh) (B4 (Aa ?_)))
 refine Ag (R := []) rfl rfl (Bl7 (e_t eh) (BQ1 e_c (Ag2 (Aa ?_))))
 refine Ag (R := []) rfl rfl (Ab (e_t (Ak rfl (Ac rfl (em rfl eh)))) (Aa ?_))
 refine Ag (R := []) rfl rfl (Ag1 (e_t eh) (Aa ?_))
 refine Ag (R := []) rfl rfl (AA (e_t eh) (by rfl) (Aa ?_))
 refine Ag rfl (BM (e_t eh)) (Ao (e_t eh) (AU9 hx_x0) (by rfl) (Aa ?_))
 refine Ag (R := []) rfl rfl (AA (e_t (Ak rfl (Ad rfl (Ac rfl eh)))) (by rfl) (Aa ?_))
 refine Ag rfl (BM (e_t eh)) (Ao (e_t eh) (gx 0 rfl) (by rfl) (Aa ?_))
 refine Ag (R := []) rfl rfl (Bl7 (e_t (Ac rfl eh)) (Bk0 (e_t eh) (Ag2 (Aa ?_))))
 refine Ag (R := []) rfl rfl (Ag1 (e_t (Ak rfl (Ad rfl (Ad rfl eh)))) (Aa ?_))
 refine Ag (R := []) rfl rfl (AA (e_t eh) (by rfl) (Aa ?_))
 refine KW (e_t eh) (AU9 hx_x0) (e_t (Ak rfl (em rfl eh))) A2 rfl (Nat.le_of_ble_eq_true rfl) (by rfl) (cells' := [(.d (.int .i64 (min (IntKind.wrap .i64 (p0.nodes + p1.nodes)) (1000 : Int)))), (.d (.int .i64 p0.depth))]) (by rfl) ((Ce8 hx_x0).trans (congrArg (· ++ _) rfl)) ?_
 refine Ag (R := []) rfl rfl (Ag1 (e_t (Ai rfl (em rfl eh))) (Aa ?_))
 refine Ag (R := []) rfl rfl (AA (e_t eh) (by rfl) (Aa ?_))
 refine KW (e_t eh) (AU9 (Aw3 hx_x0)) (e_t (Ad rfl eh)) A2 rfl (Nat.le_of_ble_eq_true rfl) (by rfl) (cells' := [(.d (.int .i64 (min (IntKind.wrap .i64 (p0.nodes + p1.nodes)) (1000 : Int)))), (.d (.int .i64 (max p0.depth p1.depth)))]) (by rfl) ((Ce8 (Aw3 hx_x0)).trans (congrArg (· ++ _) BU1)) ?_
 refine BO ?_
 refine ⟨by simp [Ch, okPairs, BP, FY, Ci8 hx_x0, Ci3 hx_x0, Cj5 hx_x0, Ci1 hx_x0], ?_⟩
 subst hr
 exact Ch5 AG Ch7 (Cc0 (WF.setBox hwf rfl) (Cb5 rfl)) h
def FB (p1 : Int) (fn2 : TS → Int → Option T_Ssize) (v2 : Int) (v3 : Int) (v4 : Int) (q0 : Int → Int → Int → Option T_Ssize) (v5 : TS) (v6 : Bool) : Option T_Ssize :=
 (bif v6 then some (⟨(1000 : Int), (1000 : Int)⟩ : T_Ssize) else ((fn2 v5 p1).bind fun v7 => q0 ((A0 (⟨v2, v3⟩ : T_Ssize) v7).nodes) ((A0 (⟨v2, v3⟩ : T_Ssize) v7).depth) (IntKind.wrap .i64 (v4 + (1 : Int)))))
def Gq (p0 : (List TS)) (p1 : Int) (fn2 : TS → Int → Option T_Ssize) (q0 : Int → Int → Int → Option T_Ssize) (v2 : Int) (v3 : Int) (v4 : Int) : Option T_Ssize :=
 (bif (decide (v4 < (p0.length : Int))) then ((Dw p0 v4).bind fun v5 => (bif (Ca (⟨v2, v3⟩ : T_Ssize)) then (FB p1 fn2 v2 v3 v4 q0 v5 true) else (FB p1 fn2 v2 v3 v4 q0 v5 (decide ((1000 : Int) ≤ p1))))) else some (⟨v2, v3⟩ : T_Ssize))
def B0 (p0 : (List TS)) (p1 : Int) (fn2 : TS → Int → Option T_Ssize) : Nat → Int → Int → Int → Option T_Ssize
 | 0, _, _, _ => none
 | m + 1, v2, v3, v4 => Gq p0 p1 fn2 (B0 p0 p1 fn2 m) v2 v3 v4
def DP (n : Nat) (p0 : (List TS)) (p1 : Int) (fn2 : TS → Int → Option T_Ssize) : Option T_Ssize :=
 (B0 p0 p1 fn2 n (0 : Int) (0 : Int) (0 : Int))
theorem PE (n : Nat) (p0 : (List TS)) (p1 : Int) (fn2 : TS → Int → Option T_Ssize) {g_fn2 : FuncId} {p_fn2 q_fn2 : List PV} (H_fn2 : ∀ (a0 : TS) (a1 : Int) {r : T_Ssize}, fn2 a0 a1 = some r → ∀ {st : List Content} {K : PV → List Content → Prop}, K (.agg [(.d (.int .i64 r.nodes)), (.d (.int .i64 r.depth))]) st → Aw PR g_fn2 (p_fn2 ++ [(.agg [(.d (.int .i64 a0.Op)), (.d (.str a0.Name)), (.d (.str a0.Src)), (.d (.int .i64 a0.N)), (.d (.sl (List.map rS a0.Cols))), (.d (.sl (List.map TE.row a0.Exprs))), (.d (.sl (List.map TS.row a0.Body))), (.d (.sl (List.map TS.row a0.Else)))]), (.d (.int .i64 a1))] ++ q_fn2) st K) (B_fn2 : ∀ n, (AP.belowL n p_fn2 && AP.belowL n q_fn2) = true) {r : T_Ssize} (hr : DP n p0 p1 fn2 = some r) {K : PV → List Content → Prop} (h : K (.agg [(.d (.int .i64 r.nodes)), (.d (.int .i64 r.depth))]) st) : Aw PR FK [(.d (.sl (List.map TS.row p0))), (.d (.int .i64 p1)), (.fn g_fn2 p_fn2 q_fn2)] st K := by
 refine Aw.of Ze (Nat.le_of_ble_eq_true rfl) fun hwf => ?_
 rw [Bw4]
 refine AS ?_
 unfold O9
 rw [DP] at hr
 refine Al (Af ?_)
 unfold Sb
 refine Dv (k := 0) rfl rfl ?_
 refine Aa (Ae (Al (Af ?_)))
 unfold Tt
 refine Dv (k := 1) rfl rfl ?_
 refine Aa (Ae (Al (Al (Af ?_))))
 unfold Tr
 refine Ab (e_t (Ac rfl eh)) ?_
 refine Bc (row := TS.row) (AN (e_t eh) Bo) ?_
 refine Ab e_c (Aa (Ae ?_))
 refine A3 ?_
 refine Cy (fun m f st' => ∃ (v2 : Int), ∃ (v3 : Int), ∃ (v4 : Int), B0 p0 p1 fn2 m v2 v3 v4 = some r ∧ f 1 = (.d (.int .i64 p1)) ∧ f 2 = (.fn g_fn2 p_fn2 q_fn2) ∧ f 6 = (.ptr (st.length + 0) 0) ∧ f 7 = (.ptr (st.length + 1) 0) ∧ f 10 = (.d (.sl (List.map TS.row p0))) ∧ f 11 = (.d (.int .i64 (p0.length : Int))) ∧ f 12 = (.d (.int .i64 v4)) ∧ st' = st ++ [(.box [(.d (.int .i64 (0 : Int))), (.d (.int .i64 (0 : Int)))]), (.box [(.d (.int .i64 v2)), (.d (.int .i64 v3))])]) n (Ghost.refl _) ⟨(0 : Int), (0 : Int), (0 : Int), hr, (Ad rfl (Ac rfl eh)), (Ad rfl (Ac rfl (em rfl eh))), (Ad rfl eh), (Ac rfl (em rfl eh)), (Ac rfl eh), (em rfl eh), eh, rfl⟩ ?_
 rintro m f st' ⟨v2, v3, v4, hr, h1, h2, h6, h7, h10, h11, h12, rfl⟩
 cases m with
 | zero => cases hr
 | succ m_0 =>
   rw [B0] at hr
   generalize hrec_0 : B0 p0 p1 fn2 m_0 = q0 at hr
   rw [Gq] at hr
   unfold Sf
   refine Al (Af ?_)
   unfold Tp
   refine Ap (e_t h12) (e_t h11) (Da ?_)
   refine Aa (Ae (Al ?_))
   refine AB (e_t eh) hr (fun hr => ?_) (fun hr => ?_)
   rotate_left
   · refine Dj ?_
     refine A8 ?_
     refine A8 ?_
     refine Fo ?_
     refine Ae (Al (Af ?_))
     unfold Qp
     refine Cn (e_t (em rfl h7)) (gx 1 rfl) (Nat.le_of_ble_eq_true rfl) (by rfl) ?_
     refine BB (e_t (Ac rfl h6)) (gx 0 rfl) (e_t eh) Bi rfl (Nat.le_of_ble_eq_true rfl) (by rfl) (cells' := [(.d (.int .i64 v2)), (.d (.int .i64 v3))]) (by rfl) (BD rfl _ _) ?_
     refine Aa (Ae (AH ?_))
     cases hr
     exact A5 (Iz (Ac rfl h6) (gx 0 rfl) (Nat.le_of_ble_eq_true rfl) (by rfl) AG) (AK (Cw (Aq f_d (Aq f_d Dg))) (AY4 rfl)) (As hwf) h
   refine AM (Ae (Al ?_))
   refine A3 ?_
   refine Al (Af ?_)
   unfold SQ
   refine Bt (row := TS.row) (AN (e_t (em rfl h10)) Bo) (e_t (em rfl h12)) hr TS.row_eq (fun _ => rfl) (fun v5 hr => ?_)
   refine Ft (e_t eh) (Nat.le_of_ble_eq_true rfl) (by rfl) ?_
   refine Dv (k := 2) rfl rfl ?_
   refine BB (e_t eh) (gx 2 rfl) (e_t (em rfl eh)) Bi rfl (Nat.le_of_ble_eq_true rfl) (by rfl) (cells' := [(.d (.int .i64 v5.Op)), (.d (.str v5.Name)), (.d (.str v5.Src)), (.d (.int .i64 v5.N)), (.d (.sl (List.map rS v5.Cols))), (.d (.sl (List.map TE.row v5.Exprs))), (.d (.sl (List.map TS.row v5.Body))), (.d (.sl (List.map TS.row v5.Else)))]) (by rfl) (BD rfl _ _) ?_
   refine Aa (Ae (Al ?_))
   refine BL (fun f st' => ∃ (v6 : Bool), FB p1 fn2 v2 v3 v4 q0 v5 v6 = some r ∧ f 1 = (.d (.int .i64 p1)) ∧ f 2 = (.fn g_fn2 p_fn2 q_fn2) ∧ f 6 = (.ptr (st.length + 0) 0) ∧ f 7 = (.ptr (st.length + 1) 0) ∧ f 9 = (.ptr (st.length + 2) 0) ∧ f 10 = (.d (.sl (List.map TS.row p0))) ∧ f 11 = (.d (.int .i64 (p0.length : Int))) ∧ f 12 = (.d (.int .i64 v4)) ∧ f 20 = (.d (.bool v6)) ∧ st' = st ++ [(.box [(.d (.int .i64 (0 : Int))), (.d (.int .i64 (0 : Int)))]), (.box [(.d (.int .i64 v2)), (.d (.int .i64 v3))]), (.box [(.d (.int .i64 v5.Op)), (.d (.str v5.Name)), (.d (.str v5.Src)), (.d (.int .i64 v5.N)), (.d (.sl (List.map rS v5.Cols))), (.d (.sl (List.map TE.row v5.Exprs))), (.d (.sl (List.map TS.row v5.Body))), (.d (.sl (List.map TS.row v5.Else)))])]) ?_ ?_
   · refine Af ?_
     unfold SM
     refine AY (Az (e_t (Ad rfl h7)) At2 A1) ?_
     refine Aw7 (⟨v2, v3⟩ : T_Ssize) rfl (gx 1 rfl) ?_
     refine Ab (e_t eh) ?_
     refine Ar eh hr (fun hr => ?_) (fun hr => ?_)
     · refine Ah eh (Ah (em rfl eh) (Am (e_t (Ac rfl eh)) e_c (Aa (Ae ?_))))
       exact ⟨true, hr, (Ak rfl (Ac rfl h1)), (Ak rfl (Ac rfl h2)), (Ak rfl (Ac rfl h6)), (Ak rfl (Ac rfl h7)), (Ad rfl (Ac rfl eh)), (Ak rfl (Ac rfl h10)), (Ak rfl (Ac rfl h11)), (Ak rfl (Ac rfl h12)), eh, rfl⟩
     refine Aj eh (Ab (e_t (Ad rfl (Ac rfl (em rfl h1)))) (Aj (em rfl eh) ?_))
     refine Ap (e_t eh) e_c (E5 ?_)
     refine An (e_t (Ac rfl eh)) (e_t eh) (Aa (Ae ?_))
     exact ⟨(decide ((1000 : Int) ≤ p1)), hr, (Ak rfl (Ac rfl h1)), (Ak rfl (Ac rfl h2)), (Ak rfl (Ac rfl h6)), (Ak rfl (Ac rfl h7)), (Ad rfl (Ac rfl eh)), (Ak rfl (Ac rfl h10)), (Ak rfl (Ac rfl h11)), (Ak rfl (Ac rfl h12)), eh, rfl⟩
   rintro f st' ⟨v6, hr, h1, h2, h6, h7, h9, h10, h11, h12, h20, rfl⟩
   rw [FB] at hr
   refine AB (e_t h20) hr (fun hr => ?_) (fun hr => ?_)
   · refine Al (Af ?_)
     unfold Sy
     refine T2 (cs := [(.d (.int .i64 (1000 : Int))), (.d (.int .i64 (1000 : Int)))]) (DZ e_c A2 rfl (Nat.le_of_ble_eq_true rfl) (by rfl) (DZ e_c A2 rfl (Nat.le_of_ble_eq_true rfl) (by rfl) Ae4)) (DX e_c A2 (by rfl) (DX e_c A2 (by rfl) Ab6)) ?_
     refine BB (e_t (em rfl h6)) (gx 0 rfl) (e_t eh) Bi rfl (Nat.le_of_ble_eq_true rfl) (by rfl) (cells' := [(.d (.int .i64 (1000 : Int))), (.d (.int .i64 (1000 : Int)))]) (by rfl) (BD rfl _ _) ?_
     refine Aa (Ae (AH (Ay ?_)))
     refine Bw ?_
     refine Ay (Ay ?_)
     refine Bw ?_
     refine Ay ?_
     cases hr
     exact A5 (Iz (em rfl h6) (gx 0 rfl) (Nat.le_of_ble_eq_true rfl) (by rfl) AG) (AK (Cw (Aq f_d (Aq f_d Dg))) (AY4 rfl)) (As hwf) h
   refine AM (Ae (Af ?_))
   unfold Sj
   refine Ab (e_t h2) ?_
   refine Cn (e_t (em rfl h9)) (gx 2 rfl) (Nat.le_of_ble_eq_true rfl) (by rfl) ?_
   refine Ab (e_t (Ac rfl h1)) ?_
   obtain ⟨v7, hc_v7, hr⟩ := bind_some hr
   refine BG3 (e_t (Ac rfl eh)) (Az (e_t (em rfl eh)) (Cw (Aq f_d (Aq f_d (Aq f_d (Aq f_d (Aq f_d (Aq f_d (Aq f_d (Aq f_d Dg))))))))) (Az (e_t eh) AF A1)) rfl ?_
   refine H_fn2 v5 p1 hc_v7 ?_
   refine AY (Az (e_t (Ad rfl h7)) At2 (Az (e_t eh) (Cw (Aq f_d (Aq f_d Dg))) A1)) ?_
   refine TQ (⟨v2, v3⟩ : T_Ssize) v7 rfl (gx 1 rfl) (BD rfl _ _) ?_
   refine Aa ?_
   refine BQ ?_
   refine Ae (Af ?_)
   unfold Tn
   refine Ap (e_t (Ad rfl (em rfl h12))) e_c (B4 ?_)
   refine Ab (e_t eh) (Aa (Ae ?_))
   exact ⟨m_0, _, Nat.lt_succ_self m_0, Ghost.cut _ (st.length + 2) (Nat.le_add_right _ _), (A0 (⟨v2, v3⟩ : T_Ssize) v7).nodes, (A0 (⟨v2, v3⟩ : T_Ssize) v7).depth, (IntKind.wrap .i64 (v4 + (1 : Int))), (by rw [hrec_0]; exact hr), ((congrArg (cutV _) (Ad rfl (Ac rfl (em rfl h1)))).trans (v_d)), ((congrArg (cutV _) (Ad rfl (Ac rfl (em rfl h2)))).trans (BO0 (B_fn2 _))), ((congrArg (cutV _) (Ad rfl (Ac rfl (em rfl h6)))).trans (by simp [cutV, AP])), ((congrArg (cutV _) (Ad rfl (Ac rfl (em rfl h7)))).trans (by simp [cutV, AP])), ((congrArg (cutV _) (Ad rfl (Ac rfl (em rfl h10)))).trans (v_d)), ((congrArg (cutV _) (Ad rfl (Ac rfl (em rfl h11)))).trans (v_d)), ((congrArg (cutV _) eh).trans (v_d)), (H1 (l0 := [(.box [(.d (.int .i64 (0 : Int))), (.d (.int .i64 (0 : Int)))]), (.box [(.d (.int .i64 ((A0 (⟨v2, v3⟩ : T_Ssize) v7).nodes))), (.d (.int .i64 ((A0 (⟨v2, v3⟩ : T_Ssize) v7).depth)))])]) (l1 := _) hwf rfl rfl rfl)⟩
end Go.Ax
