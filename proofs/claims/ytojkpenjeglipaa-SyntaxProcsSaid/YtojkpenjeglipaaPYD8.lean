import Derived.Test.YtojkpenjeglipaaPYT
import Derived.Test.YtojkpenjeglipaaPCVX
import Derived.Test.YtojkpenjeglipaaPCPrim
import Derived.Test.YtojkpenjeglipaaPYD5
set_option linter.unusedVariables false
set_option linter.unusedSimpArgs false
namespace Go.Ax
attribute [local irreducible] BQ EX FK Bg CQ FI B8 Le Ii upd ev u0 Dw frz A9 EK mmD bnd B2 FD Dq CR G3 HS Hg cutV JT Cy
variable {st : List Content}
def HZ (p1 : (List ByteArray)) (p2 : (List ByteArray)) (p3 : TE) (s_Suses_expr : (List ByteArray) → (List ByteArray) → (List ByteArray) → TE → Option (List ByteArray)) (q0 : (List ByteArray) → Int → Option (List ByteArray)) (v6 : (List ByteArray)) (v7 : Int) : Option (List ByteArray) :=
 (bif (decide (v7 < (p3.Args.length : Int))) then ((Dd p3.Args v7).bind fun v8 => ((s_Suses_expr v6 p1 p2 v8).bind fun v9 => q0 v9 (IntKind.wrap .i64 (v7 + (1 : Int))))) else some v6)
def C6 (p1 : (List ByteArray)) (p2 : (List ByteArray)) (p3 : TE) (s_Suses_expr : (List ByteArray) → (List ByteArray) → (List ByteArray) → TE → Option (List ByteArray)) : Nat → (List ByteArray) → Int → Option (List ByteArray)
 | 0, _, _ => none
 | m + 1, v6, v7 => HZ p1 p2 p3 s_Suses_expr (C6 p1 p2 p3 s_Suses_expr m) v6 v7
def d_Suses_expr_j0 (p1 : (List ByteArray)) (p2 : (List ByteArray)) (p3 : TE) (s_Suses_expr : (List ByteArray) → (List ByteArray) → (List ByteArray) → TE → Option (List ByteArray)) (n : Nat) (v5 : (List ByteArray)) : Option (List ByteArray) :=
 (C6 p1 p2 p3 s_Suses_expr n v5 (0 : Int))
def Jg (s_Suses_expr : (List ByteArray) → (List ByteArray) → (List ByteArray) → TE → Option (List ByteArray)) (n : Nat) (p0 : (List ByteArray)) (p1 : (List ByteArray)) (p2 : (List ByteArray)) (p3 : TE) : Option (List ByteArray) :=
 (bif (O0 p3.Op).2 then ((Ye p0 p3.Src).bind fun v4 => (d_Suses_expr_j0 p1 p2 p3 s_Suses_expr n v4)) else (d_Suses_expr_j0 p1 p2 p3 s_Suses_expr n p0))
set_option maxRecDepth 100000 in
set_option maxHeartbeats 4000000 in
theorem Ae3 (s_Suses_expr : (List ByteArray) → (List ByteArray) → (List ByteArray) → TE → Option (List ByteArray)) (n : Nat) (p0 : (List ByteArray)) (p1 : (List ByteArray)) (p2 : (List ByteArray)) (p3 : TE) (H_s_Suses_expr : ∀ (p0 : (List ByteArray)) (p1 : (List ByteArray)) (p2 : (List ByteArray)) (p3 : TE) {r : (List ByteArray)}, s_Suses_expr p0 p1 p2 p3 = some r → ∀ {st : List Content} {x0 : Nat} {x1 : Nat} {x2 : Nat} (hx_x0 : st[x0]? = some (.map AD AV p0)) (hx_x1 : st[x1]? = some (.map AD AV p1)) (hx_x2 : st[x2]? = some (.map AD AV p2)) (hne_x0_x1 : (x0 == x1) = false) (hne_x0_x2 : (x0 == x2) = false) {st' : List Content} (hst : (List.set st x0 (.map AD AV r)) = st') {K : PV → List Content → Prop} (h : K (.tup []) st'), Av PR Ha [(.agg [(.map x0), (.map x1), (.map x2)]), (.agg [(.d (.int .i64 p3.Op)), (.d (.int .i64 p3.N)), (.d (.str p3.S)), (.d (.str p3.Name)), (.d (.str p3.Src)), (.d (.sl (List.map TE.row p3.Args)))])] st K) {r : (List ByteArray)} (hr : Jg s_Suses_expr n p0 p1 p2 p3 = some r) {x0 : Nat} {x1 : Nat} {x2 : Nat} (hx_x0 : st[x0]? = some (.map AD AV p0)) (hx_x1 : st[x1]? = some (.map AD AV p1)) (hx_x2 : st[x2]? = some (.map AD AV p2)) (hne_x0_x1 : (x0 == x1) = false) (hne_x0_x2 : (x0 == x2) = false) {st' : List Content} (hst : (List.set st x0 (.map AD AV r)) = st') {K : PV → List Content → Prop} (h : K (.tup []) st') : Av PR Ha [(.agg [(.map x0), (.map x1), (.map x2)]), (.agg [(.d (.int .i64 p3.Op)), (.d (.int .i64 p3.N)), (.d (.str p3.S)), (.d (.str p3.Name)), (.d (.str p3.Src)), (.d (.sl (List.map TE.row p3.Args)))])] st K := by
 subst hst
 refine Av.of Ap7 (Nat.le_of_ble_eq_true rfl) fun hwf => ?_
 rw [Ed]
 refine AQ ?_
 unfold VE
 rw [Jg] at hr
 refine Al (Af ?_)
 unfold Pt
 refine Gq (k := 0) rfl rfl (e_t eh) Bf (by exact rfl) ?_
 refine Gq (k := 1) rfl rfl (e_t (Ac rfl eh)) Bf (by exact rfl) ?_
 refine Aa (Ae ?_)
 refine By (fun f st' => ∃ (v5 : (List ByteArray)), d_Suses_expr_j0 p1 p2 p3 s_Suses_expr n v5 = some r ∧ f 2 = (.ptr (st.length + 0) 0) ∧ f 3 = (.ptr (st.length + 1) 0) ∧ st' = (List.set st x0 (.map AD AV v5)) ++ [(.box [(.map x0), (.map x1), (.map x2)]), (.box [(.d (.int .i64 p3.Op)), (.d (.int .i64 p3.N)), (.d (.str p3.S)), (.d (.str p3.Name)), (.d (.str p3.Src)), (.d (.sl (List.map TE.row p3.Args)))])]) ?_ ?_
 · refine Al (Af ?_)
   unfold PM
   refine AB (e_t eh) (by exact rfl) ?_
   refine Ap (e_t eh) ((Am rfl 1).trans rfl) (by exact rfl) ?_
   refine AJ (Ar (e_t eh) AF AM) ?_
   refine Ap3 p3.Op rfl ?_
   refine Ab (e_t eh) ?_
   refine HP (e_t eh) (by exact rfl) ?_
   refine HP (e_t (em rfl eh)) (by exact rfl) ?_
   refine Ab (e_t (em rfl eh)) (Ab (e_t (em rfl eh)) (Aa (Ae (Al (Af ?_)))))
   unfold Pu
   refine Ab (e_t eh) (Aa (Ae ?_))
   refine AC (e_t eh) hr (fun hr => ?_) (fun hr => ?_)
   rotate_left
   · refine AO (Ae ?_)
     exact ⟨p0, hr, (Ak rfl (Ac rfl eh)), (Ak rfl (em rfl eh)), (congrArg (· ++ _) ((HQ hx_x0).symm.trans rfl))⟩
   refine Af ?_
   unfold Px
   refine AB (e_t (Ak rfl (Ac rfl eh))) (by exact rfl) ?_
   refine Ap (e_t eh) ((Am rfl 0).trans rfl) (by exact rfl) ?_
   refine AB (e_t (Ak rfl (Ac rfl (em rfl eh)))) (by exact rfl) ?_
   refine Ap (e_t eh) ((Am rfl 1).trans rfl) (by exact rfl) ?_
   refine RU (e_t (Ac rfl eh)) (e_t eh) e_c (GL hx_x0) (fun _ => ((Oi hx_x0).trans (congrArg (· ++ _) rfl))) hr (fun v4 hr => ?_)
   refine Aa (Ae ?_)
   exact ⟨v4, hr, (Ak rfl (Ad rfl (Ac rfl eh))), (Ak rfl (Ad rfl (em rfl eh))), rfl⟩
 rintro f st' ⟨v5, hr, h2, h3, rfl⟩
 rw [d_Suses_expr_j0] at hr
 refine Al (Af ?_)
 unfold Pz
 refine AB (e_t h3) (by exact rfl) ?_
 refine Ap (e_t eh) ((Am (AY rfl) 1).trans rfl) (by exact rfl) ?_
 refine Bh (row := TE.row) (AP (e_t eh) Bt) ?_
 refine Ab e_c (Aa (Ae ?_))
 refine AT ?_
 refine BX (fun m f st' => ∃ (v6 : (List ByteArray)), ∃ (v7 : Int), C6 p1 p2 p3 s_Suses_expr m v6 v7 = some r ∧ f 2 = (.ptr (st.length + 0) 0) ∧ f 20 = (.d (.sl (List.map TE.row p3.Args))) ∧ f 21 = (.d (.int .i64 (p3.Args.length : Int))) ∧ f 22 = (.d (.int .i64 v7)) ∧ st' = (List.set st x0 (.map AD AV v6)) ++ [(.box [(.map x0), (.map x1), (.map x2)]), (.box [(.d (.int .i64 p3.Op)), (.d (.int .i64 p3.N)), (.d (.str p3.S)), (.d (.str p3.Name)), (.d (.str p3.Src)), (.d (.sl (List.map TE.row p3.Args)))])]) n (Ghost.refl _) ⟨v5, (0 : Int), hr, (Ad rfl h2), (Ac rfl eh), (em rfl eh), eh, rfl⟩ ?_
 rintro m f st' ⟨v6, v7, hr, h2, h20, h21, h22, rfl⟩
 cases m with
 | zero => cases hr
 | succ m_0 =>
   rw [C6] at hr
   generalize hrec_0 : C6 p1 p2 p3 s_Suses_expr m_0 = q0 at hr
   rw [HZ] at hr
   unfold Qg
   refine Al (Af ?_)
   unfold Ql
   refine As (e_t h22) (e_t h21) (CM ?_)
   refine Aa (Ae (Al ?_))
   refine AC (e_t eh) hr (fun hr => ?_) (fun hr => ?_)
   rotate_left
   · refine CG ?_
     refine AW ?_
     refine AW ?_
     refine DF ?_
     cases hr
     exact AA2 AH AM8 (Aq6 (WF.setMap hwf) (AY rfl)) h
   refine AO (Ae (Al ?_))
   refine AT ?_
   refine Al (Af ?_)
   unfold PE
   refine Br (row := TE.row) (AP (e_t (em rfl h20)) Bt) (e_t (em rfl h22)) hr TE.row_eq (fun _ => rfl) (fun v8 hr => ?_)
   refine Dc (e_t eh) (Nat.le_of_ble_eq_true rfl) (by exact rfl) ?_
   refine Cn (k := 2) (AY rfl) rfl ?_
   refine Bl (e_t eh) ((Am (AY rfl) 2).trans rfl) (e_t (em rfl eh)) Bf rfl (Nat.le_of_ble_eq_true rfl) (by exact rfl) (cells' := [(.d (.int .i64 v8.Op)), (.d (.int .i64 v8.N)), (.d (.str v8.S)), (.d (.str v8.Name)), (.d (.str v8.Src)), (.d (.sl (List.map TE.row v8.Args)))]) (by exact rfl) (Bo (AY rfl) _ _) ?_
   refine Aa (Ae (Af ?_))
   unfold PS
   refine Bw (e_t (Ad rfl h2)) ((Am (AY rfl) 0).trans rfl) (Nat.le_of_ble_eq_true rfl) (by exact rfl) ?_
   refine Bw (e_t (em rfl eh)) ((Am (AY rfl) 2).trans rfl) (Nat.le_of_ble_eq_true rfl) (by exact rfl) ?_
   obtain ⟨v9, hc_v9, hr⟩ := bind_some hr
   refine AJ (Ar (e_t (em rfl eh)) (Bx (Aq Qa (Aq Qa (Aq Qa B3)))) (Ar (e_t eh) (Bx (Aq f_d (Aq f_d (Aq f_d (Aq f_d (Aq f_d (Aq f_d B3))))))) AM)) ?_
   refine H_s_Suses_expr v6 p1 p2 v8 hc_v9 (GL (CT hx_x0)) (GL (Bd hx_x1 hne_x0_x1)) (GL (Bd hx_x2 hne_x0_x2)) hne_x0_x1 hne_x0_x2 ((Oi (CT hx_x0)).trans (congrArg (· ++ _) Ok)) ?_
   refine Aa ?_
   refine BB ?_
   refine Ae (Af ?_)
   unfold Py
   refine As (e_t (Ad rfl (Ac rfl (em rfl h22)))) e_c (BU ?_)
   refine Ab (e_t eh) (Aa (Ae ?_))
   exact ⟨m_0, _, Nat.lt_succ_self m_0, Ghost.cut _ (st.length + 2) (Nat.le_add_right _ _), v9, (IntKind.wrap .i64 (v7 + (1 : Int))), (by rw [hrec_0]; exact hr), ((congrArg (cutV _) (Ak rfl (em rfl h2))).trans (by simp [cutV, AK])), ((congrArg (cutV _) (Ak rfl (em rfl h20))).trans (v_d)), ((congrArg (cutV _) (Ak rfl (em rfl h21))).trans (v_d)), ((congrArg (cutV _) eh).trans (v_d)), (EN (l0 := [(.box [(.map x0), (.map x1), (.map x2)]), (.box [(.d (.int .i64 p3.Op)), (.d (.int .i64 p3.N)), (.d (.str p3.S)), (.d (.str p3.Name)), (.d (.str p3.Src)), (.d (.sl (List.map TE.row p3.Args)))])]) (l1 := _) (WF.setMap hwf) (AY rfl) rfl (by simp [KH, cutV, AK, AK.belowL, Pp hx_x0, Pp hx_x1, Pp hx_x2]))⟩
def BS : Nat → (List ByteArray) → (List ByteArray) → (List ByteArray) → TE → Option (List ByteArray)
 | 0, _, _, _, _ => none
 | n + 1, p0, p1, p2, p3 => Jg (BS n) n p0 p1 p2 p3
theorem Sq : ∀ n : Nat, (∀ (p0 : (List ByteArray)) (p1 : (List ByteArray)) (p2 : (List ByteArray)) (p3 : TE) {r : (List ByteArray)}, BS n p0 p1 p2 p3 = some r → ∀ {st : List Content} {x0 : Nat} {x1 : Nat} {x2 : Nat} (hx_x0 : st[x0]? = some (.map AD AV p0)) (hx_x1 : st[x1]? = some (.map AD AV p1)) (hx_x2 : st[x2]? = some (.map AD AV p2)) (hne_x0_x1 : (x0 == x1) = false) (hne_x0_x2 : (x0 == x2) = false) {st' : List Content} (hst : (List.set st x0 (.map AD AV r)) = st') {K : PV → List Content → Prop} (h : K (.tup []) st'), Av PR Ha [(.agg [(.map x0), (.map x1), (.map x2)]), (.agg [(.d (.int .i64 p3.Op)), (.d (.int .i64 p3.N)), (.d (.str p3.S)), (.d (.str p3.Name)), (.d (.str p3.Src)), (.d (.sl (List.map TE.row p3.Args)))])] st K)
 | 0 => fun _ _ _ _ _ hr => (by rw [BS] at hr; cases hr)
 | n + 1 => fun p0 p1 p2 p3 _ hr _ _ _ _ hx_x0 hx_x1 hx_x2 hne_x0_x1 hne_x0_x2 _ hst _ h => Ae3 (BS n) n p0 p1 p2 p3 (Sq n) (by rw [BS] at hr; exact hr) hx_x0 hx_x1 hx_x2 hne_x0_x1 hne_x0_x2 hst h
theorem An3 (n : Nat) (p0 : (List ByteArray)) (p1 : (List ByteArray)) (p2 : (List ByteArray)) (p3 : TE) {r : (List ByteArray)} (hr : BS n p0 p1 p2 p3 = some r) {x0 : Nat} {x1 : Nat} {x2 : Nat} (hx_x0 : st[x0]? = some (.map AD AV p0)) (hx_x1 : st[x1]? = some (.map AD AV p1)) (hx_x2 : st[x2]? = some (.map AD AV p2)) (hne_x0_x1 : (x0 == x1) = false) (hne_x0_x2 : (x0 == x2) = false) {st' : List Content} (hst : (List.set st x0 (.map AD AV r)) = st') {K : PV → List Content → Prop} (h : K (.tup []) st') : Av PR Ha [(.agg [(.map x0), (.map x1), (.map x2)]), (.agg [(.d (.int .i64 p3.Op)), (.d (.int .i64 p3.N)), (.d (.str p3.S)), (.d (.str p3.Name)), (.d (.str p3.Src)), (.d (.sl (List.map TE.row p3.Args)))])] st K := (Sq n) p0 p1 p2 p3 hr hx_x0 hx_x1 hx_x2 hne_x0_x1 hne_x0_x2 hst h
set_option maxRecDepth 100000 in
theorem JN (p0 : List TS) {r : List TS} (hr : Yv 144 p0 = some r) {st : List Content} : Av PR DO [.d (.sl (List.map TS.row p0))] st (fun p st' => p = .own st.length 1 ∧ st' = st ++ [.row AU 1 (List.map TS.row r)]) := by
 have hb : p0.length * 144 ≤ 140737488355328 ∧ r = p0 := by
   unfold Yv at hr; split at hr
   · rename_i h; exact ⟨h, by cases hr; rfl⟩
   · cases hr
 obtain ⟨hb, rfl⟩ := hb
 have hz : ∀ row, row ∈ List.map TS.row r → row.length = 8 := J9 TS.row_eq
 refine Av.of_ownG Jh (Nat.le_of_ble_eq_true rfl) fun hwf => ?_
 rw [B5]
 refine AQ ?_
 unfold F6
 refine Al (Af ?_)
 unfold Fi
 refine Ab e_c (Aa (Ae (Al (Al (Af ?_)))))
 unfold Fm
 refine Ab (e_t (em rfl eh)) ?_
 refine AT2 (AP (e_t eh) Bt) (fun h0 => ?_) ?_
 · refine Aa (Ae ?_)
   refine Dy (e_t eh) ?_
   refine Al (Af ?_)
   unfold Fg
   refine Ab e_c (Aa (Ae (AI (AA ?_))))
   have hl : (st ++ [] : List Content).length = st.length := by simp
   refine ⟨_, Ghost.adoptV _ 2 [] AU 8 1 eh rfl (by simp), [.own st.length 1], st.length + 1, AG (by simp only [hl]; exact eh) AH, by omega, ?_, ?_⟩
   · simp [Hg, cutV, AK]
   · rw [h0]; simp only [List.append_nil]; exact Yn (hwf.push (fun cells h => by cases h)) (by simp)
 · refine Aa (Ae ?_)
   refine EZ (e_t eh) ?_
   refine AO (Ae (Al (Af ?_)))
   unfold Fj
   refine Db (rows := []) Eg ?_
   refine Ab (e_t (Ad rfl eh)) ?_
   refine AM1 (k := 0) rfl rfl (AP (e_t eh) Bt) hz (e_t (em rfl eh)) (by simp) (by simpa using hb) ?_
   refine Ab (e_t eh) (Aa (Ae (AI ?_)))
   refine ⟨_, Ghost.refl _, [.own (st.length + 0) 1], st.length + 1, AG eh AH, by omega, ?_, ?_⟩
   · simp [Hg, cutV, AK]
   · simp only [List.nil_append]; exact Yn (hwf.push (fun cells h => by cases h)) (by simp)
end Go.Ax
