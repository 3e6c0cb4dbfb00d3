import Derived.Test.YtojkpenjeglipaaIYT
import Derived.Test.YtojkpenjeglipaaICVX
import Derived.Test.YtojkpenjeglipaaICPrim
set_option linter.unusedVariables false
set_option linter.unusedSimpArgs false
namespace Go.Ax
attribute [local irreducible] BL ER FD Bf CF Fz B6 KZ HX upd ev u0 Dt frz A6 EB mmD bnd BV Ft Do CO GU Ht G2 cutV I1 Cv
variable {st : List Content}
def BT (p0 : (List TE)) (fn1 : TE → Option Bool) (q0 : Int → Option Int) (v1 : Int) : Option Int :=
 (bif (decide (v1 < (p0.length : Int))) then ((Dh p0 v1).bind fun v2 => ((fn1 v2).bind fun v3 => (bif v3 then some v1 else q0 (IntKind.wrap .i64 (v1 + (1 : Int)))))) else some (-1))
def AS (p0 : (List TE)) (fn1 : TE → Option Bool) : Nat → Int → Option Int
 | 0, _ => none
 | m + 1, v1 => BT p0 fn1 (AS p0 fn1 m) v1
def BM (n : Nat) (p0 : (List TE)) (fn1 : TE → Option Bool) : Option Int :=
 (AS p0 fn1 n (0 : Int))
set_option maxRecDepth 100000 in
set_option maxHeartbeats 4000000 in
theorem HY (n : Nat) (p0 : (List TE)) (fn1 : TE → Option Bool) {g_fn1 : FuncId} {p_fn1 q_fn1 : List PV} (H_fn1 : ∀ (a0 : TE) {r : Bool}, fn1 a0 = some r → ∀ {st : List Content} {K : PV → List Content → Prop}, K (.d (.bool r)) st → Aw PR g_fn1 (p_fn1 ++ [(.agg [(.d (.int .i64 a0.Op)), (.d (.int .i64 a0.N)), (.d (.str a0.S)), (.d (.str a0.Name)), (.d (.str a0.Src)), (.d (.sl (List.map TE.row a0.Args)))])] ++ q_fn1) st K) (B_fn1 : ∀ n, (AJ.belowL n p_fn1 && AJ.belowL n q_fn1) = true) {r : Int} (hr : BM n p0 fn1 = some r) {K : PV → List Content → Prop} (h : K (.d (.int .i64 r)) st) : Aw PR Dd [(.d (.sl (List.map TE.row p0))), (.fn g_fn1 p_fn1 q_fn1)] st K := by
 refine Aw.of H1 (Nat.le_of_ble_eq_true rfl) fun hwf => ?_
 rw [DX]
 refine AQ ?_
 unfold EQ
 rw [BM] at hr
 refine Al (Af ?_)
 unfold Ez
 refine Ab e_c (Aa (Ae (Al (Al (Af ?_)))))
 unfold Ee
 refine Ab (e_t (em rfl eh)) ?_
 refine Bh (row := TE.row) (AL (e_t eh) Bq) ?_
 refine Ab e_c (Aa (Ae ?_))
 refine AX ?_
 refine Ca (fun m f st' => ∃ (v1 : Int), AS p0 fn1 m v1 = some r ∧ f 0 = (.d (.sl (List.map TE.row p0))) ∧ f 1 = (.fn g_fn1 p_fn1 q_fn1) ∧ f 7 = (.d (.int .i64 (p0.length : Int))) ∧ f 8 = (.d (.int .i64 v1)) ∧ st' = st ++ []) n (Ghost.refl _) ⟨(0 : Int), hr, (Ad rfl eh), (Ad rfl (em rfl eh)), (em rfl eh), eh, rfl⟩ ?_
 rintro m f st' ⟨v1, hr, h0, h1, h7, h8, rfl⟩
 cases m with
 | zero => cases hr
 | succ m_0 =>
   rw [AS] at hr
   generalize hrec_0 : AS p0 fn1 m_0 = q0 at hr
   rw [BT] at hr
   unfold Eu
   refine Al (Af ?_)
   unfold Eh
   refine Ar (e_t h8) (e_t h7) (CL ?_)
   refine Aa (Ae (Al ?_))
   refine AC (e_t eh) hr (fun hr => ?_) (fun hr => ?_)
   rotate_left
   · refine CP ?_
     refine A0 ?_
     refine A0 ?_
     refine Ea ?_
     refine Ae (Al (Af ?_))
     unfold Ey
     refine Ab e_c (Aa (Ae (AI ?_)))
     cases hr
     exact A7 (AF eh AH) (AM AG v_d) (Av hwf) h
   refine AN (Ae (Al ?_))
   refine AX ?_
   refine Al (Af ?_)
   unfold El
   refine Ab (e_t (em rfl h8)) (Ab (e_t eh) (Aa (Ae (Al (Af ?_)))))
   unfold Ei
   refine Ab (e_t (Ac rfl (em rfl h1))) (Ab (e_t (Ad rfl h0)) (Ab (e_t (Ac rfl eh)) ?_))
   refine Bt (row := TE.row) (AL (e_t (em rfl eh)) Bq) (e_t eh) hr TE.row_eq (fun _ => rfl) (fun v2 hr => ?_)
   refine DH (e_t eh) (Nat.le_of_ble_eq_true rfl) (by exact rfl) ?_
   obtain ⟨v3, hc_v3, hr⟩ := bind_some hr
   refine Ao8 (e_t (Ad rfl eh)) (Ay (e_t eh) (BP (Aq f_d (Aq f_d (Aq f_d (Aq f_d (Aq f_d (Aq f_d Cw))))))) AR) rfl ?_
   refine H_fn1 v2 hc_v3 ?_
   refine Aa (Ae ?_)
   refine AC (e_t eh) hr (fun hr => ?_) (fun hr => ?_)
   rotate_left
   · refine AN ?_
     refine BA ?_
     refine Ae (Af ?_)
     unfold Eo
     refine Ar (e_t (Ak rfl (em rfl h8))) e_c (BX ?_)
     refine Ab (e_t eh) (Aa (Ae ?_))
     exact ⟨m_0, _, Nat.lt_succ_self m_0, Ghost.refl _, (IntKind.wrap .i64 (v1 + (1 : Int))), (by rw [hrec_0]; exact hr), (Ak rfl (Ac rfl (em rfl h0))), (Ak rfl (Ac rfl (em rfl h1))), (Ak rfl (Ac rfl (em rfl h7))), eh, rfl⟩
   refine Al (Af ?_)
   unfold Ep
   refine Ab (e_t (Ad rfl (Ac rfl eh))) (Ab (e_t eh) (Aa (Ae (AI ?_))))
   refine BE ?_
   refine AA (AA ?_)
   refine BE ?_
   refine AA ?_
   cases hr
   exact A7 (AF eh AH) (AM AG v_d) (Av hwf) h
def Bp (n : Nat) (p0 : (List TE)) (fn1 : TE → Option Bool) : Option Bool :=
 ((BM n p0 fn1).bind fun v1 => some (decide ((0 : Int) ≤ v1)))
set_option maxRecDepth 100000 in
set_option maxHeartbeats 4000000 in
theorem Ex (n : Nat) (p0 : (List TE)) (fn1 : TE → Option Bool) {g_fn1 : FuncId} {p_fn1 q_fn1 : List PV} (H_fn1 : ∀ (a0 : TE) {r : Bool}, fn1 a0 = some r → ∀ {st : List Content} {K : PV → List Content → Prop}, K (.d (.bool r)) st → Aw PR g_fn1 (p_fn1 ++ [(.agg [(.d (.int .i64 a0.Op)), (.d (.int .i64 a0.N)), (.d (.str a0.S)), (.d (.str a0.Name)), (.d (.str a0.Src)), (.d (.sl (List.map TE.row a0.Args)))])] ++ q_fn1) st K) (B_fn1 : ∀ n, (AJ.belowL n p_fn1 && AJ.belowL n q_fn1) = true) {r : Bool} (hr : Bp n p0 fn1 = some r) {K : PV → List Content → Prop} (h : K (.d (.bool r)) st) : Aw PR B0 [(.d (.sl (List.map TE.row p0))), (.fn g_fn1 p_fn1 q_fn1)] st K := by
 refine Aw.of Hl (Nat.le_of_ble_eq_true rfl) fun hwf => ?_
 rw [DX]
 refine AQ ?_
 unfold Er
 rw [Bp] at hr
 refine Al (Af ?_)
 unfold DG
 refine Ab e_c (Aa (Ae (Al (Af ?_))))
 unfold Dx
 refine Ab (e_t (em rfl eh)) (Ab (e_t (Ac rfl (em rfl eh))) ?_)
 obtain ⟨v1, hc_v1, hr⟩ := bind_some hr
 refine AP (Ay (e_t (em rfl eh)) AG (Ay (e_t eh) LD AR)) ?_
 refine HY n p0 fn1 H_fn1 B_fn1 hc_v1 ?_
 refine Ar (e_t eh) e_c (ET ?_)
 refine Ab (e_t eh) (Aa (Ae (AI ?_)))
 cases hr
 exact A7 (AF eh AH) (AM AG v_d) (Av hwf) h
def Mf (p0 : Int) (v3 : Bool) : (Int × Bool) :=
 (bif v3 then ((1 : Int), false) else (bif (decide (p0 = (21 : Int))) then ((1 : Int), true) else (bif (decide ((22 : Int) ≤ p0)) then (bif (decide (p0 ≤ (24 : Int))) then ((2 : Int), true) else ((-1), false)) else ((-1), false))))
def Mg (p0 : Int) (v2 : Bool) : (Int × Bool) :=
 (bif v2 then ((2 : Int), false) else (bif (decide (p0 = (19 : Int))) then (Mf p0 true) else (Mf p0 (decide (p0 = (20 : Int))))))
def LU (p0 : Int) (v1 : Bool) : (Int × Bool) :=
 (bif v1 then ((0 : Int), false) else (bif (decide ((6 : Int) ≤ p0)) then (Mg p0 (decide (p0 ≤ (18 : Int)))) else (Mg p0 false)))
def OG (p0 : Int) : (Int × Bool) :=
 (bif (decide ((1 : Int) ≤ p0)) then (LU p0 (decide (p0 ≤ (5 : Int)))) else (LU p0 false))
set_option maxRecDepth 100000 in
set_option maxHeartbeats 4000000 in
theorem Ag0 (p0 : Int) {r : (Int × Bool)} (hr : OG p0 = r) {K : PV → List Content → Prop} (h : K (.tup [(.d (.int .i64 r.1)), (.d (.bool r.2))]) st) : Aw PR U8 [(.d (.int .i64 p0))] st K := by
 refine Aw.of AL0 (Nat.le_of_ble_eq_true rfl) fun hwf => ?_
 rw [Cm]
 refine AQ ?_
 unfold Ay4
 rw [OG] at hr
 refine Al (Af ?_)
 unfold YV
 refine Ab e_c (Ab e_c (Aa (Ae (Al ?_))))
 refine AX ?_
 refine BD (fun f st' => ∃ (v1 : Bool), LU p0 v1 = r ∧ f 0 = (.d (.int .i64 p0)) ∧ f 4 = (.d (.bool v1)) ∧ st' = st ++ []) ?_ ?_
 · refine Af ?_
   unfold XX
   refine Bo ?_
   unfold Tp
   refine Ab (e_t (Ac rfl eh)) ?_
   refine Ar (e_t eh) e_c (ET ?_)
   refine Ab (e_t eh) ?_
   refine Au eh hr (fun hr => ?_) (fun hr => ?_)
   rotate_left
   · refine Ah eh (Ah (em rfl eh) (Ao (e_t (Ac rfl eh)) e_c (Aa ?_)))
     unfold OU
     refine Ab (e_t eh) (Aa (Ae ?_))
     exact ⟨false, hr, (Ak rfl (Ac rfl eh)), eh, rfl⟩
   refine Aj eh (Ab (e_t (Ad rfl (Ac rfl eh))) (Aj (em rfl eh) ?_))
   refine Ar (e_t eh) e_c (JE ?_)
   refine An (e_t (Ac rfl eh)) (e_t eh) (Aa ?_)
   unfold OU
   refine Ab (e_t eh) (Aa (Ae ?_))
   exact ⟨(decide (p0 ≤ (5 : Int))), hr, (Ak rfl (Ac rfl eh)), eh, rfl⟩
 rintro f st' ⟨v1, hr, h0, h4, rfl⟩
 rw [LU] at hr
 refine AC (e_t h4) hr (fun hr => ?_) (fun hr => ?_)
 · refine Al (Af ?_)
   unfold Xz
   refine Ab e_c (Ab e_c (Aa (Ae (AI ?_))))
   refine BE ?_
   refine AA ?_
   subst hr
   exact A7 (AF (em rfl eh) (AF eh AH)) (HE (Br FS (Br FS Hz)) rfl) (Av hwf) h
 refine BD (fun f st' => ∃ (v2 : Bool), Mg p0 v2 = r ∧ f 0 = (.d (.int .i64 p0)) ∧ f 11 = (.d (.bool v2)) ∧ st' = st ++ []) ?_ ?_
 · refine Af ?_
   unfold YO
   refine Bo ?_
   unfold Tg
   refine Ab (e_t h0) ?_
   refine Ar (e_t eh) e_c (ET ?_)
   refine Ab (e_t eh) ?_
   refine Au eh hr (fun hr => ?_) (fun hr => ?_)
   rotate_left
   · refine Ah eh (Ah (em rfl eh) (Ao (e_t (Ac rfl eh)) e_c (Aa ?_)))
     unfold OC
     refine Ab (e_t eh) (Aa (Ae ?_))
     exact ⟨false, hr, (Ad rfl (Ad rfl h0)), eh, rfl⟩
   refine Aj eh (Ab (e_t (Ad rfl h0)) (Aj (em rfl eh) ?_))
   refine Ar (e_t eh) e_c (JE ?_)
   refine An (e_t (Ac rfl eh)) (e_t eh) (Aa ?_)
   unfold OC
   refine Ab (e_t eh) (Aa (Ae ?_))
   exact ⟨(decide (p0 ≤ (18 : Int))), hr, (Ad rfl (Ad rfl h0)), eh, rfl⟩
 rintro f st' ⟨v2, hr, h0, h11, rfl⟩
 rw [Mg] at hr
 refine AC (e_t h11) hr (fun hr => ?_) (fun hr => ?_)
 · refine Al (Af ?_)
   unfold YS
   refine Ab e_c (Ab e_c (Aa (Ae (AI ?_))))
   refine BE ?_
   refine AA ?_
   subst hr
   exact A7 (AF (em rfl eh) (AF eh AH)) (HE (Br FS (Br FS Hz)) rfl) (Av hwf) h
 refine BD (fun f st' => ∃ (v3 : Bool), Mf p0 v3 = r ∧ f 0 = (.d (.int .i64 p0)) ∧ f 18 = (.d (.bool v3)) ∧ st' = st ++ []) ?_ ?_
 · refine Af ?_
   unfold XY
   refine Bo ?_
   unfold T8
   refine Ab (e_t h0) ?_
   refine Ar (e_t eh) e_c (BZ ?_)
   refine Ab (e_t eh) ?_
   refine Au eh hr (fun hr => ?_) (fun hr => ?_)
   · refine Ah eh (Ah (em rfl eh) (An (e_t (Ac rfl eh)) e_c (Aa ?_)))
     unfold OH
     refine Ab (e_t eh) (Aa (Ae ?_))
     exact ⟨true, hr, (Ad rfl (Ad rfl h0)), eh, rfl⟩
   refine Aj eh (Ab (e_t (Ad rfl h0)) (Aj (em rfl eh) ?_))
   refine Ar (e_t eh) e_c (BZ ?_)
   refine Ao (e_t (Ac rfl eh)) (e_t eh) (Aa ?_)
   unfold OH
   refine Ab (e_t eh) (Aa (Ae ?_))
   exact ⟨(decide (p0 = (20 : Int))), hr, (Ad rfl (Ad rfl h0)), eh, rfl⟩
 rintro f st' ⟨v3, hr, h0, h18, rfl⟩
 rw [Mf] at hr
 refine AC (e_t h18) hr (fun hr => ?_) (fun hr => ?_)
 · refine Al (Af ?_)
   unfold Yw
   refine Ab e_c (Ab e_c (Aa (Ae (AI ?_))))
   refine BE ?_
   refine AA ?_
   subst hr
   exact A7 (AF (em rfl eh) (AF eh AH)) (HE (Br FS (Br FS Hz)) rfl) (Av hwf) h
 refine Al (Af ?_)
 unfold Yp
 refine Ab (e_t h0) ?_
 refine Ar (e_t eh) e_c (BZ ?_)
 refine Ab (e_t eh) (Aa (Ae ?_))
 refine AC (e_t eh) hr (fun hr => ?_) (fun hr => ?_)
 · refine Al (Af ?_)
   unfold X6
   refine Ab e_c (Ab e_c (Aa (Ae (AI ?_))))
   refine BE ?_
   refine AA ?_
   subst hr
   exact A7 (AF (em rfl eh) (AF eh AH)) (HE (Br FS (Br FS Hz)) rfl) (Av hwf) h
 refine Al (Af ?_)
 unfold YN
 refine Bo ?_
 unfold Ui
 refine Ab (e_t (Ac rfl (em rfl h0))) ?_
 refine Ar (e_t eh) e_c (ET ?_)
 refine Ab (e_t eh) ?_
 refine Au eh hr (fun hr => ?_) (fun hr => ?_)
 rotate_left
 · refine Ah eh (Ah (em rfl eh) (Ao (e_t (Ac rfl eh)) e_c (Aa ?_)))
   unfold OQ
   refine Ab (e_t eh) (Aa (Ae ?_))
   refine EP (e_t eh) ?_
   refine AN ?_
   refine BA ?_
   refine Ae (Al (Af ?_))
   unfold QM
   refine Ab e_c (Ab e_c (Aa (Ae (AI ?_))))
   subst hr
   exact A7 (AF (em rfl eh) (AF eh AH)) (HE (Br FS (Br FS Hz)) rfl) (Av hwf) h
 refine Aj eh (Ab (e_t (Ad rfl (Ac rfl (em rfl h0)))) (Aj (em rfl eh) ?_))
 refine Ar (e_t eh) e_c (JE ?_)
 refine An (e_t (Ac rfl eh)) (e_t eh) (Aa ?_)
 unfold OQ
 refine Ab (e_t eh) (Aa (Ae ?_))
 refine AC (e_t eh) hr (fun hr => ?_) (fun hr => ?_)
 · refine Al (Af ?_)
   unfold W0
   refine Ab e_c (Ab e_c (Aa (Ae (AI ?_))))
   refine BE ?_
   refine AA ?_
   subst hr
   exact A7 (AF (em rfl eh) (AF eh AH)) (HE (Br FS (Br FS Hz)) rfl) (Av hwf) h
 refine AN ?_
 refine BA ?_
 refine Ae (Al (Af ?_))
 unfold QM
 refine Ab e_c (Ab e_c (Aa (Ae (AI ?_))))
 subst hr
 exact A7 (AF (em rfl eh) (AF eh AH)) (HE (Br FS (Br FS Hz)) rfl) (Av hwf) h
end Go.Ax
