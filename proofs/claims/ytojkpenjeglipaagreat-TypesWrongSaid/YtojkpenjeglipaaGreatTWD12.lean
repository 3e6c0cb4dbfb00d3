import Derived.Test.YtojkpenjeglipaaGreatTWT
import Derived.Test.YtojkpenjeglipaaGreatTCVX
import Derived.Test.YtojkpenjeglipaaGreatTCPrim
set_option linter.unusedVariables false
set_option maxRecDepth 100000
set_option maxHeartbeats 4000000
namespace Go.Ax
attribute [local irreducible] BH FA F2 Bf DM Hp Cq V4 Lz upd ev u0 Dh frz A4 EO mmD bnd Ch Gk DU C2 Ie JH FZ cutV NL CO
variable {st : List Content}
def BR (p0 : (List TE)) (fn1 : TE → Option Bool) (q0 : Int → Option Int) (v1 : Int) : Option Int :=
 (bif (decide (v1 < (p0.length : Int))) then ((Dw p0 v1).bind fun v2 => ((fn1 v2).bind fun v3 => (bif v3 then some v1 else q0 (IntKind.wrap .i64 (v1 + (1 : Int)))))) else some (-1))
def AR (p0 : (List TE)) (fn1 : TE → Option Bool) : Nat → Int → Option Int
 | 0, _ => none
 | m + 1, v1 => BR p0 fn1 (AR p0 fn1 m) v1
def BI (n : Nat) (p0 : (List TE)) (fn1 : TE → Option Bool) : Option Int :=
 (AR p0 fn1 n (0 : Int))
theorem I0 (n : Nat) (p0 : (List TE)) (fn1 : TE → Option Bool) {g_fn1 : FuncId} {p_fn1 q_fn1 : List PV} (H_fn1 : ∀ (a0 : TE) {r : Bool}, fn1 a0 = some r → ∀ {st : List Content} {K : PV → List Content → Prop}, K (.d (.bool r)) st → Aw PR g_fn1 (p_fn1 ++ [(.agg [(.d (.int .i64 a0.Op)), (.d (.int .i64 a0.N)), (.d (.str a0.S)), (.d (.str a0.Name)), (.d (.str a0.Src)), (.d (.sl (List.map TE.row a0.Args)))])] ++ q_fn1) st K) (B_fn1 : ∀ n, (AP.belowL n p_fn1 && AP.belowL n q_fn1) = true) {r : Int} (hr : BI n p0 fn1 = some r) {K : PV → List Content → Prop} (h : K (.d (.int .i64 r)) st) : Aw PR Ce [(.d (.sl (List.map TE.row p0))), (.fn g_fn1 p_fn1 q_fn1)] st K := by
 refine Aw.of EY (Nat.le_of_ble_eq_true rfl) fun hwf => ?_
 rw [ED]
 refine AS ?_
 unfold C8
 rw [BI] at hr
 refine Al (Af ?_)
 unfold Es
 refine Ab e_c (Aa (Ae (Al (Al (Af ?_)))))
 unfold Ez
 refine Ab (e_t (em rfl eh)) ?_
 refine Bc (row := TE.row) (AN (e_t eh) Bo) ?_
 refine Ab e_c (Aa (Ae ?_))
 refine A3 ?_
 refine Cy (fun m f st' => ∃ (v1 : Int), AR p0 fn1 m v1 = some r ∧ f 0 = (.d (.sl (List.map TE.row p0))) ∧ f 1 = (.fn g_fn1 p_fn1 q_fn1) ∧ f 7 = (.d (.int .i64 (p0.length : Int))) ∧ f 8 = (.d (.int .i64 v1)) ∧ st' = st ++ []) n (Ghost.refl _) ⟨(0 : Int), hr, (Ad rfl eh), (Ad rfl (em rfl eh)), (em rfl eh), eh, rfl⟩ ?_
 rintro m f st' ⟨v1, hr, h0, h1, h7, h8, rfl⟩
 cases m with
 | zero => cases hr
 | succ m_0 =>
   rw [AR] at hr
   generalize hrec_0 : AR p0 fn1 m_0 = q0 at hr
   rw [BR] at hr
   unfold Eh
   refine Al (Af ?_)
   unfold Ex
   refine Ap (e_t h8) (e_t h7) (Da ?_)
   refine Aa (Ae (Al ?_))
   refine AB (e_t eh) hr (fun hr => ?_) (fun hr => ?_)
   rotate_left
   · refine Dj ?_
     refine A8 ?_
     refine A8 ?_
     refine Fo ?_
     refine Ae (Al (Af ?_))
     unfold Ek
     refine Ab e_c (Aa (Ae (AH ?_)))
     cases hr
     exact A5 (AE eh AG) (AK AF v_d) (As hwf) h
   refine AM (Ae (Al ?_))
   refine A3 ?_
   refine Al (Af ?_)
   unfold EB
   refine Ab (e_t (em rfl h8)) (Ab (e_t eh) (Aa (Ae (Al (Af ?_)))))
   unfold Eg
   refine Ab (e_t (Ac rfl (em rfl h1))) (Ab (e_t (Ad rfl h0)) (Ab (e_t (Ac rfl eh)) ?_))
   refine Bt (row := TE.row) (AN (e_t (em rfl eh)) Bo) (e_t eh) hr TE.row_eq (fun _ => rfl) (fun v2 hr => ?_)
   refine Ft (e_t eh) (Nat.le_of_ble_eq_true rfl) (by rfl) ?_
   obtain ⟨v3, hc_v3, hr⟩ := bind_some hr
   refine BG3 (e_t (Ad rfl eh)) (Az (e_t eh) (Cw (Aq f_d (Aq f_d (Aq f_d (Aq f_d (Aq f_d (Aq f_d Dg))))))) A1) rfl ?_
   refine H_fn1 v2 hc_v3 ?_
   refine Aa (Ae ?_)
   refine AB (e_t eh) hr (fun hr => ?_) (fun hr => ?_)
   rotate_left
   · refine AM ?_
     refine BQ ?_
     refine Ae (Af ?_)
     unfold EA
     refine Ap (e_t (Ak rfl (em rfl h8))) e_c (B4 ?_)
     refine Ab (e_t eh) (Aa (Ae ?_))
     exact ⟨m_0, _, Nat.lt_succ_self m_0, Ghost.refl _, (IntKind.wrap .i64 (v1 + (1 : Int))), (by rw [hrec_0]; exact hr), (Ak rfl (Ac rfl (em rfl h0))), (Ak rfl (Ac rfl (em rfl h1))), (Ak rfl (Ac rfl (em rfl h7))), eh, rfl⟩
   refine Al (Af ?_)
   unfold Eu
   refine Ab (e_t (Ad rfl (Ac rfl eh))) (Ab (e_t eh) (Aa (Ae (AH ?_))))
   refine Bw ?_
   refine Ay (Ay ?_)
   refine Bw ?_
   refine Ay ?_
   cases hr
   exact A5 (AE eh AG) (AK AF v_d) (As hwf) h
def Bg (n : Nat) (p0 : (List TE)) (fn1 : TE → Option Bool) : Option Bool :=
 ((BI n p0 fn1).bind fun v1 => some (decide ((0 : Int) ≤ v1)))
theorem El (n : Nat) (p0 : (List TE)) (fn1 : TE → Option Bool) {g_fn1 : FuncId} {p_fn1 q_fn1 : List PV} (H_fn1 : ∀ (a0 : TE) {r : Bool}, fn1 a0 = some r → ∀ {st : List Content} {K : PV → List Content → Prop}, K (.d (.bool r)) st → Aw PR g_fn1 (p_fn1 ++ [(.agg [(.d (.int .i64 a0.Op)), (.d (.int .i64 a0.N)), (.d (.str a0.S)), (.d (.str a0.Name)), (.d (.str a0.Src)), (.d (.sl (List.map TE.row a0.Args)))])] ++ q_fn1) st K) (B_fn1 : ∀ n, (AP.belowL n p_fn1 && AP.belowL n q_fn1) = true) {r : Bool} (hr : Bg n p0 fn1 = some r) {K : PV → List Content → Prop} (h : K (.d (.bool r)) st) : Aw PR Bv [(.d (.sl (List.map TE.row p0))), (.fn g_fn1 p_fn1 q_fn1)] st K := by
 refine Aw.of Ew (Nat.le_of_ble_eq_true rfl) fun hwf => ?_
 rw [ED]
 refine AS ?_
 unfold CR
 rw [Bg] at hr
 refine Al (Af ?_)
 unfold Dy
 refine Ab e_c (Aa (Ae (Al (Af ?_))))
 unfold DG
 refine Ab (e_t (em rfl eh)) (Ab (e_t (Ac rfl (em rfl eh))) ?_)
 obtain ⟨v1, hc_v1, hr⟩ := bind_some hr
 refine AY (Az (e_t (em rfl eh)) AF (Az (e_t eh) Y3 A1)) ?_
 refine I0 n p0 fn1 H_fn1 B_fn1 hc_v1 ?_
 refine Ap (e_t eh) e_c (E5 ?_)
 refine Ab (e_t eh) (Aa (Ae (AH ?_)))
 cases hr
 exact A5 (AE eh AG) (AK AF v_d) (As hwf) h
def Sw (p0 : Int) (v3 : Bool) : (Int × Bool) :=
 (bif v3 then ((1 : Int), false) else (bif (decide (p0 = (21 : Int))) then ((1 : Int), true) else (bif (decide ((22 : Int) ≤ p0)) then (bif (decide (p0 ≤ (24 : Int))) then ((2 : Int), true) else ((-1), false)) else ((-1), false))))
def Tb (p0 : Int) (v2 : Bool) : (Int × Bool) :=
 (bif v2 then ((2 : Int), false) else (bif (decide (p0 = (19 : Int))) then (Sw p0 true) else (Sw p0 (decide (p0 = (20 : Int))))))
def SK (p0 : Int) (v1 : Bool) : (Int × Bool) :=
 (bif v1 then ((0 : Int), false) else (bif (decide ((6 : Int) ≤ p0)) then (Tb p0 (decide (p0 ≤ (18 : Int)))) else (Tb p0 false)))
def Am2 (p0 : Int) : (Int × Bool) :=
 (bif (decide ((1 : Int) ≤ p0)) then (SK p0 (decide (p0 ≤ (5 : Int)))) else (SK p0 false))
theorem BP7 (p0 : Int) {r : (Int × Bool)} (hr : Am2 p0 = r) {K : PV → List Content → Prop} (h : K (.tup [(.d (.int .i64 r.1)), (.d (.bool r.2))]) st) : Aw PR Az0 [(.d (.int .i64 p0))] st K := by
 refine Aw.of BP0 (Nat.le_of_ble_eq_true rfl) fun hwf => ?_
 rw [CE]
 refine AS ?_
 unfold Bv9
 rw [Am2] at hr
 refine Al (Af ?_)
 unfold Bj7
 refine Ab e_c (Ab e_c (Aa (Ae (Al ?_))))
 refine A3 ?_
 refine BL (fun f st' => ∃ (v1 : Bool), SK p0 v1 = r ∧ f 0 = (.d (.int .i64 p0)) ∧ f 4 = (.d (.bool v1)) ∧ st' = st ++ []) ?_ ?_
 · refine Af ?_
   unfold Bf0
   refine Bh ?_
   unfold AI3
   refine Ab (e_t (Ac rfl eh)) ?_
   refine Ap (e_t eh) e_c (E5 ?_)
   refine Ab (e_t eh) ?_
   refine Ar eh hr (fun hr => ?_) (fun hr => ?_)
   rotate_left
   · refine Ah eh (Ah (em rfl eh) (An (e_t (Ac rfl eh)) e_c (Aa ?_)))
     unfold Xy
     refine Ab (e_t eh) (Aa (Ae ?_))
     exact ⟨false, hr, (Ak rfl (Ac rfl eh)), eh, rfl⟩
   refine Aj eh (Ab (e_t (Ad rfl (Ac rfl eh))) (Aj (em rfl eh) ?_))
   refine Ap (e_t eh) e_c (M5 ?_)
   refine Am (e_t (Ac rfl eh)) (e_t eh) (Aa ?_)
   unfold Xy
   refine Ab (e_t eh) (Aa (Ae ?_))
   exact ⟨(decide (p0 ≤ (5 : Int))), hr, (Ak rfl (Ac rfl eh)), eh, rfl⟩
 rintro f st' ⟨v1, hr, h0, h4, rfl⟩
 rw [SK] at hr
 refine AB (e_t h4) hr (fun hr => ?_) (fun hr => ?_)
 · refine Al (Af ?_)
   unfold Bf1
   refine Ab e_c (Ab e_c (Aa (Ae (AH ?_))))
   refine Bw ?_
   refine Ay ?_
   subst hr
   exact A5 (AE (em rfl eh) (AE eh AG)) (JU (Bm G8 (Bm G8 JW)) rfl) (As hwf) h
 refine BL (fun f st' => ∃ (v2 : Bool), Tb p0 v2 = r ∧ f 0 = (.d (.int .i64 p0)) ∧ f 11 = (.d (.bool v2)) ∧ st' = st ++ []) ?_ ?_
 · refine Af ?_
   unfold Bl2
   refine Bh ?_
   unfold AH7
   refine Ab (e_t h0) ?_
   refine Ap (e_t eh) e_c (E5 ?_)
   refine Ab (e_t eh) ?_
   refine Ar eh hr (fun hr => ?_) (fun hr => ?_)
   rotate_left
   · refine Ah eh (Ah (em rfl eh) (An (e_t (Ac rfl eh)) e_c (Aa ?_)))
     unfold Yl
     refine Ab (e_t eh) (Aa (Ae ?_))
     exact ⟨false, hr, (Ad rfl (Ad rfl h0)), eh, rfl⟩
   refine Aj eh (Ab (e_t (Ad rfl h0)) (Aj (em rfl eh) ?_))
   refine Ap (e_t eh) e_c (M5 ?_)
   refine Am (e_t (Ac rfl eh)) (e_t eh) (Aa ?_)
   unfold Yl
   refine Ab (e_t eh) (Aa (Ae ?_))
   exact ⟨(decide (p0 ≤ (18 : Int))), hr, (Ad rfl (Ad rfl h0)), eh, rfl⟩
 rintro f st' ⟨v2, hr, h0, h11, rfl⟩
 rw [Tb] at hr
 refine AB (e_t h11) hr (fun hr => ?_) (fun hr => ?_)
 · refine Al (Af ?_)
   unfold Bh7
   refine Ab e_c (Ab e_c (Aa (Ae (AH ?_))))
   refine Bw ?_
   refine Ay ?_
   subst hr
   exact A5 (AE (em rfl eh) (AE eh AG)) (JU (Bm G8 (Bm G8 JW)) rfl) (As hwf) h
 refine BL (fun f st' => ∃ (v3 : Bool), Sw p0 v3 = r ∧ f 0 = (.d (.int .i64 p0)) ∧ f 18 = (.d (.bool v3)) ∧ st' = st ++ []) ?_ ?_
 · refine Af ?_
   unfold Bh9
   refine Bh ?_
   unfold AB3
   refine Ab (e_t h0) ?_
   refine Ap (e_t eh) e_c (Ci ?_)
   refine Ab (e_t eh) ?_
   refine Ar eh hr (fun hr => ?_) (fun hr => ?_)
   · refine Ah eh (Ah (em rfl eh) (Am (e_t (Ac rfl eh)) e_c (Aa ?_)))
     unfold Xc
     refine Ab (e_t eh) (Aa (Ae ?_))
     exact ⟨true, hr, (Ad rfl (Ad rfl h0)), eh, rfl⟩
   refine Aj eh (Ab (e_t (Ad rfl h0)) (Aj (em rfl eh) ?_))
   refine Ap (e_t eh) e_c (Ci ?_)
   refine An (e_t (Ac rfl eh)) (e_t eh) (Aa ?_)
   unfold Xc
   refine Ab (e_t eh) (Aa (Ae ?_))
   exact ⟨(decide (p0 = (20 : Int))), hr, (Ad rfl (Ad rfl h0)), eh, rfl⟩
 rintro f st' ⟨v3, hr, h0, h18, rfl⟩
 rw [Sw] at hr
 refine AB (e_t h18) hr (fun hr => ?_) (fun hr => ?_)
 · refine Al (Af ?_)
   unfold Bj1
   refine Ab e_c (Ab e_c (Aa (Ae (AH ?_))))
   refine Bw ?_
   refine Ay ?_
   subst hr
   exact A5 (AE (em rfl eh) (AE eh AG)) (JU (Bm G8 (Bm G8 JW)) rfl) (As hwf) h
 refine Al (Af ?_)
 unfold Bg2
 refine Ab (e_t h0) ?_
 refine Ap (e_t eh) e_c (Ci ?_)
 refine Ab (e_t eh) (Aa (Ae ?_))
 refine AB (e_t eh) hr (fun hr => ?_) (fun hr => ?_)
 · refine Al (Af ?_)
   unfold Bg6
   refine Ab e_c (Ab e_c (Aa (Ae (AH ?_))))
   refine Bw ?_
   refine Ay ?_
   subst hr
   exact A5 (AE (em rfl eh) (AE eh AG)) (JU (Bm G8 (Bm G8 JW)) rfl) (As hwf) h
 refine Al (Af ?_)
 unfold Bl0
 refine Bh ?_
 unfold AJ9
 refine Ab (e_t (Ac rfl (em rfl h0))) ?_
 refine Ap (e_t eh) e_c (E5 ?_)
 refine Ab (e_t eh) ?_
 refine Ar eh hr (fun hr => ?_) (fun hr => ?_)
 rotate_left
 · refine Ah eh (Ah (em rfl eh) (An (e_t (Ac rfl eh)) e_c (Aa ?_)))
   unfold Xe
   refine Ab (e_t eh) (Aa (Ae ?_))
   refine FO (e_t eh) ?_
   refine AM ?_
   refine BQ ?_
   refine Ae (Al (Af ?_))
   unfold Ac9
   refine Ab e_c (Ab e_c (Aa (Ae (AH ?_))))
   subst hr
   exact A5 (AE (em rfl eh) (AE eh AG)) (JU (Bm G8 (Bm G8 JW)) rfl) (As hwf) h
 refine Aj eh (Ab (e_t (Ad rfl (Ac rfl (em rfl h0)))) (Aj (em rfl eh) ?_))
 refine Ap (e_t eh) e_c (M5 ?_)
 refine Am (e_t (Ac rfl eh)) (e_t eh) (Aa ?_)
 unfold Xe
 refine Ab (e_t eh) (Aa (Ae ?_))
 refine AB (e_t eh) hr (fun hr => ?_) (fun hr => ?_)
 · refine Al (Af ?_)
   unfold AY8
   refine Ab e_c (Ab e_c (Aa (Ae (AH ?_))))
   refine Bw ?_
   refine Ay ?_
   subst hr
   exact A5 (AE (em rfl eh) (AE eh AG)) (JU (Bm G8 (Bm G8 JW)) rfl) (As hwf) h
 refine AM ?_
 refine BQ ?_
 refine Ae (Al (Af ?_))
 unfold Ac9
 refine Ab e_c (Ab e_c (Aa (Ae (AH ?_))))
 subst hr
 exact A5 (AE (em rfl eh) (AE eh AG)) (JU (Bm G8 (Bm G8 JW)) rfl) (As hwf) h
end Go.Ax
