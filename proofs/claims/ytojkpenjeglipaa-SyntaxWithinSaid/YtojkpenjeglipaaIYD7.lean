import Derived.Test.YtojkpenjeglipaaIYT
import Derived.Test.YtojkpenjeglipaaICVX
import Derived.Test.YtojkpenjeglipaaICPrim
import Derived.Test.YtojkpenjeglipaaIYD0
import Derived.Test.YtojkpenjeglipaaIYD1
import Derived.Test.YtojkpenjeglipaaIYD2
import Derived.Test.YtojkpenjeglipaaIYD3
import Derived.Test.YtojkpenjeglipaaIYD4
import Derived.Test.YtojkpenjeglipaaIYD5
import Derived.Test.YtojkpenjeglipaaIYD6
set_option linter.unusedVariables false
set_option linter.unusedSimpArgs false
namespace Go.Ax
attribute [local irreducible] BL ER FD Bf CF Fz B6 KZ HX upd ev u0 Dt frz A6 EB mmD bnd BV Ft Do CO GU Ht G2 cutV I1 Cv
variable {st : List Content}
def HO (s_SbuiltExpr_1 : TE → Option Bool) (s_SbuiltExpr : TE → Option Bool) (p0 : TE) : Option Bool :=
 ((s_SbuiltExpr p0).bind fun v1 => some (!v1))
set_option maxRecDepth 100000 in
set_option maxHeartbeats 4000000 in
theorem Xk (s_SbuiltExpr_1 : TE → Option Bool) (s_SbuiltExpr : TE → Option Bool) (p0 : TE) (H_s_SbuiltExpr_1 : ∀ (p0 : TE) {r : Bool}, s_SbuiltExpr_1 p0 = some r → ∀ {st : List Content} {K : PV → List Content → Prop} (h : K (.d (.bool r)) st), Aw PR Gk [(.agg [(.d (.int .i64 p0.Op)), (.d (.int .i64 p0.N)), (.d (.str p0.S)), (.d (.str p0.Name)), (.d (.str p0.Src)), (.d (.sl (List.map TE.row p0.Args)))])] st K) (H_s_SbuiltExpr : ∀ (p0 : TE) {r : Bool}, s_SbuiltExpr p0 = some r → ∀ {st : List Content} {K : PV → List Content → Prop} (h : K (.d (.bool r)) st), Aw PR FT [(.agg [(.d (.int .i64 p0.Op)), (.d (.int .i64 p0.N)), (.d (.str p0.S)), (.d (.str p0.Name)), (.d (.str p0.Src)), (.d (.sl (List.map TE.row p0.Args)))])] st K) {r : Bool} (hr : HO s_SbuiltExpr_1 s_SbuiltExpr p0 = some r) {K : PV → List Content → Prop} (h : K (.d (.bool r)) st) : Aw PR Gk [(.agg [(.d (.int .i64 p0.Op)), (.d (.int .i64 p0.N)), (.d (.str p0.S)), (.d (.str p0.Name)), (.d (.str p0.Src)), (.d (.sl (List.map TE.row p0.Args)))])] st K := by
 refine Aw.of YK (Nat.le_of_ble_eq_true rfl) fun hwf => ?_
 rw [Cm]
 refine AQ ?_
 unfold Qm
 rw [HO] at hr
 refine Al (Af ?_)
 unfold Mx
 refine Gw (k := 0) rfl rfl (e_t eh) Bg (by exact rfl) ?_
 refine Ab e_c (Aa (Ae (Al (Af ?_))))
 unfold My
 refine BF (e_t (em rfl eh)) ((Am rfl 0).trans rfl) (Nat.le_of_ble_eq_true rfl) (by exact rfl) ?_
 obtain ⟨v1, hc_v1, hr⟩ := bind_some hr
 refine AP (Ay (e_t eh) (BP (Aq f_d (Aq f_d (Aq f_d (Aq f_d (Aq f_d (Aq f_d Cw))))))) AR) ?_
 refine H_s_SbuiltExpr p0 hc_v1 ?_
 refine CS (e_t eh) (Ab (e_t eh) (Aa (Ae (AI ?_))))
 cases hr
 exact A7 (AF eh AH) (AM AG v_d) (Av hwf) h
def G5 (p0 : TE) (s_SbuiltExpr_1 : TE → Option Bool) (n : Nat) (v2 : Bool) : Option Bool :=
 (bif v2 then ((Bp n p0.Args (fun (a0 : TE) => s_SbuiltExpr_1 a0)).bind fun v3 => some (!v3)) else some false)
def IX (s_SbuiltExpr_1 : TE → Option Bool) (s_SbuiltExpr : TE → Option Bool) (n : Nat) (p0 : TE) : Option Bool :=
 (bif (decide (((OG p0.Op).1) = (p0.Args.length : Int))) then ((K7 n p0).bind fun v1 => (G5 p0 s_SbuiltExpr_1 n v1)) else (G5 p0 s_SbuiltExpr_1 n false))
set_option maxRecDepth 100000 in
set_option maxHeartbeats 4000000 in
theorem ZY (s_SbuiltExpr_1 : TE → Option Bool) (s_SbuiltExpr : TE → Option Bool) (n : Nat) (p0 : TE) (H_s_SbuiltExpr_1 : ∀ (p0 : TE) {r : Bool}, s_SbuiltExpr_1 p0 = some r → ∀ {st : List Content} {K : PV → List Content → Prop} (h : K (.d (.bool r)) st), Aw PR Gk [(.agg [(.d (.int .i64 p0.Op)), (.d (.int .i64 p0.N)), (.d (.str p0.S)), (.d (.str p0.Name)), (.d (.str p0.Src)), (.d (.sl (List.map TE.row p0.Args)))])] st K) (H_s_SbuiltExpr : ∀ (p0 : TE) {r : Bool}, s_SbuiltExpr p0 = some r → ∀ {st : List Content} {K : PV → List Content → Prop} (h : K (.d (.bool r)) st), Aw PR FT [(.agg [(.d (.int .i64 p0.Op)), (.d (.int .i64 p0.N)), (.d (.str p0.S)), (.d (.str p0.Name)), (.d (.str p0.Src)), (.d (.sl (List.map TE.row p0.Args)))])] st K) {r : Bool} (hr : IX s_SbuiltExpr_1 s_SbuiltExpr n p0 = some r) {K : PV → List Content → Prop} (h : K (.d (.bool r)) st) : Aw PR FT [(.agg [(.d (.int .i64 p0.Op)), (.d (.int .i64 p0.N)), (.d (.str p0.S)), (.d (.str p0.Name)), (.d (.str p0.Src)), (.d (.sl (List.map TE.row p0.Args)))])] st K := by
 refine Aw.of Aj9 (Nat.le_of_ble_eq_true rfl) fun hwf => ?_
 rw [Cm]
 refine AQ ?_
 unfold UI
 rw [IX] at hr
 refine Al (Af ?_)
 unfold OY
 refine Gw (k := 0) rfl rfl (e_t eh) Bg (by exact rfl) ?_
 refine Ab e_c (Aa (Ae (Al (Af ?_))))
 unfold O9
 refine AB (e_t (em rfl eh)) (by exact rfl) ?_
 refine Ap (e_t eh) ((Am rfl 0).trans rfl) (by exact rfl) ?_
 refine AP (Ay (e_t eh) AG AR) ?_
 refine Ag0 p0.Op rfl ?_
 refine Ab (e_t eh) ?_
 refine GZ (e_t eh) (by exact rfl) ?_
 refine GZ (e_t (em rfl eh)) (by exact rfl) ?_
 refine Ab (e_t (em rfl eh)) (Ab (e_t (em rfl eh)) (Aa (Ae (Al (Af ?_)))))
 unfold Pw
 refine Bb (fun f st' => ∃ (v2 : Bool), G5 p0 s_SbuiltExpr_1 n v2 = some r ∧ f 1 = (.ptr (st.length + 0) 0) ∧ f 19 = (.d (.bool v2)) ∧ st' = st ++ [(.box [(.d (.int .i64 p0.Op)), (.d (.int .i64 p0.N)), (.d (.str p0.S)), (.d (.str p0.Name)), (.d (.str p0.Src)), (.d (.sl (List.map TE.row p0.Args)))])]) ?_ ?_
 · unfold MC
   refine Ab (e_t (em rfl eh)) ?_
   refine AB (e_t (Ak rfl (Ac rfl eh))) (by exact rfl) ?_
   refine Ap (e_t eh) ((Am rfl 0).trans rfl) (by exact rfl) ?_
   refine Bh (row := TE.row) (AL (e_t eh) Bq) ?_
   refine Ar (e_t (Ac rfl (em rfl eh))) (e_t eh) (BZ ?_)
   refine Ab (e_t eh) ?_
   refine Au eh hr (fun hr => ?_) (fun hr => ?_)
   rotate_left
   · refine Ah eh (Ah (em rfl eh) (Ao (e_t (Ac rfl eh)) e_c (Aa ?_)))
     exact ⟨false, hr, (Ai rfl (Ac rfl (em rfl eh))), eh, rfl⟩
   refine Aj eh ?_
   refine BF (e_t (Ak rfl (Ad rfl (Ad rfl eh)))) ((Am rfl 0).trans rfl) (Nat.le_of_ble_eq_true rfl) (by exact rfl) ?_
   refine Aj (em rfl eh) ?_
   obtain ⟨v1, hc_v1, hr⟩ := bind_some hr
   refine AP (Ay (e_t eh) (BP (Aq f_d (Aq f_d (Aq f_d (Aq f_d (Aq f_d (Aq f_d Cw))))))) AR) ?_
   refine AC5 n p0 hc_v1 ?_
   refine An (e_t (Ac rfl eh)) (e_t eh) (Aa ?_)
   exact ⟨v1, hr, (Ai rfl (Ac rfl (em rfl eh))), eh, rfl⟩
 rintro f st' ⟨v2, hr, h1, h19, rfl⟩
 rw [G5] at hr
 refine Bo ?_
 unfold MS
 refine Ab (e_t h19) ?_
 refine Au eh hr (fun hr => ?_) (fun hr => ?_)
 rotate_left
 · refine Ah eh (Ah (em rfl eh) (Ah (Ac rfl eh) (Ah (Ac rfl (em rfl eh)) (Ao (e_t (Ad rfl eh)) e_c (Aa ?_)))))
   unfold Jo
   refine Ab (e_t eh) (Aa (Ae (AI ?_)))
   cases hr
   exact A7 (AF eh AH) (AM AG v_d) (Av hwf) h
 refine Aj eh ?_
 refine AB (e_t (Ac rfl h1)) (by exact rfl) ?_
 refine Aj (em rfl eh) ?_
 refine Ap (e_t eh) ((Am rfl 0).trans rfl) (by exact rfl) ?_
 refine Aj (Ac rfl eh) ?_
 obtain ⟨v3, hc_v3, hr⟩ := bind_some hr
 refine AP (Ay (e_t eh) AG (Ay e_c LD AR)) ?_
 refine Ex n p0.Args (fun (a0 : TE) => s_SbuiltExpr_1 a0) (fun a0 {_} hr {_ _} hk => H_s_SbuiltExpr_1 a0 hr hk) (fun _ => rfl) hc_v3 ?_
 refine Aj (Ac rfl (em rfl eh)) (CS (e_t eh) (An (e_t (Ad rfl eh)) (e_t eh) (Aa ?_)))
 unfold Jo
 refine Ab (e_t eh) (Aa (Ae (AI ?_)))
 cases hr
 exact A7 (AF eh AH) (AM AG v_d) (Av hwf) h
mutual
def DC : Nat → TE → Option Bool
 | 0, _ => none
 | n + 1, p0 => HO (DC n) (CR n) p0
def CR : Nat → TE → Option Bool
 | 0, _ => none
 | n + 1, p0 => IX (DC n) (CR n) n p0
end
theorem G0 : ∀ n : Nat, (∀ (p0 : TE) {r : Bool}, DC n p0 = some r → ∀ {st : List Content} {K : PV → List Content → Prop} (h : K (.d (.bool r)) st), Aw PR Gk [(.agg [(.d (.int .i64 p0.Op)), (.d (.int .i64 p0.N)), (.d (.str p0.S)), (.d (.str p0.Name)), (.d (.str p0.Src)), (.d (.sl (List.map TE.row p0.Args)))])] st K) ∧ (∀ (p0 : TE) {r : Bool}, CR n p0 = some r → ∀ {st : List Content} {K : PV → List Content → Prop} (h : K (.d (.bool r)) st), Aw PR FT [(.agg [(.d (.int .i64 p0.Op)), (.d (.int .i64 p0.N)), (.d (.str p0.S)), (.d (.str p0.Name)), (.d (.str p0.Src)), (.d (.sl (List.map TE.row p0.Args)))])] st K)
 | 0 => ⟨fun _ _ hr => (by rw [DC] at hr; cases hr), fun _ _ hr => (by rw [CR] at hr; cases hr)⟩
 | n + 1 => ⟨fun p0 _ hr _ _ h => Xk (DC n) (CR n) p0 (G0 n).1 (G0 n).2 (by rw [DC] at hr; exact hr) h, fun p0 _ hr _ _ h => ZY (DC n) (CR n) n p0 (G0 n).1 (G0 n).2 (by rw [CR] at hr; exact hr) h⟩
theorem Af9 (n : Nat) (p0 : TE) {r : Bool} (hr : CR n p0 = some r) {K : PV → List Content → Prop} (h : K (.d (.bool r)) st) : Aw PR FT [(.agg [(.d (.int .i64 p0.Op)), (.d (.int .i64 p0.N)), (.d (.str p0.S)), (.d (.str p0.Name)), (.d (.str p0.Src)), (.d (.sl (List.map TE.row p0.Args)))])] st K := (G0 n).2 p0 hr h
def JM (n : Nat) (p0 : TE) : Option Bool :=
 ((CR n p0).bind fun v1 => some (!v1))
set_option maxRecDepth 100000 in
set_option maxHeartbeats 4000000 in
theorem As8 (n : Nat) (p0 : TE) {r : Bool} (hr : JM n p0 = some r) {K : PV → List Content → Prop} (h : K (.d (.bool r)) st) : Aw PR Sq [(.agg [(.d (.int .i64 p0.Op)), (.d (.int .i64 p0.N)), (.d (.str p0.S)), (.d (.str p0.Name)), (.d (.str p0.Src)), (.d (.sl (List.map TE.row p0.Args)))])] st K := by
 refine Aw.of Aw3 (Nat.le_of_ble_eq_true rfl) fun hwf => ?_
 rw [Cm]
 refine AQ ?_
 unfold YD
 rw [JM] at hr
 refine Al (Af ?_)
 unfold RV
 refine Gw (k := 0) rfl rfl (e_t eh) Bg (by exact rfl) ?_
 refine Ab e_c (Aa (Ae (Al (Af ?_))))
 unfold RG
 refine BF (e_t (em rfl eh)) ((Am rfl 0).trans rfl) (Nat.le_of_ble_eq_true rfl) (by exact rfl) ?_
 obtain ⟨v1, hc_v1, hr⟩ := bind_some hr
 refine AP (Ay (e_t eh) (BP (Aq f_d (Aq f_d (Aq f_d (Aq f_d (Aq f_d (Aq f_d Cw))))))) AR) ?_
 refine Af9 n p0 hc_v1 ?_
 refine CS (e_t eh) (Ab (e_t eh) (Aa (Ae (AI ?_))))
 cases hr
 exact A7 (AF eh AH) (AM AG v_d) (Av hwf) h
def Ki (p0 : TS) (s_Sblocks : (List TS) → Option Bool) (v5 : Bool) : Option Bool :=
 (bif v5 then ((s_Sblocks p0.Else).bind fun v6 => some v6) else some false)
def JX (p0 : TS) (s_Sblocks : (List TS) → Option Bool) (v3 : Bool) : Option Bool :=
 (bif v3 then ((s_Sblocks p0.Body).bind fun v4 => (Ki p0 s_Sblocks v4)) else (Ki p0 s_Sblocks false))
def OX (s_Sbuilt : TS → Option Bool) (s_Sblocks_1 : TS → Option Bool) (s_Sblocks : (List TS) → Option Bool) (n : Nat) (p0 : TS) : Option Bool :=
 ((DY n p0).bind fun v1 => (bif v1 then ((Bp n p0.Exprs (fun (a0 : TE) => JM n a0)).bind fun v2 => (JX p0 s_Sblocks (!v2))) else (JX p0 s_Sblocks false)))
set_option maxRecDepth 100000 in
set_option maxHeartbeats 4000000 in
theorem AA9 (s_Sbuilt : TS → Option Bool) (s_Sblocks_1 : TS → Option Bool) (s_Sblocks : (List TS) → Option Bool) (n : Nat) (p0 : TS) (H_s_Sbuilt : ∀ (p0 : TS) {r : Bool}, s_Sbuilt p0 = some r → ∀ {st : List Content} {K : PV → List Content → Prop} (h : K (.d (.bool r)) st), Aw PR LA [(.agg [(.d (.int .i64 p0.Op)), (.d (.str p0.Name)), (.d (.str p0.Src)), (.d (.int .i64 p0.N)), (.d (.sl (List.map rS p0.Cols))), (.d (.sl (List.map TE.row p0.Exprs))), (.d (.sl (List.map TS.row p0.Body))), (.d (.sl (List.map TS.row p0.Else)))])] st K) (H_s_Sblocks_1 : ∀ (p0 : TS) {r : Bool}, s_Sblocks_1 p0 = some r → ∀ {st : List Content} {K : PV → List Content → Prop} (h : K (.d (.bool r)) st), Aw PR Hq [(.agg [(.d (.int .i64 p0.Op)), (.d (.str p0.Name)), (.d (.str p0.Src)), (.d (.int .i64 p0.N)), (.d (.sl (List.map rS p0.Cols))), (.d (.sl (List.map TE.row p0.Exprs))), (.d (.sl (List.map TS.row p0.Body))), (.d (.sl (List.map TS.row p0.Else)))])] st K) (H_s_Sblocks : ∀ (p0 : (List TS)) {r : Bool}, s_Sblocks p0 = some r → ∀ {st : List Content} {K : PV → List Content → Prop} (h : K (.d (.bool r)) st), Aw PR G7 [(.d (.sl (List.map TS.row p0)))] st K) {r : Bool} (hr : OX s_Sbuilt s_Sblocks_1 s_Sblocks n p0 = some r) {K : PV → List Content → Prop} (h : K (.d (.bool r)) st) : Aw PR LA [(.agg [(.d (.int .i64 p0.Op)), (.d (.str p0.Name)), (.d (.str p0.Src)), (.d (.int .i64 p0.N)), (.d (.sl (List.map rS p0.Cols))), (.d (.sl (List.map TE.row p0.Exprs))), (.d (.sl (List.map TS.row p0.Body))), (.d (.sl (List.map TS.row p0.Else)))])] st K := by
 refine Aw.of AF3 (Nat.le_of_ble_eq_true rfl) fun hwf => ?_
 rw [Cm]
 refine AQ ?_
 unfold An0
 rw [OX] at hr
 refine Al (Af ?_)
 unfold Xc
 refine Gw (k := 0) rfl rfl (e_t eh) Bg (by exact rfl) ?_
 refine Ab e_c (Aa (Ae (Al (Af ?_))))
 unfold VV
 refine Bb (fun f st' => ∃ (v3 : Bool), JX p0 s_Sblocks v3 = some r ∧ f 1 = (.ptr (st.length + 0) 0) ∧ f 10 = (.d (.bool v3)) ∧ st' = st ++ [(.box [(.d (.int .i64 p0.Op)), (.d (.str p0.Name)), (.d (.str p0.Src)), (.d (.int .i64 p0.N)), (.d (.sl (List.map rS p0.Cols))), (.d (.sl (List.map TE.row p0.Exprs))), (.d (.sl (List.map TS.row p0.Body))), (.d (.sl (List.map TS.row p0.Else)))])]) ?_ ?_
 · unfold RF
   refine BF (e_t (em rfl eh)) ((Am rfl 0).trans rfl) (Nat.le_of_ble_eq_true rfl) (by exact rfl) ?_
   obtain ⟨v1, hc_v1, hr⟩ := bind_some hr
   refine AP (Ay (e_t eh) (BP (Aq f_d (Aq f_d (Aq f_d (Aq f_d (Aq f_d (Aq f_d (Aq f_d (Aq f_d Cw))))))))) AR) ?_
   refine AG1 n p0 hc_v1 ?_
   refine Ab (e_t eh) ?_
   refine Au eh hr (fun hr => ?_) (fun hr => ?_)
   rotate_left
   · refine Ah eh (Ah (em rfl eh) (Ah (Ac rfl eh) (Ah (Ac rfl (em rfl eh)) (Ao (e_t (Ad rfl eh)) e_c (Aa ?_)))))
     exact ⟨false, hr, (Ak rfl (Ac rfl eh)), eh, rfl⟩
   refine Aj eh ?_
   refine AB (e_t (Ad rfl (em rfl eh))) (by exact rfl) ?_
   refine Aj (em rfl eh) ?_
   refine Ap (e_t eh) ((Am rfl 0).trans rfl) (by exact rfl) ?_
   refine Aj (Ac rfl eh) ?_
   obtain ⟨v2, hc_v2, hr⟩ := bind_some hr
   refine AP (Ay (e_t eh) AG (Ay e_c LD AR)) ?_
   refine Ex n p0.Exprs (fun (a0 : TE) => JM n a0) (fun a0 {_} hr {_ _} hk => As8 n a0 hr hk) (fun _ => rfl) hc_v2 ?_
   refine Aj (Ac rfl (em rfl eh)) (CS (e_t eh) (An (e_t (Ad rfl eh)) (e_t eh) (Aa ?_)))
   exact ⟨(!v2), hr, (Ak rfl (Ac rfl eh)), eh, rfl⟩
 rintro f st' ⟨v3, hr, h1, h10, rfl⟩
 rw [JX] at hr
 refine Bb (fun f st' => ∃ (v5 : Bool), Ki p0 s_Sblocks v5 = some r ∧ f 1 = (.ptr (st.length + 0) 0) ∧ f 15 = (.d (.bool v5)) ∧ st' = st ++ [(.box [(.d (.int .i64 p0.Op)), (.d (.str p0.Name)), (.d (.str p0.Src)), (.d (.int .i64 p0.N)), (.d (.sl (List.map rS p0.Cols))), (.d (.sl (List.map TE.row p0.Exprs))), (.d (.sl (List.map TS.row p0.Body))), (.d (.sl (List.map TS.row p0.Else)))])]) ?_ ?_
 · unfold RW
   refine Ab (e_t h10) ?_
   refine Au eh hr (fun hr => ?_) (fun hr => ?_)
   rotate_left
   · refine Ah eh (Ah (em rfl eh) (Ah (Ac rfl eh) (Ao (e_t (Ac rfl (em rfl eh))) e_c (Aa ?_))))
     exact ⟨false, hr, (Ad rfl (Ac rfl h1)), eh, rfl⟩
   refine Aj eh ?_
   refine AB (e_t (Ac rfl h1)) (by exact rfl) ?_
   refine Aj (em rfl eh) ?_
   refine Ap (e_t eh) ((Am rfl 0).trans rfl) (by exact rfl) ?_
   refine Aj (Ac rfl eh) ?_
   obtain ⟨v4, hc_v4, hr⟩ := bind_some hr
   refine AP (Ay (e_t eh) AG AR) ?_
   refine H_s_Sblocks p0.Body hc_v4 ?_
   refine An (e_t (Ac rfl (em rfl eh))) (e_t eh) (Aa ?_)
   exact ⟨v4, hr, (Ad rfl (Ac rfl h1)), eh, rfl⟩
 rintro f st' ⟨v5, hr, h1, h15, rfl⟩
 rw [Ki] at hr
 refine Bo ?_
 unfold RX
 refine Ab (e_t h15) ?_
 refine Au eh hr (fun hr => ?_) (fun hr => ?_)
 rotate_left
 · refine Ah eh (Ah (em rfl eh) (Ah (Ac rfl eh) (Ao (e_t (Ac rfl (em rfl eh))) e_c (Aa ?_))))
   unfold M9
   refine Ab (e_t eh) (Aa (Ae (AI ?_)))
   cases hr
   exact A7 (AF eh AH) (AM AG v_d) (Av hwf) h
 refine Aj eh ?_
 refine AB (e_t (Ac rfl h1)) (by exact rfl) ?_
 refine Aj (em rfl eh) ?_
 refine Ap (e_t eh) ((Am rfl 0).trans rfl) (by exact rfl) ?_
 refine Aj (Ac rfl eh) ?_
 obtain ⟨v6, hc_v6, hr⟩ := bind_some hr
 refine AP (Ay (e_t eh) AG AR) ?_
 refine H_s_Sblocks p0.Else hc_v6 ?_
 refine An (e_t (Ac rfl (em rfl eh))) (e_t eh) (Aa ?_)
 unfold M9
 refine Ab (e_t eh) (Aa (Ae (AI ?_)))
 cases hr
 exact A7 (AF eh AH) (AM AG v_d) (Av hwf) h
def JQ (s_Sbuilt : TS → Option Bool) (s_Sblocks_1 : TS → Option Bool) (s_Sblocks : (List TS) → Option Bool) (p0 : TS) : Option Bool :=
 ((s_Sbuilt p0).bind fun v1 => some (!v1))
set_option maxRecDepth 100000 in
set_option maxHeartbeats 4000000 in
theorem Ah0 (s_Sbuilt : TS → Option Bool) (s_Sblocks_1 : TS → Option Bool) (s_Sblocks : (List TS) → Option Bool) (p0 : TS) (H_s_Sbuilt : ∀ (p0 : TS) {r : Bool}, s_Sbuilt p0 = some r → ∀ {st : List Content} {K : PV → List Content → Prop} (h : K (.d (.bool r)) st), Aw PR LA [(.agg [(.d (.int .i64 p0.Op)), (.d (.str p0.Name)), (.d (.str p0.Src)), (.d (.int .i64 p0.N)), (.d (.sl (List.map rS p0.Cols))), (.d (.sl (List.map TE.row p0.Exprs))), (.d (.sl (List.map TS.row p0.Body))), (.d (.sl (List.map TS.row p0.Else)))])] st K) (H_s_Sblocks_1 : ∀ (p0 : TS) {r : Bool}, s_Sblocks_1 p0 = some r → ∀ {st : List Content} {K : PV → List Content → Prop} (h : K (.d (.bool r)) st), Aw PR Hq [(.agg [(.d (.int .i64 p0.Op)), (.d (.str p0.Name)), (.d (.str p0.Src)), (.d (.int .i64 p0.N)), (.d (.sl (List.map rS p0.Cols))), (.d (.sl (List.map TE.row p0.Exprs))), (.d (.sl (List.map TS.row p0.Body))), (.d (.sl (List.map TS.row p0.Else)))])] st K) (H_s_Sblocks : ∀ (p0 : (List TS)) {r : Bool}, s_Sblocks p0 = some r → ∀ {st : List Content} {K : PV → List Content → Prop} (h : K (.d (.bool r)) st), Aw PR G7 [(.d (.sl (List.map TS.row p0)))] st K) {r : Bool} (hr : JQ s_Sbuilt s_Sblocks_1 s_Sblocks p0 = some r) {K : PV → List Content → Prop} (h : K (.d (.bool r)) st) : Aw PR Hq [(.agg [(.d (.int .i64 p0.Op)), (.d (.str p0.Name)), (.d (.str p0.Src)), (.d (.int .i64 p0.N)), (.d (.sl (List.map rS p0.Cols))), (.d (.sl (List.map TE.row p0.Exprs))), (.d (.sl (List.map TS.row p0.Body))), (.d (.sl (List.map TS.row p0.Else)))])] st K := by
 refine Aw.of Al8 (Nat.le_of_ble_eq_true rfl) fun hwf => ?_
 rw [Cm]
 refine AQ ?_
 unfold Ww
 rw [JQ] at hr
 refine Al (Af ?_)
 unfold Q7
 refine Gw (k := 0) rfl rfl (e_t eh) Bg (by exact rfl) ?_
 refine Ab e_c (Aa (Ae (Al (Af ?_))))
 unfold Rg
 refine BF (e_t (em rfl eh)) ((Am rfl 0).trans rfl) (Nat.le_of_ble_eq_true rfl) (by exact rfl) ?_
 obtain ⟨v1, hc_v1, hr⟩ := bind_some hr
 refine AP (Ay (e_t eh) (BP (Aq f_d (Aq f_d (Aq f_d (Aq f_d (Aq f_d (Aq f_d (Aq f_d (Aq f_d Cw))))))))) AR) ?_
 refine H_s_Sbuilt p0 hc_v1 ?_
 refine CS (e_t eh) (Ab (e_t eh) (Aa (Ae (AI ?_))))
 cases hr
 exact A7 (AF eh AH) (AM AG v_d) (Av hwf) h
def Mp (s_Sbuilt : TS → Option Bool) (s_Sblocks_1 : TS → Option Bool) (s_Sblocks : (List TS) → Option Bool) (n : Nat) (p0 : (List TS)) : Option Bool :=
 ((Bw n p0 (fun (a0 : TS) => s_Sblocks_1 a0)).bind fun v1 => some (!v1))
set_option maxRecDepth 100000 in
set_option maxHeartbeats 4000000 in
theorem At3 (s_Sbuilt : TS → Option Bool) (s_Sblocks_1 : TS → Option Bool) (s_Sblocks : (List TS) → Option Bool) (n : Nat) (p0 : (List TS)) (H_s_Sbuilt : ∀ (p0 : TS) {r : Bool}, s_Sbuilt p0 = some r → ∀ {st : List Content} {K : PV → List Content → Prop} (h : K (.d (.bool r)) st), Aw PR LA [(.agg [(.d (.int .i64 p0.Op)), (.d (.str p0.Name)), (.d (.str p0.Src)), (.d (.int .i64 p0.N)), (.d (.sl (List.map rS p0.Cols))), (.d (.sl (List.map TE.row p0.Exprs))), (.d (.sl (List.map TS.row p0.Body))), (.d (.sl (List.map TS.row p0.Else)))])] st K) (H_s_Sblocks_1 : ∀ (p0 : TS) {r : Bool}, s_Sblocks_1 p0 = some r → ∀ {st : List Content} {K : PV → List Content → Prop} (h : K (.d (.bool r)) st), Aw PR Hq [(.agg [(.d (.int .i64 p0.Op)), (.d (.str p0.Name)), (.d (.str p0.Src)), (.d (.int .i64 p0.N)), (.d (.sl (List.map rS p0.Cols))), (.d (.sl (List.map TE.row p0.Exprs))), (.d (.sl (List.map TS.row p0.Body))), (.d (.sl (List.map TS.row p0.Else)))])] st K) (H_s_Sblocks : ∀ (p0 : (List TS)) {r : Bool}, s_Sblocks p0 = some r → ∀ {st : List Content} {K : PV → List Content → Prop} (h : K (.d (.bool r)) st), Aw PR G7 [(.d (.sl (List.map TS.row p0)))] st K) {r : Bool} (hr : Mp s_Sbuilt s_Sblocks_1 s_Sblocks n p0 = some r) {K : PV → List Content → Prop} (h : K (.d (.bool r)) st) : Aw PR G7 [(.d (.sl (List.map TS.row p0)))] st K := by
 refine Aw.of AB4 (Nat.le_of_ble_eq_true rfl) fun hwf => ?_
 rw [Cm]
 refine AQ ?_
 unfold Ae5
 rw [Mp] at hr
 refine Al (Af ?_)
 unfold Vf
 refine Ab e_c (Aa (Ae (Al (Af ?_))))
 unfold TU
 refine Ab (e_t (em rfl eh)) ?_
 obtain ⟨v1, hc_v1, hr⟩ := bind_some hr
 refine AP (Ay (e_t eh) AG (Ay e_c LD AR)) ?_
 refine Hm n p0 (fun (a0 : TS) => s_Sblocks_1 a0) (fun a0 {_} hr {_ _} hk => H_s_Sblocks_1 a0 hr hk) (fun _ => rfl) hc_v1 ?_
 refine CS (e_t eh) (Ab (e_t eh) (Aa (Ae (AI ?_))))
 cases hr
 exact A7 (AF eh AH) (AM AG v_d) (Av hwf) h
mutual
def EM : Nat → TS → Option Bool
 | 0, _ => none
 | n + 1, p0 => OX (EM n) (EF n) (EH n) n p0
def EF : Nat → TS → Option Bool
 | 0, _ => none
 | n + 1, p0 => JQ (EM n) (EF n) (EH n) p0
def EH : Nat → (List TS) → Option Bool
 | 0, _ => none
 | n + 1, p0 => Mp (EM n) (EF n) (EH n) n p0
end
theorem Hc : ∀ n : Nat, (∀ (p0 : TS) {r : Bool}, EM n p0 = some r → ∀ {st : List Content} {K : PV → List Content → Prop} (h : K (.d (.bool r)) st), Aw PR LA [(.agg [(.d (.int .i64 p0.Op)), (.d (.str p0.Name)), (.d (.str p0.Src)), (.d (.int .i64 p0.N)), (.d (.sl (List.map rS p0.Cols))), (.d (.sl (List.map TE.row p0.Exprs))), (.d (.sl (List.map TS.row p0.Body))), (.d (.sl (List.map TS.row p0.Else)))])] st K) ∧ (∀ (p0 : TS) {r : Bool}, EF n p0 = some r → ∀ {st : List Content} {K : PV → List Content → Prop} (h : K (.d (.bool r)) st), Aw PR Hq [(.agg [(.d (.int .i64 p0.Op)), (.d (.str p0.Name)), (.d (.str p0.Src)), (.d (.int .i64 p0.N)), (.d (.sl (List.map rS p0.Cols))), (.d (.sl (List.map TE.row p0.Exprs))), (.d (.sl (List.map TS.row p0.Body))), (.d (.sl (List.map TS.row p0.Else)))])] st K) ∧ (∀ (p0 : (List TS)) {r : Bool}, EH n p0 = some r → ∀ {st : List Content} {K : PV → List Content → Prop} (h : K (.d (.bool r)) st), Aw PR G7 [(.d (.sl (List.map TS.row p0)))] st K)
 | 0 => ⟨fun _ _ hr => (by rw [EM] at hr; cases hr), fun _ _ hr => (by rw [EF] at hr; cases hr), fun _ _ hr => (by rw [EH] at hr; cases hr)⟩
 | n + 1 => ⟨fun p0 _ hr _ _ h => AA9 (EM n) (EF n) (EH n) n p0 (Hc n).1 (Hc n).2.1 (Hc n).2.2 (by rw [EM] at hr; exact hr) h, fun p0 _ hr _ _ h => Ah0 (EM n) (EF n) (EH n) p0 (Hc n).1 (Hc n).2.1 (Hc n).2.2 (by rw [EF] at hr; exact hr) h, fun p0 _ hr _ _ h => At3 (EM n) (EF n) (EH n) n p0 (Hc n).1 (Hc n).2.1 (Hc n).2.2 (by rw [EH] at hr; exact hr) h⟩
theorem AB2 (n : Nat) (p0 : (List TS)) {r : Bool} (hr : EH n p0 = some r) {K : PV → List Content → Prop} (h : K (.d (.bool r)) st) : Aw PR G7 [(.d (.sl (List.map TS.row p0)))] st K := (Hc n).2.2 p0 hr h
def J8 (p0 : TP) (n : Nat) (v3 : Bool) : Option Bool :=
 (bif v3 then ((EH n p0.Body).bind fun v4 => some v4) else some false)
def Kf (n : Nat) (p0 : TP) : Option Bool :=
 ((Dj n p0.Body (0 : Int) (fun (a0 : TS) (a1 : Int) => B5 n a0 a1)).bind fun v1 => ((Oj n p0).bind fun v2 => (bif v2 then (J8 p0 n (G8 v1)) else (J8 p0 n false))))
set_option maxRecDepth 100000 in
set_option maxHeartbeats 4000000 in
theorem X8 (n : Nat) (p0 : TP) {r : Bool} (hr : Kf n p0 = some r) {K : PV → List Content → Prop} (h : K (.d (.bool r)) st) : Aw PR PX [(.agg [(.d (.str p0.Name)), (.d (.str p0.From)), (.d (.str p0.At)), (.d (.int .i64 p0.Fuel)), (.d (.sl (List.map T_api_Column.row p0.Params))), (.d (.sl (List.map TS.row p0.Body)))])] st K := by
 refine Aw.of AE6 (Nat.le_of_ble_eq_true rfl) fun hwf => ?_
 rw [Cm]
 refine AQ ?_
 unfold As7
 rw [Kf] at hr
 refine Al (Af ?_)
 unfold W2
 refine Gw (k := 0) rfl rfl (e_t eh) Bg (by exact rfl) ?_
 refine Ab e_c (Aa (Ae (Al (Af ?_))))
 unfold Wc
 refine AB (e_t (em rfl eh)) (by exact rfl) ?_
 refine Ap (e_t eh) ((Am rfl 0).trans rfl) (by exact rfl) ?_
 obtain ⟨v1, hc_v1, hr⟩ := bind_some hr
 refine AP (Ay (e_t eh) AG (Ay e_c AG (Ay e_c LD AR))) ?_
 refine It n p0.Body (0 : Int) (fun (a0 : TS) (a1 : Int) => B5 n a0 a1) (fun a0 a1 {_} hr {_ _} hk => VZ n a0 a1 hr hk) (fun _ => rfl) hc_v1 ?_
 refine Ci (k := 1) rfl rfl ?_
 refine Bl (e_t eh) ((Am rfl 1).trans rfl) (e_t (em rfl eh)) Bg rfl (Nat.le_of_ble_eq_true rfl) (by exact rfl) (cells' := [(.d (.int .i64 v1.nodes)), (.d (.int .i64 v1.depth))]) (by exact rfl) (Bk rfl _ _) ?_
 refine Aa (Ae (Al (Af ?_)))
 unfold WO
 refine Bb (fun f st' => ∃ (v3 : Bool), J8 p0 n v3 = some r ∧ f 1 = (.ptr (st.length + 0) 0) ∧ f 11 = (.d (.bool v3)) ∧ st' = st ++ [(.box [(.d (.str p0.Name)), (.d (.str p0.From)), (.d (.str p0.At)), (.d (.int .i64 p0.Fuel)), (.d (.sl (List.map T_api_Column.row p0.Params))), (.d (.sl (List.map TS.row p0.Body)))]), (.box [(.d (.int .i64 v1.nodes)), (.d (.int .i64 v1.depth))])]) ?_ ?_
 · unfold RP
   refine BF (e_t (Ad rfl (em rfl eh))) ((Am rfl 0).trans rfl) (Nat.le_of_ble_eq_true rfl) (by exact rfl) ?_
   obtain ⟨v2, hc_v2, hr⟩ := bind_some hr
   refine AP (Ay (e_t eh) (BP (Aq f_d (Aq f_d (Aq f_d (Aq f_d (Aq f_d (Aq f_d Cw))))))) AR) ?_
   refine AG9 n p0 hc_v2 ?_
   refine Ab (e_t eh) ?_
   refine Au eh hr (fun hr => ?_) (fun hr => ?_)
   rotate_left
   · refine Ah eh (Ao (e_t (em rfl eh)) e_c (Aa ?_))
     exact ⟨false, hr, (Ak rfl (Ac rfl (em rfl eh))), eh, rfl⟩
   refine Aj eh ?_
   refine AP (Ay (e_t (Ad rfl eh)) ON AR) ?_
   refine Z3 v1 rfl ((Am rfl 1).trans rfl) ?_
   refine An (e_t (em rfl eh)) (e_t eh) (Aa ?_)
   exact ⟨(G8 v1), hr, (Ak rfl (Ac rfl (em rfl eh))), eh, rfl⟩
 rintro f st' ⟨v3, hr, h1, h11, rfl⟩
 rw [J8] at hr
 refine Bo ?_
 unfold RI
 refine Ab (e_t h11) ?_
 refine Au eh hr (fun hr => ?_) (fun hr => ?_)
 rotate_left
 · refine Ah eh (Ah (em rfl eh) (Ah (Ac rfl eh) (Ao (e_t (Ac rfl (em rfl eh))) e_c (Aa ?_))))
   unfold Nd
   refine Ab (e_t eh) (Aa (Ae (AI ?_)))
   cases hr
   exact A7 (AF eh AH) (AM AG v_d) (Av hwf) h
 refine Aj eh ?_
 refine AB (e_t (Ac rfl h1)) (by exact rfl) ?_
 refine Aj (em rfl eh) ?_
 refine Ap (e_t eh) ((Am rfl 0).trans rfl) (by exact rfl) ?_
 refine Aj (Ac rfl eh) ?_
 obtain ⟨v4, hc_v4, hr⟩ := bind_some hr
 refine AP (Ay (e_t eh) AG AR) ?_
 refine AB2 n p0.Body hc_v4 ?_
 refine An (e_t (Ac rfl (em rfl eh))) (e_t eh) (Aa ?_)
 unfold Nd
 refine Ab (e_t eh) (Aa (Ae (AI ?_)))
 cases hr
 exact A7 (AF eh AH) (AM AG v_d) (Av hwf) h
end Go.Ax
