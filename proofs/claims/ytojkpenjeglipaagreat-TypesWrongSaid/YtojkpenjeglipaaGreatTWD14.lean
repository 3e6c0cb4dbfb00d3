import Derived.Test.YtojkpenjeglipaaGreatTWT
import Derived.Test.YtojkpenjeglipaaGreatTCVX
import Derived.Test.YtojkpenjeglipaaGreatTCPrim
import Derived.Test.YtojkpenjeglipaaGreatTWD7
import Derived.Test.YtojkpenjeglipaaGreatTWD8
import Derived.Test.YtojkpenjeglipaaGreatTWD10
import Derived.Test.YtojkpenjeglipaaGreatTWD11
import Derived.Test.YtojkpenjeglipaaGreatTWD12
import Derived.Test.YtojkpenjeglipaaGreatTWD13
set_option linter.unusedVariables false
set_option maxRecDepth 100000
set_option maxHeartbeats 4000000
namespace Go.Ax
attribute [local irreducible] BH FA F2 Bf DM Hp Cq V4 Lz upd ev u0 Dh frz A4 EO mmD bnd Ch Gk DU C2 Ie JH FZ cutV NL CO
variable {st : List Content}
def Iy (s_SbuiltExpr_1 : TE → Option Bool) (s_SbuiltExpr : TE → Option Bool) (p0 : TE) : Option Bool :=
 ((s_SbuiltExpr p0).bind fun v1 => some (!v1))
theorem Ba0 (s_SbuiltExpr_1 : TE → Option Bool) (s_SbuiltExpr : TE → Option Bool) (p0 : TE) (H_s_SbuiltExpr_1 : ∀ (p0 : TE) {r : Bool}, s_SbuiltExpr_1 p0 = some r → ∀ {st : List Content} {K : PV → List Content → Prop} (h : K (.d (.bool r)) st), Aw PR Gv [(.agg [(.d (.int .i64 p0.Op)), (.d (.int .i64 p0.N)), (.d (.str p0.S)), (.d (.str p0.Name)), (.d (.str p0.Src)), (.d (.sl (List.map TE.row p0.Args)))])] st K) (H_s_SbuiltExpr : ∀ (p0 : TE) {r : Bool}, s_SbuiltExpr p0 = some r → ∀ {st : List Content} {K : PV → List Content → Prop} (h : K (.d (.bool r)) st), Aw PR E4 [(.agg [(.d (.int .i64 p0.Op)), (.d (.int .i64 p0.N)), (.d (.str p0.S)), (.d (.str p0.Name)), (.d (.str p0.Src)), (.d (.sl (List.map TE.row p0.Args)))])] st K) {r : Bool} (hr : Iy s_SbuiltExpr_1 s_SbuiltExpr p0 = some r) {K : PV → List Content → Prop} (h : K (.d (.bool r)) st) : Aw PR Gv [(.agg [(.d (.int .i64 p0.Op)), (.d (.int .i64 p0.N)), (.d (.str p0.S)), (.d (.str p0.Name)), (.d (.str p0.Src)), (.d (.sl (List.map TE.row p0.Args)))])] st K := by
 refine Aw.of Bi3 (Nat.le_of_ble_eq_true rfl) fun hwf => ?_
 rw [CE]
 refine AS ?_
 unfold Aj7
 rw [Iy] at hr
 refine Al (Af ?_)
 unfold T8
 refine GV (k := 0) rfl rfl (e_t eh) Bi (by rfl) ?_
 refine Ab e_c (Aa (Ae (Al (Af ?_))))
 unfold T6
 refine Cn (e_t (em rfl eh)) (gx 0 rfl) (Nat.le_of_ble_eq_true rfl) (by rfl) ?_
 obtain ⟨v1, hc_v1, hr⟩ := bind_some hr
 refine AY (Az (e_t eh) (Cw (Aq f_d (Aq f_d (Aq f_d (Aq f_d (Aq f_d (Aq f_d Dg))))))) A1) ?_
 refine H_s_SbuiltExpr p0 hc_v1 ?_
 refine CN (e_t eh) (Ab (e_t eh) (Aa (Ae (AH ?_))))
 cases hr
 exact A5 (AE eh AG) (AK AF v_d) (As hwf) h
def Hi (p0 : TE) (s_SbuiltExpr_1 : TE → Option Bool) (n : Nat) (v2 : Bool) : Option Bool :=
 (bif v2 then ((Bg n p0.Args (fun (a0 : TE) => s_SbuiltExpr_1 a0)).bind fun v3 => some (!v3)) else some false)
def Lw (s_SbuiltExpr_1 : TE → Option Bool) (s_SbuiltExpr : TE → Option Bool) (n : Nat) (p0 : TE) : Option Bool :=
 (bif (decide (((Am2 p0.Op).1) = (p0.Args.length : Int))) then ((R6 n p0).bind fun v1 => (Hi p0 s_SbuiltExpr_1 n v1)) else (Hi p0 s_SbuiltExpr_1 n false))
theorem Bo5 (s_SbuiltExpr_1 : TE → Option Bool) (s_SbuiltExpr : TE → Option Bool) (n : Nat) (p0 : TE) (H_s_SbuiltExpr_1 : ∀ (p0 : TE) {r : Bool}, s_SbuiltExpr_1 p0 = some r → ∀ {st : List Content} {K : PV → List Content → Prop} (h : K (.d (.bool r)) st), Aw PR Gv [(.agg [(.d (.int .i64 p0.Op)), (.d (.int .i64 p0.N)), (.d (.str p0.S)), (.d (.str p0.Name)), (.d (.str p0.Src)), (.d (.sl (List.map TE.row p0.Args)))])] st K) (H_s_SbuiltExpr : ∀ (p0 : TE) {r : Bool}, s_SbuiltExpr p0 = some r → ∀ {st : List Content} {K : PV → List Content → Prop} (h : K (.d (.bool r)) st), Aw PR E4 [(.agg [(.d (.int .i64 p0.Op)), (.d (.int .i64 p0.N)), (.d (.str p0.S)), (.d (.str p0.Name)), (.d (.str p0.Src)), (.d (.sl (List.map TE.row p0.Args)))])] st K) {r : Bool} (hr : Lw s_SbuiltExpr_1 s_SbuiltExpr n p0 = some r) {K : PV → List Content → Prop} (h : K (.d (.bool r)) st) : Aw PR E4 [(.agg [(.d (.int .i64 p0.Op)), (.d (.int .i64 p0.N)), (.d (.str p0.S)), (.d (.str p0.Name)), (.d (.str p0.Src)), (.d (.sl (List.map TE.row p0.Args)))])] st K := by
 refine Aw.of AB2 (Nat.le_of_ble_eq_true rfl) fun hwf => ?_
 rw [CE]
 refine AS ?_
 unfold Xv
 rw [Lw] at hr
 refine Al (Af ?_)
 unfold Zh
 refine GV (k := 0) rfl rfl (e_t eh) Bi (by rfl) ?_
 refine Ab e_c (Aa (Ae (Al (Af ?_))))
 unfold YV
 refine AA (e_t (em rfl eh)) (by rfl) ?_
 refine Ao (e_t eh) (gx 0 rfl) (by rfl) ?_
 refine AY (Az (e_t eh) AF A1) ?_
 refine BP7 p0.Op rfl ?_
 refine Ab (e_t eh) ?_
 refine MZ (e_t eh) (by rfl) ?_
 refine MZ (e_t (em rfl eh)) (by rfl) ?_
 refine Ab (e_t (em rfl eh)) (Ab (e_t (em rfl eh)) (Aa (Ae (Al (Af ?_)))))
 unfold YW
 refine Ba (fun f st' => ∃ (v2 : Bool), Hi p0 s_SbuiltExpr_1 n v2 = some r ∧ f 1 = (.ptr (st.length + 0) 0) ∧ f 19 = (.d (.bool v2)) ∧ st' = st ++ [(.box [(.d (.int .i64 p0.Op)), (.d (.int .i64 p0.N)), (.d (.str p0.S)), (.d (.str p0.Name)), (.d (.str p0.Src)), (.d (.sl (List.map TE.row p0.Args)))])]) ?_ ?_
 · unfold T7
   refine Ab (e_t (em rfl eh)) ?_
   refine AA (e_t (Ak rfl (Ac rfl eh))) (by rfl) ?_
   refine Ao (e_t eh) (gx 0 rfl) (by rfl) ?_
   refine Bc (row := TE.row) (AN (e_t eh) Bo) ?_
   refine Ap (e_t (Ac rfl (em rfl eh))) (e_t eh) (Ci ?_)
   refine Ab (e_t eh) ?_
   refine Ar eh hr (fun hr => ?_) (fun hr => ?_)
   rotate_left
   · refine Ah eh (Ah (em rfl eh) (An (e_t (Ac rfl eh)) e_c (Aa ?_)))
     exact ⟨false, hr, (Ai rfl (Ac rfl (em rfl eh))), eh, rfl⟩
   refine Aj eh ?_
   refine Cn (e_t (Ak rfl (Ad rfl (Ad rfl eh)))) (gx 0 rfl) (Nat.le_of_ble_eq_true rfl) (by rfl) ?_
   refine Aj (em rfl eh) ?_
   obtain ⟨v1, hc_v1, hr⟩ := bind_some hr
   refine AY (Az (e_t eh) (Cw (Aq f_d (Aq f_d (Aq f_d (Aq f_d (Aq f_d (Aq f_d Dg))))))) A1) ?_
   refine BT6 n p0 hc_v1 ?_
   refine Am (e_t (Ac rfl eh)) (e_t eh) (Aa ?_)
   exact ⟨v1, hr, (Ai rfl (Ac rfl (em rfl eh))), eh, rfl⟩
 rintro f st' ⟨v2, hr, h1, h19, rfl⟩
 rw [Hi] at hr
 refine Bh ?_
 unfold Ua
 refine Ab (e_t h19) ?_
 refine Ar eh hr (fun hr => ?_) (fun hr => ?_)
 rotate_left
 · refine Ah eh (Ah (em rfl eh) (Ah (Ac rfl eh) (Ah (Ac rfl (em rfl eh)) (An (e_t (Ad rfl eh)) e_c (Aa ?_)))))
   unfold KK
   refine Ab (e_t eh) (Aa (Ae (AH ?_)))
   cases hr
   exact A5 (AE eh AG) (AK AF v_d) (As hwf) h
 refine Aj eh ?_
 refine AA (e_t (Ac rfl h1)) (by rfl) ?_
 refine Aj (em rfl eh) ?_
 refine Ao (e_t eh) (gx 0 rfl) (by rfl) ?_
 refine Aj (Ac rfl eh) ?_
 obtain ⟨v3, hc_v3, hr⟩ := bind_some hr
 refine AY (Az (e_t eh) AF (Az e_c Y3 A1)) ?_
 refine El n p0.Args (fun (a0 : TE) => s_SbuiltExpr_1 a0) (fun a0 {_} hr {_ _} hk => H_s_SbuiltExpr_1 a0 hr hk) (fun _ => rfl) hc_v3 ?_
 refine Aj (Ac rfl (em rfl eh)) (CN (e_t eh) (Am (e_t (Ad rfl eh)) (e_t eh) (Aa ?_)))
 unfold KK
 refine Ab (e_t eh) (Aa (Ae (AH ?_)))
 cases hr
 exact A5 (AE eh AG) (AK AF v_d) (As hwf) h
mutual
def DE : Nat → TE → Option Bool
 | 0, _ => none
 | n + 1, p0 => Iy (DE n) (CP n) p0
def CP : Nat → TE → Option Bool
 | 0, _ => none
 | n + 1, p0 => Lw (DE n) (CP n) n p0
end
theorem Hg : ∀ n : Nat, (∀ (p0 : TE) {r : Bool}, DE n p0 = some r → ∀ {st : List Content} {K : PV → List Content → Prop} (h : K (.d (.bool r)) st), Aw PR Gv [(.agg [(.d (.int .i64 p0.Op)), (.d (.int .i64 p0.N)), (.d (.str p0.S)), (.d (.str p0.Name)), (.d (.str p0.Src)), (.d (.sl (List.map TE.row p0.Args)))])] st K) ∧ (∀ (p0 : TE) {r : Bool}, CP n p0 = some r → ∀ {st : List Content} {K : PV → List Content → Prop} (h : K (.d (.bool r)) st), Aw PR E4 [(.agg [(.d (.int .i64 p0.Op)), (.d (.int .i64 p0.N)), (.d (.str p0.S)), (.d (.str p0.Name)), (.d (.str p0.Src)), (.d (.sl (List.map TE.row p0.Args)))])] st K)
 | 0 => ⟨fun _ _ hr => (by rw [DE] at hr; cases hr), fun _ _ hr => (by rw [CP] at hr; cases hr)⟩
 | n + 1 => ⟨fun p0 _ hr _ _ h => Ba0 (DE n) (CP n) p0 (Hg n).1 (Hg n).2 (by rw [DE] at hr; exact hr) h, fun p0 _ hr _ _ h => Bo5 (DE n) (CP n) n p0 (Hg n).1 (Hg n).2 (by rw [CP] at hr; exact hr) h⟩
theorem Bt8 (n : Nat) (p0 : TE) {r : Bool} (hr : CP n p0 = some r) {K : PV → List Content → Prop} (h : K (.d (.bool r)) st) : Aw PR E4 [(.agg [(.d (.int .i64 p0.Op)), (.d (.int .i64 p0.N)), (.d (.str p0.S)), (.d (.str p0.Name)), (.d (.str p0.Src)), (.d (.sl (List.map TE.row p0.Args)))])] st K := (Hg n).2 p0 hr h
def L8 (n : Nat) (p0 : TE) : Option Bool :=
 ((CP n p0).bind fun v1 => some (!v1))
theorem BI5 (n : Nat) (p0 : TE) {r : Bool} (hr : L8 n p0 = some r) {K : PV → List Content → Prop} (h : K (.d (.bool r)) st) : Aw PR X3 [(.agg [(.d (.int .i64 p0.Op)), (.d (.int .i64 p0.N)), (.d (.str p0.S)), (.d (.str p0.Name)), (.d (.str p0.Src)), (.d (.sl (List.map TE.row p0.Args)))])] st K := by
 refine Aw.of Bh2 (Nat.le_of_ble_eq_true rfl) fun hwf => ?_
 rw [CE]
 refine AS ?_
 unfold As6
 rw [L8] at hr
 refine Al (Af ?_)
 unfold Aq8
 refine GV (k := 0) rfl rfl (e_t eh) Bi (by rfl) ?_
 refine Ab e_c (Aa (Ae (Al (Af ?_))))
 unfold Aq3
 refine Cn (e_t (em rfl eh)) (gx 0 rfl) (Nat.le_of_ble_eq_true rfl) (by rfl) ?_
 obtain ⟨v1, hc_v1, hr⟩ := bind_some hr
 refine AY (Az (e_t eh) (Cw (Aq f_d (Aq f_d (Aq f_d (Aq f_d (Aq f_d (Aq f_d Dg))))))) A1) ?_
 refine Bt8 n p0 hc_v1 ?_
 refine CN (e_t eh) (Ab (e_t eh) (Aa (Ae (AH ?_))))
 cases hr
 exact A5 (AE eh AG) (AK AF v_d) (As hwf) h
def Ni (p0 : TS) (s_Sblocks : (List TS) → Option Bool) (v5 : Bool) : Option Bool :=
 (bif v5 then ((s_Sblocks p0.Else).bind fun v6 => some v6) else some false)
def M8 (p0 : TS) (s_Sblocks : (List TS) → Option Bool) (v3 : Bool) : Option Bool :=
 (bif v3 then ((s_Sblocks p0.Body).bind fun v4 => (Ni p0 s_Sblocks v4)) else (Ni p0 s_Sblocks false))
def X4 (s_Sbuilt : TS → Option Bool) (s_Sblocks_1 : TS → Option Bool) (s_Sblocks : (List TS) → Option Bool) (n : Nat) (p0 : TS) : Option Bool :=
 ((Eb n p0).bind fun v1 => (bif v1 then ((Bg n p0.Exprs (fun (a0 : TE) => L8 n a0)).bind fun v2 => (M8 p0 s_Sblocks (!v2))) else (M8 p0 s_Sblocks false)))
theorem BS0 (s_Sbuilt : TS → Option Bool) (s_Sblocks_1 : TS → Option Bool) (s_Sblocks : (List TS) → Option Bool) (n : Nat) (p0 : TS) (H_s_Sbuilt : ∀ (p0 : TS) {r : Bool}, s_Sbuilt p0 = some r → ∀ {st : List Content} {K : PV → List Content → Prop} (h : K (.d (.bool r)) st), Aw PR MS [(.agg [(.d (.int .i64 p0.Op)), (.d (.str p0.Name)), (.d (.str p0.Src)), (.d (.int .i64 p0.N)), (.d (.sl (List.map rS p0.Cols))), (.d (.sl (List.map TE.row p0.Exprs))), (.d (.sl (List.map TS.row p0.Body))), (.d (.sl (List.map TS.row p0.Else)))])] st K) (H_s_Sblocks_1 : ∀ (p0 : TS) {r : Bool}, s_Sblocks_1 p0 = some r → ∀ {st : List Content} {K : PV → List Content → Prop} (h : K (.d (.bool r)) st), Aw PR GN [(.agg [(.d (.int .i64 p0.Op)), (.d (.str p0.Name)), (.d (.str p0.Src)), (.d (.int .i64 p0.N)), (.d (.sl (List.map rS p0.Cols))), (.d (.sl (List.map TE.row p0.Exprs))), (.d (.sl (List.map TS.row p0.Body))), (.d (.sl (List.map TS.row p0.Else)))])] st K) (H_s_Sblocks : ∀ (p0 : (List TS)) {r : Bool}, s_Sblocks p0 = some r → ∀ {st : List Content} {K : PV → List Content → Prop} (h : K (.d (.bool r)) st), Aw PR Gw [(.d (.sl (List.map TS.row p0)))] st K) {r : Bool} (hr : X4 s_Sbuilt s_Sblocks_1 s_Sblocks n p0 = some r) {K : PV → List Content → Prop} (h : K (.d (.bool r)) st) : Aw PR MS [(.agg [(.d (.int .i64 p0.Op)), (.d (.str p0.Name)), (.d (.str p0.Src)), (.d (.int .i64 p0.N)), (.d (.sl (List.map rS p0.Cols))), (.d (.sl (List.map TE.row p0.Exprs))), (.d (.sl (List.map TS.row p0.Body))), (.d (.sl (List.map TS.row p0.Else)))])] st K := by
 refine Aw.of BA8 (Nat.le_of_ble_eq_true rfl) fun hwf => ?_
 rw [CE]
 refine AS ?_
 unfold Be5
 rw [X4] at hr
 refine Al (Af ?_)
 unfold AU3
 refine GV (k := 0) rfl rfl (e_t eh) Bi (by rfl) ?_
 refine Ab e_c (Aa (Ae (Al (Af ?_))))
 unfold AW2
 refine Ba (fun f st' => ∃ (v3 : Bool), M8 p0 s_Sblocks v3 = some r ∧ f 1 = (.ptr (st.length + 0) 0) ∧ f 10 = (.d (.bool v3)) ∧ st' = st ++ [(.box [(.d (.int .i64 p0.Op)), (.d (.str p0.Name)), (.d (.str p0.Src)), (.d (.int .i64 p0.N)), (.d (.sl (List.map rS p0.Cols))), (.d (.sl (List.map TE.row p0.Exprs))), (.d (.sl (List.map TS.row p0.Body))), (.d (.sl (List.map TS.row p0.Else)))])]) ?_ ?_
 · unfold Ap3
   refine Cn (e_t (em rfl eh)) (gx 0 rfl) (Nat.le_of_ble_eq_true rfl) (by rfl) ?_
   obtain ⟨v1, hc_v1, hr⟩ := bind_some hr
   refine AY (Az (e_t eh) (Cw (Aq f_d (Aq f_d (Aq f_d (Aq f_d (Aq f_d (Aq f_d (Aq f_d (Aq f_d Dg))))))))) A1) ?_
   refine BV1 n p0 hc_v1 ?_
   refine Ab (e_t eh) ?_
   refine Ar eh hr (fun hr => ?_) (fun hr => ?_)
   rotate_left
   · refine Ah eh (Ah (em rfl eh) (Ah (Ac rfl eh) (Ah (Ac rfl (em rfl eh)) (An (e_t (Ad rfl eh)) e_c (Aa ?_)))))
     exact ⟨false, hr, (Ak rfl (Ac rfl eh)), eh, rfl⟩
   refine Aj eh ?_
   refine AA (e_t (Ad rfl (em rfl eh))) (by rfl) ?_
   refine Aj (em rfl eh) ?_
   refine Ao (e_t eh) (gx 0 rfl) (by rfl) ?_
   refine Aj (Ac rfl eh) ?_
   obtain ⟨v2, hc_v2, hr⟩ := bind_some hr
   refine AY (Az (e_t eh) AF (Az e_c Y3 A1)) ?_
   refine El n p0.Exprs (fun (a0 : TE) => L8 n a0) (fun a0 {_} hr {_ _} hk => BI5 n a0 hr hk) (fun _ => rfl) hc_v2 ?_
   refine Aj (Ac rfl (em rfl eh)) (CN (e_t eh) (Am (e_t (Ad rfl eh)) (e_t eh) (Aa ?_)))
   exact ⟨(!v2), hr, (Ak rfl (Ac rfl eh)), eh, rfl⟩
 rintro f st' ⟨v3, hr, h1, h10, rfl⟩
 rw [M8] at hr
 refine Ba (fun f st' => ∃ (v5 : Bool), Ni p0 s_Sblocks v5 = some r ∧ f 1 = (.ptr (st.length + 0) 0) ∧ f 15 = (.d (.bool v5)) ∧ st' = st ++ [(.box [(.d (.int .i64 p0.Op)), (.d (.str p0.Name)), (.d (.str p0.Src)), (.d (.int .i64 p0.N)), (.d (.sl (List.map rS p0.Cols))), (.d (.sl (List.map TE.row p0.Exprs))), (.d (.sl (List.map TS.row p0.Body))), (.d (.sl (List.map TS.row p0.Else)))])]) ?_ ?_
 · unfold Ap0
   refine Ab (e_t h10) ?_
   refine Ar eh hr (fun hr => ?_) (fun hr => ?_)
   rotate_left
   · refine Ah eh (Ah (em rfl eh) (Ah (Ac rfl eh) (An (e_t (Ac rfl (em rfl eh))) e_c (Aa ?_))))
     exact ⟨false, hr, (Ad rfl (Ac rfl h1)), eh, rfl⟩
   refine Aj eh ?_
   refine AA (e_t (Ac rfl h1)) (by rfl) ?_
   refine Aj (em rfl eh) ?_
   refine Ao (e_t eh) (gx 0 rfl) (by rfl) ?_
   refine Aj (Ac rfl eh) ?_
   obtain ⟨v4, hc_v4, hr⟩ := bind_some hr
   refine AY (Az (e_t eh) AF A1) ?_
   refine H_s_Sblocks p0.Body hc_v4 ?_
   refine Am (e_t (Ac rfl (em rfl eh))) (e_t eh) (Aa ?_)
   exact ⟨v4, hr, (Ad rfl (Ac rfl h1)), eh, rfl⟩
 rintro f st' ⟨v5, hr, h1, h15, rfl⟩
 rw [Ni] at hr
 refine Bh ?_
 unfold Aq5
 refine Ab (e_t h15) ?_
 refine Ar eh hr (fun hr => ?_) (fun hr => ?_)
 rotate_left
 · refine Ah eh (Ah (em rfl eh) (Ah (Ac rfl eh) (An (e_t (Ac rfl (em rfl eh))) e_c (Aa ?_))))
   unfold UN
   refine Ab (e_t eh) (Aa (Ae (AH ?_)))
   cases hr
   exact A5 (AE eh AG) (AK AF v_d) (As hwf) h
 refine Aj eh ?_
 refine AA (e_t (Ac rfl h1)) (by rfl) ?_
 refine Aj (em rfl eh) ?_
 refine Ao (e_t eh) (gx 0 rfl) (by rfl) ?_
 refine Aj (Ac rfl eh) ?_
 obtain ⟨v6, hc_v6, hr⟩ := bind_some hr
 refine AY (Az (e_t eh) AF A1) ?_
 refine H_s_Sblocks p0.Else hc_v6 ?_
 refine Am (e_t (Ac rfl (em rfl eh))) (e_t eh) (Aa ?_)
 unfold UN
 refine Ab (e_t eh) (Aa (Ae (AH ?_)))
 cases hr
 exact A5 (AE eh AG) (AK AF v_d) (As hwf) h
def MC (s_Sbuilt : TS → Option Bool) (s_Sblocks_1 : TS → Option Bool) (s_Sblocks : (List TS) → Option Bool) (p0 : TS) : Option Bool :=
 ((s_Sbuilt p0).bind fun v1 => some (!v1))
theorem Bu2 (s_Sbuilt : TS → Option Bool) (s_Sblocks_1 : TS → Option Bool) (s_Sblocks : (List TS) → Option Bool) (p0 : TS) (H_s_Sbuilt : ∀ (p0 : TS) {r : Bool}, s_Sbuilt p0 = some r → ∀ {st : List Content} {K : PV → List Content → Prop} (h : K (.d (.bool r)) st), Aw PR MS [(.agg [(.d (.int .i64 p0.Op)), (.d (.str p0.Name)), (.d (.str p0.Src)), (.d (.int .i64 p0.N)), (.d (.sl (List.map rS p0.Cols))), (.d (.sl (List.map TE.row p0.Exprs))), (.d (.sl (List.map TS.row p0.Body))), (.d (.sl (List.map TS.row p0.Else)))])] st K) (H_s_Sblocks_1 : ∀ (p0 : TS) {r : Bool}, s_Sblocks_1 p0 = some r → ∀ {st : List Content} {K : PV → List Content → Prop} (h : K (.d (.bool r)) st), Aw PR GN [(.agg [(.d (.int .i64 p0.Op)), (.d (.str p0.Name)), (.d (.str p0.Src)), (.d (.int .i64 p0.N)), (.d (.sl (List.map rS p0.Cols))), (.d (.sl (List.map TE.row p0.Exprs))), (.d (.sl (List.map TS.row p0.Body))), (.d (.sl (List.map TS.row p0.Else)))])] st K) (H_s_Sblocks : ∀ (p0 : (List TS)) {r : Bool}, s_Sblocks p0 = some r → ∀ {st : List Content} {K : PV → List Content → Prop} (h : K (.d (.bool r)) st), Aw PR Gw [(.d (.sl (List.map TS.row p0)))] st K) {r : Bool} (hr : MC s_Sbuilt s_Sblocks_1 s_Sblocks p0 = some r) {K : PV → List Content → Prop} (h : K (.d (.bool r)) st) : Aw PR GN [(.agg [(.d (.int .i64 p0.Op)), (.d (.str p0.Name)), (.d (.str p0.Src)), (.d (.int .i64 p0.N)), (.d (.sl (List.map rS p0.Cols))), (.d (.sl (List.map TE.row p0.Exprs))), (.d (.sl (List.map TS.row p0.Body))), (.d (.sl (List.map TS.row p0.Else)))])] st K := by
 refine Aw.of AS6 (Nat.le_of_ble_eq_true rfl) fun hwf => ?_
 rw [CE]
 refine AS ?_
 unfold Af2
 rw [MC] at hr
 refine Al (Af ?_)
 unfold Af0
 refine GV (k := 0) rfl rfl (e_t eh) Bi (by rfl) ?_
 refine Ab e_c (Aa (Ae (Al (Af ?_))))
 unfold Ad7
 refine Cn (e_t (em rfl eh)) (gx 0 rfl) (Nat.le_of_ble_eq_true rfl) (by rfl) ?_
 obtain ⟨v1, hc_v1, hr⟩ := bind_some hr
 refine AY (Az (e_t eh) (Cw (Aq f_d (Aq f_d (Aq f_d (Aq f_d (Aq f_d (Aq f_d (Aq f_d (Aq f_d Dg))))))))) A1) ?_
 refine H_s_Sbuilt p0 hc_v1 ?_
 refine CN (e_t eh) (Ab (e_t eh) (Aa (Ae (AH ?_))))
 cases hr
 exact A5 (AE eh AG) (AK AF v_d) (As hwf) h
def TK (s_Sbuilt : TS → Option Bool) (s_Sblocks_1 : TS → Option Bool) (s_Sblocks : (List TS) → Option Bool) (n : Nat) (p0 : (List TS)) : Option Bool :=
 ((Bu n p0 (fun (a0 : TS) => s_Sblocks_1 a0)).bind fun v1 => some (!v1))
theorem BH7 (s_Sbuilt : TS → Option Bool) (s_Sblocks_1 : TS → Option Bool) (s_Sblocks : (List TS) → Option Bool) (n : Nat) (p0 : (List TS)) (H_s_Sbuilt : ∀ (p0 : TS) {r : Bool}, s_Sbuilt p0 = some r → ∀ {st : List Content} {K : PV → List Content → Prop} (h : K (.d (.bool r)) st), Aw PR MS [(.agg [(.d (.int .i64 p0.Op)), (.d (.str p0.Name)), (.d (.str p0.Src)), (.d (.int .i64 p0.N)), (.d (.sl (List.map rS p0.Cols))), (.d (.sl (List.map TE.row p0.Exprs))), (.d (.sl (List.map TS.row p0.Body))), (.d (.sl (List.map TS.row p0.Else)))])] st K) (H_s_Sblocks_1 : ∀ (p0 : TS) {r : Bool}, s_Sblocks_1 p0 = some r → ∀ {st : List Content} {K : PV → List Content → Prop} (h : K (.d (.bool r)) st), Aw PR GN [(.agg [(.d (.int .i64 p0.Op)), (.d (.str p0.Name)), (.d (.str p0.Src)), (.d (.int .i64 p0.N)), (.d (.sl (List.map rS p0.Cols))), (.d (.sl (List.map TE.row p0.Exprs))), (.d (.sl (List.map TS.row p0.Body))), (.d (.sl (List.map TS.row p0.Else)))])] st K) (H_s_Sblocks : ∀ (p0 : (List TS)) {r : Bool}, s_Sblocks p0 = some r → ∀ {st : List Content} {K : PV → List Content → Prop} (h : K (.d (.bool r)) st), Aw PR Gw [(.d (.sl (List.map TS.row p0)))] st K) {r : Bool} (hr : TK s_Sbuilt s_Sblocks_1 s_Sblocks n p0 = some r) {K : PV → List Content → Prop} (h : K (.d (.bool r)) st) : Aw PR Gw [(.d (.sl (List.map TS.row p0)))] st K := by
 refine Aw.of Br6 (Nat.le_of_ble_eq_true rfl) fun hwf => ?_
 rw [CE]
 refine AS ?_
 unfold AR1
 rw [TK] at hr
 refine Al (Af ?_)
 unfold AD5
 refine Ab e_c (Aa (Ae (Al (Af ?_))))
 unfold AB4
 refine Ab (e_t (em rfl eh)) ?_
 obtain ⟨v1, hc_v1, hr⟩ := bind_some hr
 refine AY (Az (e_t eh) AF (Az e_c Y3 A1)) ?_
 refine HX n p0 (fun (a0 : TS) => s_Sblocks_1 a0) (fun a0 {_} hr {_ _} hk => H_s_Sblocks_1 a0 hr hk) (fun _ => rfl) hc_v1 ?_
 refine CN (e_t eh) (Ab (e_t eh) (Aa (Ae (AH ?_))))
 cases hr
 exact A5 (AE eh AG) (AK AF v_d) (As hwf) h
mutual
def EX : Nat → TS → Option Bool
 | 0, _ => none
 | n + 1, p0 => X4 (EX n) (EN n) (EU n) n p0
def EN : Nat → TS → Option Bool
 | 0, _ => none
 | n + 1, p0 => MC (EX n) (EN n) (EU n) p0
def EU : Nat → (List TS) → Option Bool
 | 0, _ => none
 | n + 1, p0 => TK (EX n) (EN n) (EU n) n p0
end
theorem HE : ∀ n : Nat, (∀ (p0 : TS) {r : Bool}, EX n p0 = some r → ∀ {st : List Content} {K : PV → List Content → Prop} (h : K (.d (.bool r)) st), Aw PR MS [(.agg [(.d (.int .i64 p0.Op)), (.d (.str p0.Name)), (.d (.str p0.Src)), (.d (.int .i64 p0.N)), (.d (.sl (List.map rS p0.Cols))), (.d (.sl (List.map TE.row p0.Exprs))), (.d (.sl (List.map TS.row p0.Body))), (.d (.sl (List.map TS.row p0.Else)))])] st K) ∧ (∀ (p0 : TS) {r : Bool}, EN n p0 = some r → ∀ {st : List Content} {K : PV → List Content → Prop} (h : K (.d (.bool r)) st), Aw PR GN [(.agg [(.d (.int .i64 p0.Op)), (.d (.str p0.Name)), (.d (.str p0.Src)), (.d (.int .i64 p0.N)), (.d (.sl (List.map rS p0.Cols))), (.d (.sl (List.map TE.row p0.Exprs))), (.d (.sl (List.map TS.row p0.Body))), (.d (.sl (List.map TS.row p0.Else)))])] st K) ∧ (∀ (p0 : (List TS)) {r : Bool}, EU n p0 = some r → ∀ {st : List Content} {K : PV → List Content → Prop} (h : K (.d (.bool r)) st), Aw PR Gw [(.d (.sl (List.map TS.row p0)))] st K)
 | 0 => ⟨fun _ _ hr => (by rw [EX] at hr; cases hr), fun _ _ hr => (by rw [EN] at hr; cases hr), fun _ _ hr => (by rw [EU] at hr; cases hr)⟩
 | n + 1 => ⟨fun p0 _ hr _ _ h => BS0 (EX n) (EN n) (EU n) n p0 (HE n).1 (HE n).2.1 (HE n).2.2 (by rw [EX] at hr; exact hr) h, fun p0 _ hr _ _ h => Bu2 (EX n) (EN n) (EU n) p0 (HE n).1 (HE n).2.1 (HE n).2.2 (by rw [EN] at hr; exact hr) h, fun p0 _ hr _ _ h => BH7 (EX n) (EN n) (EU n) n p0 (HE n).1 (HE n).2.1 (HE n).2.2 (by rw [EU] at hr; exact hr) h⟩
theorem BT3 (n : Nat) (p0 : (List TS)) {r : Bool} (hr : EU n p0 = some r) {K : PV → List Content → Prop} (h : K (.d (.bool r)) st) : Aw PR Gw [(.d (.sl (List.map TS.row p0)))] st K := (HE n).2.2 p0 hr h
def Nn (p0 : TP) (n : Nat) (v3 : Bool) : Option Bool :=
 (bif v3 then ((EU n p0.Body).bind fun v4 => some v4) else some false)
def WG (n : Nat) (p0 : TP) : Option Bool :=
 ((DP n p0.Body (0 : Int) (fun (a0 : TS) (a1 : Int) => Cr n a0 a1)).bind fun v1 => ((WI n p0).bind fun v2 => (bif v2 then (Nn p0 n (HG v1)) else (Nn p0 n false))))
theorem BZ1 (n : Nat) (p0 : TP) {r : Bool} (hr : WG n p0 = some r) {K : PV → List Content → Prop} (h : K (.d (.bool r)) st) : Aw PR AD9 [(.agg [(.d (.str p0.Name)), (.d (.str p0.From)), (.d (.str p0.At)), (.d (.int .i64 p0.Fuel)), (.d (.sl (List.map T_api_Column.row p0.Params))), (.d (.sl (List.map TS.row p0.Body)))])] st K := by
 refine Aw.of By7 (Nat.le_of_ble_eq_true rfl) fun hwf => ?_
 rw [CE]
 refine AS ?_
 unfold Bl8
 rw [WG] at hr
 refine Al (Af ?_)
 unfold AV3
 refine GV (k := 0) rfl rfl (e_t eh) Bi (by rfl) ?_
 refine Ab e_c (Aa (Ae (Al (Af ?_))))
 unfold AX9
 refine AA (e_t (em rfl eh)) (by rfl) ?_
 refine Ao (e_t eh) (gx 0 rfl) (by rfl) ?_
 obtain ⟨v1, hc_v1, hr⟩ := bind_some hr
 refine AY (Az (e_t eh) AF (Az e_c AF (Az e_c Y3 A1))) ?_
 refine PE n p0.Body (0 : Int) (fun (a0 : TS) (a1 : Int) => Cr n a0 a1) (fun a0 a1 {_} hr {_ _} hk => BA7 n a0 a1 hr hk) (fun _ => rfl) hc_v1 ?_
 refine Dv (k := 1) rfl rfl ?_
 refine BB (e_t eh) (gx 1 rfl) (e_t (em rfl eh)) Bi rfl (Nat.le_of_ble_eq_true rfl) (by rfl) (cells' := [(.d (.int .i64 v1.nodes)), (.d (.int .i64 v1.depth))]) (by rfl) (BD rfl _ _) ?_
 refine Aa (Ae (Al (Af ?_)))
 unfold AY1
 refine Ba (fun f st' => ∃ (v3 : Bool), Nn p0 n v3 = some r ∧ f 1 = (.ptr (st.length + 0) 0) ∧ f 11 = (.d (.bool v3)) ∧ st' = st ++ [(.box [(.d (.str p0.Name)), (.d (.str p0.From)), (.d (.str p0.At)), (.d (.int .i64 p0.Fuel)), (.d (.sl (List.map T_api_Column.row p0.Params))), (.d (.sl (List.map TS.row p0.Body)))]), (.box [(.d (.int .i64 v1.nodes)), (.d (.int .i64 v1.depth))])]) ?_ ?_
 · unfold Ar1
   refine Cn (e_t (Ad rfl (em rfl eh))) (gx 0 rfl) (Nat.le_of_ble_eq_true rfl) (by rfl) ?_
   obtain ⟨v2, hc_v2, hr⟩ := bind_some hr
   refine AY (Az (e_t eh) (Cw (Aq f_d (Aq f_d (Aq f_d (Aq f_d (Aq f_d (Aq f_d Dg))))))) A1) ?_
   refine BT7 n p0 hc_v2 ?_
   refine Ab (e_t eh) ?_
   refine Ar eh hr (fun hr => ?_) (fun hr => ?_)
   rotate_left
   · refine Ah eh (An (e_t (em rfl eh)) e_c (Aa ?_))
     exact ⟨false, hr, (Ak rfl (Ac rfl (em rfl eh))), eh, rfl⟩
   refine Aj eh ?_
   refine AY (Az (e_t (Ad rfl eh)) At2 A1) ?_
   refine Bn8 v1 rfl (gx 1 rfl) ?_
   refine Am (e_t (em rfl eh)) (e_t eh) (Aa ?_)
   exact ⟨(HG v1), hr, (Ak rfl (Ac rfl (em rfl eh))), eh, rfl⟩
 rintro f st' ⟨v3, hr, h1, h11, rfl⟩
 rw [Nn] at hr
 refine Bh ?_
 unfold Ao7
 refine Ab (e_t h11) ?_
 refine Ar eh hr (fun hr => ?_) (fun hr => ?_)
 rotate_left
 · refine Ah eh (Ah (em rfl eh) (Ah (Ac rfl eh) (An (e_t (Ac rfl (em rfl eh))) e_c (Aa ?_))))
   unfold UK
   refine Ab (e_t eh) (Aa (Ae (AH ?_)))
   cases hr
   exact A5 (AE eh AG) (AK AF v_d) (As hwf) h
 refine Aj eh ?_
 refine AA (e_t (Ac rfl h1)) (by rfl) ?_
 refine Aj (em rfl eh) ?_
 refine Ao (e_t eh) (gx 0 rfl) (by rfl) ?_
 refine Aj (Ac rfl eh) ?_
 obtain ⟨v4, hc_v4, hr⟩ := bind_some hr
 refine AY (Az (e_t eh) AF A1) ?_
 refine BT3 n p0.Body hc_v4 ?_
 refine Am (e_t (Ac rfl (em rfl eh))) (e_t eh) (Aa ?_)
 unfold UK
 refine Ab (e_t eh) (Aa (Ae (AH ?_)))
 cases hr
 exact A5 (AE eh AG) (AK AF v_d) (As hwf) h
def Iw (n : Nat) (p0 : T_api_Catalog) (p1 : TP) : Option Int :=
 ((WG n p1).bind fun v2 => (bif (!v2) then some (1 : Int) else none))
theorem AG5 (n : Nat) (p0 : T_api_Catalog) (p1 : TP) {r : Int} (hr : Iw n p0 p1 = some r) {K : PV → List Content → Prop} (h : K (.d (.int .i64 r)) st) : Aw PR KX [(.agg [(.d (.sl (List.map T_api_Schema.row p0.Tables))), (.d (.sl (List.map T_api_Stream.row p0.Streams))), (.d (.sl (List.map T_api_Window.row p0.Windows))), (.d (.sl (List.map T_api_Stream.row p0.Sinks))), (.d (.sl (List.map TP.row p0.Procs)))]), (.agg [(.d (.str p1.Name)), (.d (.str p1.From)), (.d (.str p1.At)), (.d (.int .i64 p1.Fuel)), (.d (.sl (List.map T_api_Column.row p1.Params))), (.d (.sl (List.map TS.row p1.Body)))])] st K := by
 refine Aw.of AM5 (Nat.le_of_ble_eq_true rfl) fun hwf => ?_
 rw [ED]
 refine AS ?_
 unfold Yt
 rw [Iw] at hr
 refine Al (Af ?_)
 unfold Zc
 refine GV (k := 0) rfl rfl (e_t eh) Bi (by rfl) ?_
 refine GV (k := 1) rfl rfl (e_t (Ac rfl eh)) Bi (by rfl) ?_
 refine Ab e_c (Aa (Ae (Al (Al (Af ?_)))))
 unfold Y1
 refine Cn (e_t (em rfl eh)) (gx 1 rfl) (Nat.le_of_ble_eq_true rfl) (by rfl) ?_
 obtain ⟨v2, hc_v2, hr⟩ := bind_some hr
 refine AY (Az (e_t eh) (Cw (Aq f_d (Aq f_d (Aq f_d (Aq f_d (Aq f_d (Aq f_d Dg))))))) A1) ?_
 refine BZ1 n p1 hc_v2 ?_
 refine CN (e_t eh) (Aa (Ae ?_))
 refine AB (e_t eh) hr (fun hr => ?_) (fun hr => ?_)
 · refine Al (Af ?_)
   unfold YL
   refine Ab e_c (Aa (Ae (AH (Ay ?_))))
   cases hr
   exact A5 (AE eh AG) (AK AF v_d) (As hwf) h
 refine AM (Ae (Al (Al (Af ?_))))
 unfold Y0
 refine AA (e_t (Ad rfl (em rfl eh))) (by rfl) ?_
 refine Ao (e_t eh) (gx 0 rfl) (by rfl) ?_
 refine AA (e_t (Ad rfl (Ac rfl eh))) (by rfl) ?_
 refine Ao (e_t eh) (gx 1 rfl) (by rfl) ?_
 cases hr
def HD (n : Nat) (p0 : T_api_Catalog) (p1 : TP) : Option ((List Int) × Bool) :=
 ((Iw n p0 p1).bind fun v2 => (bif (!decide (v2 = (0 : Int))) then some ([], false) else none))
theorem Bm9 (n : Nat) (p0 : T_api_Catalog) (p1 : TP) {r : ((List Int) × Bool)} (hr : HD n p0 p1 = some r) {K : PV → List Content → Prop} (h : K (.tup [(.d (.sl (List.map (rI .i64) r.1))), (.d (.bool r.2))]) st) : Aw PR Jh [(.agg [(.d (.sl (List.map T_api_Schema.row p0.Tables))), (.d (.sl (List.map T_api_Stream.row p0.Streams))), (.d (.sl (List.map T_api_Window.row p0.Windows))), (.d (.sl (List.map T_api_Stream.row p0.Sinks))), (.d (.sl (List.map TP.row p0.Procs)))]), (.agg [(.d (.str p1.Name)), (.d (.str p1.From)), (.d (.str p1.At)), (.d (.int .i64 p1.Fuel)), (.d (.sl (List.map T_api_Column.row p1.Params))), (.d (.sl (List.map TS.row p1.Body)))])] st K := by
 refine Aw.of Aq9 (Nat.le_of_ble_eq_true rfl) fun hwf => ?_
 rw [ED]
 refine AS ?_
 unfold UM
 rw [HD] at hr
 refine Al (Af ?_)
 unfold VX
 refine GV (k := 0) rfl rfl (e_t eh) Bi (by rfl) ?_
 refine GV (k := 1) rfl rfl (e_t (Ac rfl eh)) Bi (by rfl) ?_
 refine Ab e_c (Ab e_c (Aa (Ae (Al (Al ?_)))))
 refine Af ?_
 unfold WR
 refine Cn (e_t (Ac rfl (em rfl eh))) (gx 0 rfl) (Nat.le_of_ble_eq_true rfl) (by rfl) ?_
 refine Cn (e_t (Ac rfl (em rfl eh))) (gx 1 rfl) (Nat.le_of_ble_eq_true rfl) (by rfl) ?_
 obtain ⟨v2, hc_v2, hr⟩ := bind_some hr
 refine AY (Az (e_t (em rfl eh)) (Cw (Aq f_d (Aq f_d (Aq f_d (Aq f_d (Aq f_d Dg)))))) (Az (e_t eh) (Cw (Aq f_d (Aq f_d (Aq f_d (Aq f_d (Aq f_d (Aq f_d Dg))))))) A1)) ?_
 refine AG5 n p0 p1 hc_v2 ?_
 refine Ap (e_t eh) e_c (Ad6 ?_)
 refine Aa (Ae ?_)
 refine AB (e_t eh) hr (fun hr => ?_) (fun hr => ?_)
 rotate_left
 · refine AM (Ae (Al ?_))
   refine IM (k := 2) rfl rfl ?_
   unfold Wq
   refine Ag rfl (BM (e_t (Ad rfl (Ac rfl (em rfl eh))))) (Cn (e_t (Ad rfl (Ac rfl (em rfl eh)))) (gx 0 rfl) (Nat.le_of_ble_eq_true rfl) (by rfl) (Aa ?_))
   refine Ag rfl (BM (e_t (Ad rfl (Ac rfl (em rfl eh))))) (Cn (e_t (Ad rfl (Ac rfl (em rfl eh)))) (gx 1 rfl) (Nat.le_of_ble_eq_true rfl) (by rfl) (Aa ?_))
   cases hr
 refine Al (Af ?_)
 unfold Wd
 refine Ab e_c (Ab e_c (Aa (Ae (AH (Ay ?_)))))
 cases hr
 exact A5 (AE (em rfl eh) (AE eh AG)) (JU (Bm Ck3 (Bm G8 JW)) rfl) (As hwf) h
def IA (n : Nat) (p0 : T_api_Catalog) (p1 : TP) : Option Int :=
 ((Iw n p0 p1).bind fun v2 => (bif (!decide (v2 = (0 : Int))) then some v2 else none))
theorem Bu0 (n : Nat) (p0 : T_api_Catalog) (p1 : TP) {r : Int} (hr : IA n p0 p1 = some r) {K : PV → List Content → Prop} (h : K (.d (.int .i64 r)) st) : Aw PR IG [(.agg [(.d (.sl (List.map T_api_Schema.row p0.Tables))), (.d (.sl (List.map T_api_Stream.row p0.Streams))), (.d (.sl (List.map T_api_Window.row p0.Windows))), (.d (.sl (List.map T_api_Stream.row p0.Sinks))), (.d (.sl (List.map TP.row p0.Procs)))]), (.agg [(.d (.str p1.Name)), (.d (.str p1.From)), (.d (.str p1.At)), (.d (.int .i64 p1.Fuel)), (.d (.sl (List.map T_api_Column.row p1.Params))), (.d (.sl (List.map TS.row p1.Body)))])] st K := by
 refine Aw.of Au9 (Nat.le_of_ble_eq_true rfl) fun hwf => ?_
 rw [ED]
 refine AS ?_
 unfold XD
 rw [IA] at hr
 refine Al (Af ?_)
 unfold YZ
 refine GV (k := 0) rfl rfl (e_t eh) Bi (by rfl) ?_
 refine GV (k := 1) rfl rfl (e_t (Ac rfl eh)) Bi (by rfl) ?_
 refine Ab e_c (Aa (Ae (Al (Al (Af ?_)))))
 unfold Zb
 refine Cn (e_t (Ac rfl eh)) (gx 0 rfl) (Nat.le_of_ble_eq_true rfl) (by rfl) ?_
 refine Cn (e_t (Ac rfl eh)) (gx 1 rfl) (Nat.le_of_ble_eq_true rfl) (by rfl) ?_
 obtain ⟨v2, hc_v2, hr⟩ := bind_some hr
 refine AY (Az (e_t (em rfl eh)) (Cw (Aq f_d (Aq f_d (Aq f_d (Aq f_d (Aq f_d Dg)))))) (Az (e_t eh) (Cw (Aq f_d (Aq f_d (Aq f_d (Aq f_d (Aq f_d (Aq f_d Dg))))))) A1)) ?_
 refine AG5 n p0 p1 hc_v2 ?_
 refine Ab (e_t eh) (Aa (Ae (Al (Af ?_))))
 unfold YY
 refine Ab (e_t eh) ?_
 refine Ap (e_t eh) e_c (Ad6 ?_)
 refine Aa (Ae ?_)
 refine AB (e_t eh) hr (fun hr => ?_) (fun hr => ?_)
 rotate_left
 · refine AM (Ae (Al (Al ?_)))
   refine IM (k := 2) rfl rfl ?_
   unfold Y5
   refine Ag rfl (BM (e_t (Ad rfl (Ad rfl eh)))) (Cn (e_t (Ad rfl (Ad rfl eh))) (gx 0 rfl) (Nat.le_of_ble_eq_true rfl) (by rfl) (Aa ?_))
   refine Ag rfl (BM (e_t (Ad rfl (Ad rfl eh)))) (Cn (e_t (Ad rfl (Ad rfl eh))) (gx 1 rfl) (Nat.le_of_ble_eq_true rfl) (by rfl) (Aa ?_))
   cases hr
 refine Al (Af ?_)
 unfold Y8
 refine Ab (e_t (Ac rfl eh)) (Ab (e_t eh) (Aa (Ae (AH (Ay ?_)))))
 cases hr
 exact A5 (AE eh AG) (AK AF v_d) (As hwf) h
end Go.Ax
