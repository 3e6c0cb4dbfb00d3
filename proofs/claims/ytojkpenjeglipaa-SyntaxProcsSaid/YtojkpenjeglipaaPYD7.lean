import Derived.Test.YtojkpenjeglipaaPYT
import Derived.Test.YtojkpenjeglipaaPCVX
import Derived.Test.YtojkpenjeglipaaPCPrim
import Derived.Test.YtojkpenjeglipaaPYD0
import Derived.Test.YtojkpenjeglipaaPYD1
import Derived.Test.YtojkpenjeglipaaPYD2
import Derived.Test.YtojkpenjeglipaaPYD3
import Derived.Test.YtojkpenjeglipaaPYD4
import Derived.Test.YtojkpenjeglipaaPYD5
import Derived.Test.YtojkpenjeglipaaPYD6
set_option linter.unusedVariables false
set_option linter.unusedSimpArgs false
namespace Go.Ax
attribute [local irreducible] BQ EX FK Bg CQ FI B8 Le Ii upd ev u0 Dw frz A9 EK mmD bnd B2 FD Dq CR G3 HS Hg cutV JT Cy
variable {st : List Content}
def H4 (s_SbuiltExpr_1 : TE → Option Bool) (s_SbuiltExpr : TE → Option Bool) (p0 : TE) : Option Bool :=
 ((s_SbuiltExpr p0).bind fun v1 => some (!v1))
set_option maxRecDepth 100000 in
set_option maxHeartbeats 4000000 in
theorem Yd (s_SbuiltExpr_1 : TE → Option Bool) (s_SbuiltExpr : TE → Option Bool) (p0 : TE) (H_s_SbuiltExpr_1 : ∀ (p0 : TE) {r : Bool}, s_SbuiltExpr_1 p0 = some r → ∀ {st : List Content} {K : PV → List Content → Prop} (h : K (.d (.bool r)) st), Av PR Gz [(.agg [(.d (.int .i64 p0.Op)), (.d (.int .i64 p0.N)), (.d (.str p0.S)), (.d (.str p0.Name)), (.d (.str p0.Src)), (.d (.sl (List.map TE.row p0.Args)))])] st K) (H_s_SbuiltExpr : ∀ (p0 : TE) {r : Bool}, s_SbuiltExpr p0 = some r → ∀ {st : List Content} {K : PV → List Content → Prop} (h : K (.d (.bool r)) st), Av PR Gb [(.agg [(.d (.int .i64 p0.Op)), (.d (.int .i64 p0.N)), (.d (.str p0.S)), (.d (.str p0.Name)), (.d (.str p0.Src)), (.d (.sl (List.map TE.row p0.Args)))])] st K) {r : Bool} (hr : H4 s_SbuiltExpr_1 s_SbuiltExpr p0 = some r) {K : PV → List Content → Prop} (h : K (.d (.bool r)) st) : Av PR Gz [(.agg [(.d (.int .i64 p0.Op)), (.d (.int .i64 p0.N)), (.d (.str p0.S)), (.d (.str p0.Name)), (.d (.str p0.Src)), (.d (.sl (List.map TE.row p0.Args)))])] st K := by
 refine Av.of ZC (Nat.le_of_ble_eq_true rfl) fun hwf => ?_
 rw [B5]
 refine AQ ?_
 unfold RE
 rw [H4] at hr
 refine Al (Af ?_)
 unfold Nq
 refine Gq (k := 0) rfl rfl (e_t eh) Bf (by exact rfl) ?_
 refine Ab e_c (Aa (Ae (Al (Af ?_))))
 unfold Ns
 refine Bw (e_t (em rfl eh)) ((Am rfl 0).trans rfl) (Nat.le_of_ble_eq_true rfl) (by exact rfl) ?_
 obtain ⟨v1, hc_v1, hr⟩ := bind_some hr
 refine AJ (Ar (e_t eh) (Bx (Aq f_d (Aq f_d (Aq f_d (Aq f_d (Aq f_d (Aq f_d B3))))))) AM) ?_
 refine H_s_SbuiltExpr p0 hc_v1 ?_
 refine C2 (e_t eh) (Ab (e_t eh) (Aa (Ae (AI ?_))))
 cases hr
 exact A7 (AG eh AH) (AN AF v_d) (Ay hwf) h
def Hh (p0 : TE) (s_SbuiltExpr_1 : TE → Option Bool) (n : Nat) (v2 : Bool) : Option Bool :=
 (bif v2 then ((Bq n p0.Args (fun (a0 : TE) => s_SbuiltExpr_1 a0)).bind fun v3 => some (!v3)) else some false)
def JD (s_SbuiltExpr_1 : TE → Option Bool) (s_SbuiltExpr : TE → Option Bool) (n : Nat) (p0 : TE) : Option Bool :=
 (bif (decide (((O0 p0.Op).1) = (p0.Args.length : Int))) then ((Lk n p0).bind fun v1 => (Hh p0 s_SbuiltExpr_1 n v1)) else (Hh p0 s_SbuiltExpr_1 n false))
set_option maxRecDepth 100000 in
set_option maxHeartbeats 4000000 in
theorem Ah3 (s_SbuiltExpr_1 : TE → Option Bool) (s_SbuiltExpr : TE → Option Bool) (n : Nat) (p0 : TE) (H_s_SbuiltExpr_1 : ∀ (p0 : TE) {r : Bool}, s_SbuiltExpr_1 p0 = some r → ∀ {st : List Content} {K : PV → List Content → Prop} (h : K (.d (.bool r)) st), Av PR Gz [(.agg [(.d (.int .i64 p0.Op)), (.d (.int .i64 p0.N)), (.d (.str p0.S)), (.d (.str p0.Name)), (.d (.str p0.Src)), (.d (.sl (List.map TE.row p0.Args)))])] st K) (H_s_SbuiltExpr : ∀ (p0 : TE) {r : Bool}, s_SbuiltExpr p0 = some r → ∀ {st : List Content} {K : PV → List Content → Prop} (h : K (.d (.bool r)) st), Av PR Gb [(.agg [(.d (.int .i64 p0.Op)), (.d (.int .i64 p0.N)), (.d (.str p0.S)), (.d (.str p0.Name)), (.d (.str p0.Src)), (.d (.sl (List.map TE.row p0.Args)))])] st K) {r : Bool} (hr : JD s_SbuiltExpr_1 s_SbuiltExpr n p0 = some r) {K : PV → List Content → Prop} (h : K (.d (.bool r)) st) : Av PR Gb [(.agg [(.d (.int .i64 p0.Op)), (.d (.int .i64 p0.N)), (.d (.str p0.S)), (.d (.str p0.Name)), (.d (.str p0.Src)), (.d (.sl (List.map TE.row p0.Args)))])] st K := by
 refine Av.of Ap9 (Nat.le_of_ble_eq_true rfl) fun hwf => ?_
 rw [B5]
 refine AQ ?_
 unfold TR
 rw [JD] at hr
 refine Al (Af ?_)
 unfold Pw
 refine Gq (k := 0) rfl rfl (e_t eh) Bf (by exact rfl) ?_
 refine Ab e_c (Aa (Ae (Al (Af ?_))))
 unfold PA
 refine AB (e_t (em rfl eh)) (by exact rfl) ?_
 refine Ap (e_t eh) ((Am rfl 0).trans rfl) (by exact rfl) ?_
 refine AJ (Ar (e_t eh) AF AM) ?_
 refine Ap3 p0.Op rfl ?_
 refine Ab (e_t eh) ?_
 refine HP (e_t eh) (by exact rfl) ?_
 refine HP (e_t (em rfl eh)) (by exact rfl) ?_
 refine Ab (e_t (em rfl eh)) (Ab (e_t (em rfl eh)) (Aa (Ae (Al (Af ?_)))))
 unfold Qj
 refine A1 (fun f st' => ∃ (v2 : Bool), Hh p0 s_SbuiltExpr_1 n v2 = some r ∧ f 1 = (.ptr (st.length + 0) 0) ∧ f 19 = (.d (.bool v2)) ∧ st' = st ++ [(.box [(.d (.int .i64 p0.Op)), (.d (.int .i64 p0.N)), (.d (.str p0.S)), (.d (.str p0.Name)), (.d (.str p0.Src)), (.d (.sl (List.map TE.row p0.Args)))])]) ?_ ?_
 · unfold No
   refine Ab (e_t (em rfl eh)) ?_
   refine AB (e_t (Ak rfl (Ac rfl eh))) (by exact rfl) ?_
   refine Ap (e_t eh) ((Am rfl 0).trans rfl) (by exact rfl) ?_
   refine Bh (row := TE.row) (AP (e_t eh) Bt) ?_
   refine As (e_t (Ac rfl (em rfl eh))) (e_t eh) (BK ?_)
   refine Ab (e_t eh) ?_
   refine Au eh hr (fun hr => ?_) (fun hr => ?_)
   rotate_left
   · refine Ag eh (Ag (em rfl eh) (Ao (e_t (Ac rfl eh)) e_c (Aa ?_)))
     exact ⟨false, hr, (Aj rfl (Ac rfl (em rfl eh))), eh, rfl⟩
   refine Ai eh ?_
   refine Bw (e_t (Ak rfl (Ad rfl (Ad rfl eh)))) ((Am rfl 0).trans rfl) (Nat.le_of_ble_eq_true rfl) (by exact rfl) ?_
   refine Ai (em rfl eh) ?_
   obtain ⟨v1, hc_v1, hr⟩ := bind_some hr
   refine AJ (Ar (e_t eh) (Bx (Aq f_d (Aq f_d (Aq f_d (Aq f_d (Aq f_d (Aq f_d B3))))))) AM) ?_
   refine AJ8 n p0 hc_v1 ?_
   refine An (e_t (Ac rfl eh)) (e_t eh) (Aa ?_)
   exact ⟨v1, hr, (Aj rfl (Ac rfl (em rfl eh))), eh, rfl⟩
 rintro f st' ⟨v2, hr, h1, h19, rfl⟩
 rw [Hh] at hr
 refine Bn ?_
 unfold Mz
 refine Ab (e_t h19) ?_
 refine Au eh hr (fun hr => ?_) (fun hr => ?_)
 rotate_left
 · refine Ag eh (Ag (em rfl eh) (Ag (Ac rfl eh) (Ag (Ac rfl (em rfl eh)) (Ao (e_t (Ad rfl eh)) e_c (Aa ?_)))))
   unfold JE
   refine Ab (e_t eh) (Aa (Ae (AI ?_)))
   cases hr
   exact A7 (AG eh AH) (AN AF v_d) (Ay hwf) h
 refine Ai eh ?_
 refine AB (e_t (Ac rfl h1)) (by exact rfl) ?_
 refine Ai (em rfl eh) ?_
 refine Ap (e_t eh) ((Am rfl 0).trans rfl) (by exact rfl) ?_
 refine Ai (Ac rfl eh) ?_
 obtain ⟨v3, hc_v3, hr⟩ := bind_some hr
 refine AJ (Ar (e_t eh) AF (Ar e_c K7 AM)) ?_
 refine Ex n p0.Args (fun (a0 : TE) => s_SbuiltExpr_1 a0) (fun a0 {_} hr {_ _} hk => H_s_SbuiltExpr_1 a0 hr hk) (fun _ => rfl) hc_v3 ?_
 refine Ai (Ac rfl (em rfl eh)) (C2 (e_t eh) (An (e_t (Ad rfl eh)) (e_t eh) (Aa ?_)))
 unfold JE
 refine Ab (e_t eh) (Aa (Ae (AI ?_)))
 cases hr
 exact A7 (AG eh AH) (AN AF v_d) (Ay hwf) h
mutual
def DI : Nat → TE → Option Bool
 | 0, _ => none
 | n + 1, p0 => H4 (DI n) (CU n) p0
def CU : Nat → TE → Option Bool
 | 0, _ => none
 | n + 1, p0 => JD (DI n) (CU n) n p0
end
theorem He : ∀ n : Nat, (∀ (p0 : TE) {r : Bool}, DI n p0 = some r → ∀ {st : List Content} {K : PV → List Content → Prop} (h : K (.d (.bool r)) st), Av PR Gz [(.agg [(.d (.int .i64 p0.Op)), (.d (.int .i64 p0.N)), (.d (.str p0.S)), (.d (.str p0.Name)), (.d (.str p0.Src)), (.d (.sl (List.map TE.row p0.Args)))])] st K) ∧ (∀ (p0 : TE) {r : Bool}, CU n p0 = some r → ∀ {st : List Content} {K : PV → List Content → Prop} (h : K (.d (.bool r)) st), Av PR Gb [(.agg [(.d (.int .i64 p0.Op)), (.d (.int .i64 p0.N)), (.d (.str p0.S)), (.d (.str p0.Name)), (.d (.str p0.Src)), (.d (.sl (List.map TE.row p0.Args)))])] st K)
 | 0 => ⟨fun _ _ hr => (by rw [DI] at hr; cases hr), fun _ _ hr => (by rw [CU] at hr; cases hr)⟩
 | n + 1 => ⟨fun p0 _ hr _ _ h => Yd (DI n) (CU n) p0 (He n).1 (He n).2 (by rw [DI] at hr; exact hr) h, fun p0 _ hr _ _ h => Ah3 (DI n) (CU n) n p0 (He n).1 (He n).2 (by rw [CU] at hr; exact hr) h⟩
theorem An0 (n : Nat) (p0 : TE) {r : Bool} (hr : CU n p0 = some r) {K : PV → List Content → Prop} (h : K (.d (.bool r)) st) : Av PR Gb [(.agg [(.d (.int .i64 p0.Op)), (.d (.int .i64 p0.N)), (.d (.str p0.S)), (.d (.str p0.Name)), (.d (.str p0.Src)), (.d (.sl (List.map TE.row p0.Args)))])] st K := (He n).2 p0 hr h
def Ke (n : Nat) (p0 : TE) : Option Bool :=
 ((CU n p0).bind fun v1 => some (!v1))
set_option maxRecDepth 100000 in
set_option maxHeartbeats 4000000 in
theorem AD1 (n : Nat) (p0 : TE) {r : Bool} (hr : Ke n p0 = some r) {K : PV → List Content → Prop} (h : K (.d (.bool r)) st) : Av PR SV [(.agg [(.d (.int .i64 p0.Op)), (.d (.int .i64 p0.N)), (.d (.str p0.S)), (.d (.str p0.Name)), (.d (.str p0.Src)), (.d (.sl (List.map TE.row p0.Args)))])] st K := by
 refine Av.of AA9 (Nat.le_of_ble_eq_true rfl) fun hwf => ?_
 rw [B5]
 refine AQ ?_
 unfold ZB
 rw [Ke] at hr
 refine Al (Af ?_)
 unfold R7
 refine Gq (k := 0) rfl rfl (e_t eh) Bf (by exact rfl) ?_
 refine Ab e_c (Aa (Ae (Al (Af ?_))))
 unfold R8
 refine Bw (e_t (em rfl eh)) ((Am rfl 0).trans rfl) (Nat.le_of_ble_eq_true rfl) (by exact rfl) ?_
 obtain ⟨v1, hc_v1, hr⟩ := bind_some hr
 refine AJ (Ar (e_t eh) (Bx (Aq f_d (Aq f_d (Aq f_d (Aq f_d (Aq f_d (Aq f_d B3))))))) AM) ?_
 refine An0 n p0 hc_v1 ?_
 refine C2 (e_t eh) (Ab (e_t eh) (Aa (Ae (AI ?_))))
 cases hr
 exact A7 (AG eh AH) (AN AF v_d) (Ay hwf) h
def KB (p0 : TS) (s_Sblocks : (List TS) → Option Bool) (v5 : Bool) : Option Bool :=
 (bif v5 then ((s_Sblocks p0.Else).bind fun v6 => some v6) else some false)
def KJ (p0 : TS) (s_Sblocks : (List TS) → Option Bool) (v3 : Bool) : Option Bool :=
 (bif v3 then ((s_Sblocks p0.Body).bind fun v4 => (KB p0 s_Sblocks v4)) else (KB p0 s_Sblocks false))
def Pa (s_Sbuilt : TS → Option Bool) (s_Sblocks_1 : TS → Option Bool) (s_Sblocks : (List TS) → Option Bool) (n : Nat) (p0 : TS) : Option Bool :=
 ((Ee n p0).bind fun v1 => (bif v1 then ((Bq n p0.Exprs (fun (a0 : TE) => Ke n a0)).bind fun v2 => (KJ p0 s_Sblocks (!v2))) else (KJ p0 s_Sblocks false)))
set_option maxRecDepth 100000 in
set_option maxHeartbeats 4000000 in
theorem AK5 (s_Sbuilt : TS → Option Bool) (s_Sblocks_1 : TS → Option Bool) (s_Sblocks : (List TS) → Option Bool) (n : Nat) (p0 : TS) (H_s_Sbuilt : ∀ (p0 : TS) {r : Bool}, s_Sbuilt p0 = some r → ∀ {st : List Content} {K : PV → List Content → Prop} (h : K (.d (.bool r)) st), Av PR LG [(.agg [(.d (.int .i64 p0.Op)), (.d (.str p0.Name)), (.d (.str p0.Src)), (.d (.int .i64 p0.N)), (.d (.sl (List.map rS p0.Cols))), (.d (.sl (List.map TE.row p0.Exprs))), (.d (.sl (List.map TS.row p0.Body))), (.d (.sl (List.map TS.row p0.Else)))])] st K) (H_s_Sblocks_1 : ∀ (p0 : TS) {r : Bool}, s_Sblocks_1 p0 = some r → ∀ {st : List Content} {K : PV → List Content → Prop} (h : K (.d (.bool r)) st), Av PR HB [(.agg [(.d (.int .i64 p0.Op)), (.d (.str p0.Name)), (.d (.str p0.Src)), (.d (.int .i64 p0.N)), (.d (.sl (List.map rS p0.Cols))), (.d (.sl (List.map TE.row p0.Exprs))), (.d (.sl (List.map TS.row p0.Body))), (.d (.sl (List.map TS.row p0.Else)))])] st K) (H_s_Sblocks : ∀ (p0 : (List TS)) {r : Bool}, s_Sblocks p0 = some r → ∀ {st : List Content} {K : PV → List Content → Prop} (h : K (.d (.bool r)) st), Av PR Hl [(.d (.sl (List.map TS.row p0)))] st K) {r : Bool} (hr : Pa s_Sbuilt s_Sblocks_1 s_Sblocks n p0 = some r) {K : PV → List Content → Prop} (h : K (.d (.bool r)) st) : Av PR LG [(.agg [(.d (.int .i64 p0.Op)), (.d (.str p0.Name)), (.d (.str p0.Src)), (.d (.int .i64 p0.N)), (.d (.sl (List.map rS p0.Cols))), (.d (.sl (List.map TE.row p0.Exprs))), (.d (.sl (List.map TS.row p0.Body))), (.d (.sl (List.map TS.row p0.Else)))])] st K := by
 refine Av.of AQ6 (Nat.le_of_ble_eq_true rfl) fun hwf => ?_
 rw [B5]
 refine AQ ?_
 unfold Ax7
 rw [Pa] at hr
 refine Al (Af ?_)
 unfold Yb
 refine Gq (k := 0) rfl rfl (e_t eh) Bf (by exact rfl) ?_
 refine Ab e_c (Aa (Ae (Al (Af ?_))))
 unfold Xm
 refine A1 (fun f st' => ∃ (v3 : Bool), KJ p0 s_Sblocks v3 = some r ∧ f 1 = (.ptr (st.length + 0) 0) ∧ f 10 = (.d (.bool v3)) ∧ st' = st ++ [(.box [(.d (.int .i64 p0.Op)), (.d (.str p0.Name)), (.d (.str p0.Src)), (.d (.int .i64 p0.N)), (.d (.sl (List.map rS p0.Cols))), (.d (.sl (List.map TE.row p0.Exprs))), (.d (.sl (List.map TS.row p0.Body))), (.d (.sl (List.map TS.row p0.Else)))])]) ?_ ?_
 · unfold SL
   refine Bw (e_t (em rfl eh)) ((Am rfl 0).trans rfl) (Nat.le_of_ble_eq_true rfl) (by exact rfl) ?_
   obtain ⟨v1, hc_v1, hr⟩ := bind_some hr
   refine AJ (Ar (e_t eh) (Bx (Aq f_d (Aq f_d (Aq f_d (Aq f_d (Aq f_d (Aq f_d (Aq f_d (Aq f_d B3))))))))) AM) ?_
   refine AP5 n p0 hc_v1 ?_
   refine Ab (e_t eh) ?_
   refine Au eh hr (fun hr => ?_) (fun hr => ?_)
   rotate_left
   · refine Ag eh (Ag (em rfl eh) (Ag (Ac rfl eh) (Ag (Ac rfl (em rfl eh)) (Ao (e_t (Ad rfl eh)) e_c (Aa ?_)))))
     exact ⟨false, hr, (Ak rfl (Ac rfl eh)), eh, rfl⟩
   refine Ai eh ?_
   refine AB (e_t (Ad rfl (em rfl eh))) (by exact rfl) ?_
   refine Ai (em rfl eh) ?_
   refine Ap (e_t eh) ((Am rfl 0).trans rfl) (by exact rfl) ?_
   refine Ai (Ac rfl eh) ?_
   obtain ⟨v2, hc_v2, hr⟩ := bind_some hr
   refine AJ (Ar (e_t eh) AF (Ar e_c K7 AM)) ?_
   refine Ex n p0.Exprs (fun (a0 : TE) => Ke n a0) (fun a0 {_} hr {_ _} hk => AD1 n a0 hr hk) (fun _ => rfl) hc_v2 ?_
   refine Ai (Ac rfl (em rfl eh)) (C2 (e_t eh) (An (e_t (Ad rfl eh)) (e_t eh) (Aa ?_)))
   exact ⟨(!v2), hr, (Ak rfl (Ac rfl eh)), eh, rfl⟩
 rintro f st' ⟨v3, hr, h1, h10, rfl⟩
 rw [KJ] at hr
 refine A1 (fun f st' => ∃ (v5 : Bool), KB p0 s_Sblocks v5 = some r ∧ f 1 = (.ptr (st.length + 0) 0) ∧ f 15 = (.d (.bool v5)) ∧ st' = st ++ [(.box [(.d (.int .i64 p0.Op)), (.d (.str p0.Name)), (.d (.str p0.Src)), (.d (.int .i64 p0.N)), (.d (.sl (List.map rS p0.Cols))), (.d (.sl (List.map TE.row p0.Exprs))), (.d (.sl (List.map TS.row p0.Body))), (.d (.sl (List.map TS.row p0.Else)))])]) ?_ ?_
 · unfold SG
   refine Ab (e_t h10) ?_
   refine Au eh hr (fun hr => ?_) (fun hr => ?_)
   rotate_left
   · refine Ag eh (Ag (em rfl eh) (Ag (Ac rfl eh) (Ao (e_t (Ac rfl (em rfl eh))) e_c (Aa ?_))))
     exact ⟨false, hr, (Ad rfl (Ac rfl h1)), eh, rfl⟩
   refine Ai eh ?_
   refine AB (e_t (Ac rfl h1)) (by exact rfl) ?_
   refine Ai (em rfl eh) ?_
   refine Ap (e_t eh) ((Am rfl 0).trans rfl) (by exact rfl) ?_
   refine Ai (Ac rfl eh) ?_
   obtain ⟨v4, hc_v4, hr⟩ := bind_some hr
   refine AJ (Ar (e_t eh) AF AM) ?_
   refine H_s_Sblocks p0.Body hc_v4 ?_
   refine An (e_t (Ac rfl (em rfl eh))) (e_t eh) (Aa ?_)
   exact ⟨v4, hr, (Ad rfl (Ac rfl h1)), eh, rfl⟩
 rintro f st' ⟨v5, hr, h1, h15, rfl⟩
 rw [KB] at hr
 refine Bn ?_
 unfold Sy
 refine Ab (e_t h15) ?_
 refine Au eh hr (fun hr => ?_) (fun hr => ?_)
 rotate_left
 · refine Ag eh (Ag (em rfl eh) (Ag (Ac rfl eh) (Ao (e_t (Ac rfl (em rfl eh))) e_c (Aa ?_))))
   unfold NC
   refine Ab (e_t eh) (Aa (Ae (AI ?_)))
   cases hr
   exact A7 (AG eh AH) (AN AF v_d) (Ay hwf) h
 refine Ai eh ?_
 refine AB (e_t (Ac rfl h1)) (by exact rfl) ?_
 refine Ai (em rfl eh) ?_
 refine Ap (e_t eh) ((Am rfl 0).trans rfl) (by exact rfl) ?_
 refine Ai (Ac rfl eh) ?_
 obtain ⟨v6, hc_v6, hr⟩ := bind_some hr
 refine AJ (Ar (e_t eh) AF AM) ?_
 refine H_s_Sblocks p0.Else hc_v6 ?_
 refine An (e_t (Ac rfl (em rfl eh))) (e_t eh) (Aa ?_)
 unfold NC
 refine Ab (e_t eh) (Aa (Ae (AI ?_)))
 cases hr
 exact A7 (AG eh AH) (AN AF v_d) (Ay hwf) h
def Kp (s_Sbuilt : TS → Option Bool) (s_Sblocks_1 : TS → Option Bool) (s_Sblocks : (List TS) → Option Bool) (p0 : TS) : Option Bool :=
 ((s_Sbuilt p0).bind fun v1 => some (!v1))
set_option maxRecDepth 100000 in
set_option maxHeartbeats 4000000 in
theorem An8 (s_Sbuilt : TS → Option Bool) (s_Sblocks_1 : TS → Option Bool) (s_Sblocks : (List TS) → Option Bool) (p0 : TS) (H_s_Sbuilt : ∀ (p0 : TS) {r : Bool}, s_Sbuilt p0 = some r → ∀ {st : List Content} {K : PV → List Content → Prop} (h : K (.d (.bool r)) st), Av PR LG [(.agg [(.d (.int .i64 p0.Op)), (.d (.str p0.Name)), (.d (.str p0.Src)), (.d (.int .i64 p0.N)), (.d (.sl (List.map rS p0.Cols))), (.d (.sl (List.map TE.row p0.Exprs))), (.d (.sl (List.map TS.row p0.Body))), (.d (.sl (List.map TS.row p0.Else)))])] st K) (H_s_Sblocks_1 : ∀ (p0 : TS) {r : Bool}, s_Sblocks_1 p0 = some r → ∀ {st : List Content} {K : PV → List Content → Prop} (h : K (.d (.bool r)) st), Av PR HB [(.agg [(.d (.int .i64 p0.Op)), (.d (.str p0.Name)), (.d (.str p0.Src)), (.d (.int .i64 p0.N)), (.d (.sl (List.map rS p0.Cols))), (.d (.sl (List.map TE.row p0.Exprs))), (.d (.sl (List.map TS.row p0.Body))), (.d (.sl (List.map TS.row p0.Else)))])] st K) (H_s_Sblocks : ∀ (p0 : (List TS)) {r : Bool}, s_Sblocks p0 = some r → ∀ {st : List Content} {K : PV → List Content → Prop} (h : K (.d (.bool r)) st), Av PR Hl [(.d (.sl (List.map TS.row p0)))] st K) {r : Bool} (hr : Kp s_Sbuilt s_Sblocks_1 s_Sblocks p0 = some r) {K : PV → List Content → Prop} (h : K (.d (.bool r)) st) : Av PR HB [(.agg [(.d (.int .i64 p0.Op)), (.d (.str p0.Name)), (.d (.str p0.Src)), (.d (.int .i64 p0.N)), (.d (.sl (List.map rS p0.Cols))), (.d (.sl (List.map TE.row p0.Exprs))), (.d (.sl (List.map TS.row p0.Body))), (.d (.sl (List.map TS.row p0.Else)))])] st K := by
 refine Av.of Ar7 (Nat.le_of_ble_eq_true rfl) fun hwf => ?_
 rw [B5]
 refine AQ ?_
 unfold XP
 rw [Kp] at hr
 refine Al (Af ?_)
 unfold Q4
 refine Gq (k := 0) rfl rfl (e_t eh) Bf (by exact rfl) ?_
 refine Ab e_c (Aa (Ae (Al (Af ?_))))
 unfold QR
 refine Bw (e_t (em rfl eh)) ((Am rfl 0).trans rfl) (Nat.le_of_ble_eq_true rfl) (by exact rfl) ?_
 obtain ⟨v1, hc_v1, hr⟩ := bind_some hr
 refine AJ (Ar (e_t eh) (Bx (Aq f_d (Aq f_d (Aq f_d (Aq f_d (Aq f_d (Aq f_d (Aq f_d (Aq f_d B3))))))))) AM) ?_
 refine H_s_Sbuilt p0 hc_v1 ?_
 refine C2 (e_t eh) (Ab (e_t eh) (Aa (Ae (AI ?_))))
 cases hr
 exact A7 (AG eh AH) (AN AF v_d) (Ay hwf) h
def M9 (s_Sbuilt : TS → Option Bool) (s_Sblocks_1 : TS → Option Bool) (s_Sblocks : (List TS) → Option Bool) (n : Nat) (p0 : (List TS)) : Option Bool :=
 ((BD n p0 (fun (a0 : TS) => s_Sblocks_1 a0)).bind fun v1 => some (!v1))
set_option maxRecDepth 100000 in
set_option maxHeartbeats 4000000 in
theorem AD8 (s_Sbuilt : TS → Option Bool) (s_Sblocks_1 : TS → Option Bool) (s_Sblocks : (List TS) → Option Bool) (n : Nat) (p0 : (List TS)) (H_s_Sbuilt : ∀ (p0 : TS) {r : Bool}, s_Sbuilt p0 = some r → ∀ {st : List Content} {K : PV → List Content → Prop} (h : K (.d (.bool r)) st), Av PR LG [(.agg [(.d (.int .i64 p0.Op)), (.d (.str p0.Name)), (.d (.str p0.Src)), (.d (.int .i64 p0.N)), (.d (.sl (List.map rS p0.Cols))), (.d (.sl (List.map TE.row p0.Exprs))), (.d (.sl (List.map TS.row p0.Body))), (.d (.sl (List.map TS.row p0.Else)))])] st K) (H_s_Sblocks_1 : ∀ (p0 : TS) {r : Bool}, s_Sblocks_1 p0 = some r → ∀ {st : List Content} {K : PV → List Content → Prop} (h : K (.d (.bool r)) st), Av PR HB [(.agg [(.d (.int .i64 p0.Op)), (.d (.str p0.Name)), (.d (.str p0.Src)), (.d (.int .i64 p0.N)), (.d (.sl (List.map rS p0.Cols))), (.d (.sl (List.map TE.row p0.Exprs))), (.d (.sl (List.map TS.row p0.Body))), (.d (.sl (List.map TS.row p0.Else)))])] st K) (H_s_Sblocks : ∀ (p0 : (List TS)) {r : Bool}, s_Sblocks p0 = some r → ∀ {st : List Content} {K : PV → List Content → Prop} (h : K (.d (.bool r)) st), Av PR Hl [(.d (.sl (List.map TS.row p0)))] st K) {r : Bool} (hr : M9 s_Sbuilt s_Sblocks_1 s_Sblocks n p0 = some r) {K : PV → List Content → Prop} (h : K (.d (.bool r)) st) : Av PR Hl [(.d (.sl (List.map TS.row p0)))] st K := by
 refine Av.of AJ1 (Nat.le_of_ble_eq_true rfl) fun hwf => ?_
 rw [B5]
 refine AQ ?_
 unfold Aj5
 rw [M9] at hr
 refine Al (Af ?_)
 unfold Tm
 refine Ab e_c (Aa (Ae (Al (Af ?_))))
 unfold V1
 refine Ab (e_t (em rfl eh)) ?_
 obtain ⟨v1, hc_v1, hr⟩ := bind_some hr
 refine AJ (Ar (e_t eh) AF (Ar e_c K7 AM)) ?_
 refine Hx n p0 (fun (a0 : TS) => s_Sblocks_1 a0) (fun a0 {_} hr {_ _} hk => H_s_Sblocks_1 a0 hr hk) (fun _ => rfl) hc_v1 ?_
 refine C2 (e_t eh) (Ab (e_t eh) (Aa (Ae (AI ?_))))
 cases hr
 exact A7 (AG eh AH) (AN AF v_d) (Ay hwf) h
mutual
def EY : Nat → TS → Option Bool
 | 0, _ => none
 | n + 1, p0 => Pa (EY n) (EM n) (EQ n) n p0
def EM : Nat → TS → Option Bool
 | 0, _ => none
 | n + 1, p0 => Kp (EY n) (EM n) (EQ n) p0
def EQ : Nat → (List TS) → Option Bool
 | 0, _ => none
 | n + 1, p0 => M9 (EY n) (EM n) (EQ n) n p0
end
theorem Hj : ∀ n : Nat, (∀ (p0 : TS) {r : Bool}, EY n p0 = some r → ∀ {st : List Content} {K : PV → List Content → Prop} (h : K (.d (.bool r)) st), Av PR LG [(.agg [(.d (.int .i64 p0.Op)), (.d (.str p0.Name)), (.d (.str p0.Src)), (.d (.int .i64 p0.N)), (.d (.sl (List.map rS p0.Cols))), (.d (.sl (List.map TE.row p0.Exprs))), (.d (.sl (List.map TS.row p0.Body))), (.d (.sl (List.map TS.row p0.Else)))])] st K) ∧ (∀ (p0 : TS) {r : Bool}, EM n p0 = some r → ∀ {st : List Content} {K : PV → List Content → Prop} (h : K (.d (.bool r)) st), Av PR HB [(.agg [(.d (.int .i64 p0.Op)), (.d (.str p0.Name)), (.d (.str p0.Src)), (.d (.int .i64 p0.N)), (.d (.sl (List.map rS p0.Cols))), (.d (.sl (List.map TE.row p0.Exprs))), (.d (.sl (List.map TS.row p0.Body))), (.d (.sl (List.map TS.row p0.Else)))])] st K) ∧ (∀ (p0 : (List TS)) {r : Bool}, EQ n p0 = some r → ∀ {st : List Content} {K : PV → List Content → Prop} (h : K (.d (.bool r)) st), Av PR Hl [(.d (.sl (List.map TS.row p0)))] st K)
 | 0 => ⟨fun _ _ hr => (by rw [EY] at hr; cases hr), fun _ _ hr => (by rw [EM] at hr; cases hr), fun _ _ hr => (by rw [EQ] at hr; cases hr)⟩
 | n + 1 => ⟨fun p0 _ hr _ _ h => AK5 (EY n) (EM n) (EQ n) n p0 (Hj n).1 (Hj n).2.1 (Hj n).2.2 (by rw [EY] at hr; exact hr) h, fun p0 _ hr _ _ h => An8 (EY n) (EM n) (EQ n) p0 (Hj n).1 (Hj n).2.1 (Hj n).2.2 (by rw [EM] at hr; exact hr) h, fun p0 _ hr _ _ h => AD8 (EY n) (EM n) (EQ n) n p0 (Hj n).1 (Hj n).2.1 (Hj n).2.2 (by rw [EQ] at hr; exact hr) h⟩
theorem AI0 (n : Nat) (p0 : (List TS)) {r : Bool} (hr : EQ n p0 = some r) {K : PV → List Content → Prop} (h : K (.d (.bool r)) st) : Av PR Hl [(.d (.sl (List.map TS.row p0)))] st K := (Hj n).2.2 p0 hr h
def KD (p0 : TP) (n : Nat) (v3 : Bool) : Option Bool :=
 (bif v3 then ((EQ n p0.Body).bind fun v4 => some v4) else some false)
def Je (n : Nat) (p0 : TP) : Option Bool :=
 ((Do n p0.Body (0 : Int) (fun (a0 : TS) (a1 : Int) => Cc n a0 a1)).bind fun v1 => ((OC n p0).bind fun v2 => (bif v2 then (KD p0 n (Hn v1)) else (KD p0 n false))))
set_option maxRecDepth 100000 in
set_option maxHeartbeats 4000000 in
theorem Tn (n : Nat) (p0 : TP) {r : Bool} (hr : Je n p0 = some r) {K : PV → List Content → Prop} (h : K (.d (.bool r)) st) : Av PR QZ [(.agg [(.d (.str p0.Name)), (.d (.str p0.From)), (.d (.str p0.At)), (.d (.int .i64 p0.Fuel)), (.d (.sl (List.map T_api_Column.row p0.Params))), (.d (.sl (List.map TS.row p0.Body)))])] st K := by
 refine Av.of AQ0 (Nat.le_of_ble_eq_true rfl) fun hwf => ?_
 rw [B5]
 refine AQ ?_
 unfold Aw2
 rw [Je] at hr
 refine Al (Af ?_)
 unfold Xg
 refine Gq (k := 0) rfl rfl (e_t eh) Bf (by exact rfl) ?_
 refine Ab e_c (Aa (Ae (Al (Af ?_))))
 unfold Xc
 refine AB (e_t (em rfl eh)) (by exact rfl) ?_
 refine Ap (e_t eh) ((Am rfl 0).trans rfl) (by exact rfl) ?_
 obtain ⟨v1, hc_v1, hr⟩ := bind_some hr
 refine AJ (Ar (e_t eh) AF (Ar e_c AF (Ar e_c K7 AM))) ?_
 refine IJ n p0.Body (0 : Int) (fun (a0 : TS) (a1 : Int) => Cc n a0 a1) (fun a0 a1 {_} hr {_ _} hk => XF n a0 a1 hr hk) (fun _ => rfl) hc_v1 ?_
 refine Cn (k := 1) rfl rfl ?_
 refine Bl (e_t eh) ((Am rfl 1).trans rfl) (e_t (em rfl eh)) Bf rfl (Nat.le_of_ble_eq_true rfl) (by exact rfl) (cells' := [(.d (.int .i64 v1.nodes)), (.d (.int .i64 v1.depth))]) (by exact rfl) (Bo rfl _ _) ?_
 refine Aa (Ae (Al (Af ?_)))
 unfold WG
 refine A1 (fun f st' => ∃ (v3 : Bool), KD p0 n v3 = some r ∧ f 1 = (.ptr (st.length + 0) 0) ∧ f 11 = (.d (.bool v3)) ∧ st' = st ++ [(.box [(.d (.str p0.Name)), (.d (.str p0.From)), (.d (.str p0.At)), (.d (.int .i64 p0.Fuel)), (.d (.sl (List.map T_api_Column.row p0.Params))), (.d (.sl (List.map TS.row p0.Body)))]), (.box [(.d (.int .i64 v1.nodes)), (.d (.int .i64 v1.depth))])]) ?_ ?_
 · unfold Se
   refine Bw (e_t (Ad rfl (em rfl eh))) ((Am rfl 0).trans rfl) (Nat.le_of_ble_eq_true rfl) (by exact rfl) ?_
   obtain ⟨v2, hc_v2, hr⟩ := bind_some hr
   refine AJ (Ar (e_t eh) (Bx (Aq f_d (Aq f_d (Aq f_d (Aq f_d (Aq f_d (Aq f_d B3))))))) AM) ?_
   refine AL5 n p0 hc_v2 ?_
   refine Ab (e_t eh) ?_
   refine Au eh hr (fun hr => ?_) (fun hr => ?_)
   rotate_left
   · refine Ag eh (Ao (e_t (em rfl eh)) e_c (Aa ?_))
     exact ⟨false, hr, (Ak rfl (Ac rfl (em rfl eh))), eh, rfl⟩
   refine Ai eh ?_
   refine AJ (Ar (e_t (Ad rfl eh)) O5 AM) ?_
   refine Ag4 v1 rfl ((Am rfl 1).trans rfl) ?_
   refine An (e_t (em rfl eh)) (e_t eh) (Aa ?_)
   exact ⟨(Hn v1), hr, (Ak rfl (Ac rfl (em rfl eh))), eh, rfl⟩
 rintro f st' ⟨v3, hr, h1, h11, rfl⟩
 rw [KD] at hr
 refine Bn ?_
 unfold SA
 refine Ab (e_t h11) ?_
 refine Au eh hr (fun hr => ?_) (fun hr => ?_)
 rotate_left
 · refine Ag eh (Ag (em rfl eh) (Ag (Ac rfl eh) (Ao (e_t (Ac rfl (em rfl eh))) e_c (Aa ?_))))
   unfold NB
   refine Ab (e_t eh) (Aa (Ae (AI ?_)))
   cases hr
   exact A7 (AG eh AH) (AN AF v_d) (Ay hwf) h
 refine Ai eh ?_
 refine AB (e_t (Ac rfl h1)) (by exact rfl) ?_
 refine Ai (em rfl eh) ?_
 refine Ap (e_t eh) ((Am rfl 0).trans rfl) (by exact rfl) ?_
 refine Ai (Ac rfl eh) ?_
 obtain ⟨v4, hc_v4, hr⟩ := bind_some hr
 refine AJ (Ar (e_t eh) AF AM) ?_
 refine AI0 n p0.Body hc_v4 ?_
 refine An (e_t (Ac rfl (em rfl eh))) (e_t eh) (Aa ?_)
 unfold NB
 refine Ab (e_t eh) (Aa (Ae (AI ?_)))
 cases hr
 exact A7 (AG eh AH) (AN AF v_d) (Ay hwf) h
end Go.Ax
