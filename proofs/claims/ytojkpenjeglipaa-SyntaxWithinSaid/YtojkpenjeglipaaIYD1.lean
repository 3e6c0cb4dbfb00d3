import Derived.Test.YtojkpenjeglipaaIYT
import Derived.Test.YtojkpenjeglipaaICVX
import Derived.Test.YtojkpenjeglipaaICPrim
import Derived.Test.YtojkpenjeglipaaIYD0
set_option linter.unusedVariables false
set_option linter.unusedSimpArgs false
namespace Go.Ax
attribute [local irreducible] BL ER FD Bf CF Fz B6 KZ HX upd ev u0 Dt frz A6 EB mmD bnd BV Ft Do CO GU Ht G2 cutV I1 Cv
variable {st : List Content}
def JR (s_SsizeStmt : TS → Int → Option T_Ssize) (n : Nat) (p0 : TS) (p1 : Int) : Option T_Ssize :=
 ((FF n p0.Exprs (IntKind.wrap .i64 (p1 + (1 : Int))) (fun (a0 : TE) (a1 : Int) => CZ n a0 a1)).bind fun v2 => ((Dj n p0.Body (IntKind.wrap .i64 (p1 + (1 : Int))) (fun (a0 : TS) (a1 : Int) => s_SsizeStmt a0 a1)).bind fun v3 => ((Dj n p0.Else (IntKind.wrap .i64 (p1 + (1 : Int))) (fun (a0 : TS) (a1 : Int) => s_SsizeStmt a0 a1)).bind fun v4 => some (IT (A5 (A5 v2 v3) v4)))))
set_option maxRecDepth 100000 in
set_option maxHeartbeats 4000000 in
theorem Ai2 (s_SsizeStmt : TS → Int → Option T_Ssize) (n : Nat) (p0 : TS) (p1 : Int) (H_s_SsizeStmt : ∀ (p0 : TS) (p1 : Int) {r : T_Ssize}, s_SsizeStmt p0 p1 = some r → ∀ {st : List Content} {K : PV → List Content → Prop} (h : K (.agg [(.d (.int .i64 r.nodes)), (.d (.int .i64 r.depth))]) st), Aw PR FL [(.agg [(.d (.int .i64 p0.Op)), (.d (.str p0.Name)), (.d (.str p0.Src)), (.d (.int .i64 p0.N)), (.d (.sl (List.map rS p0.Cols))), (.d (.sl (List.map TE.row p0.Exprs))), (.d (.sl (List.map TS.row p0.Body))), (.d (.sl (List.map TS.row p0.Else)))]), (.d (.int .i64 p1))] st K) {r : T_Ssize} (hr : JR s_SsizeStmt n p0 p1 = some r) {K : PV → List Content → Prop} (h : K (.agg [(.d (.int .i64 r.nodes)), (.d (.int .i64 r.depth))]) st) : Aw PR FL [(.agg [(.d (.int .i64 p0.Op)), (.d (.str p0.Name)), (.d (.str p0.Src)), (.d (.int .i64 p0.N)), (.d (.sl (List.map rS p0.Cols))), (.d (.sl (List.map TE.row p0.Exprs))), (.d (.sl (List.map TS.row p0.Body))), (.d (.sl (List.map TS.row p0.Else)))]), (.d (.int .i64 p1))] st K := by
 refine Aw.of As6 (Nat.le_of_ble_eq_true rfl) fun hwf => ?_
 rw [DX]
 refine AQ ?_
 unfold WT
 rw [JR] at hr
 refine Al (Af ?_)
 unfold Ra
 refine Gw (k := 0) rfl rfl (e_t eh) Bg (by exact rfl) ?_
 refine Ci (k := 1) rfl rfl ?_
 refine Aa (Ae (Al (Af ?_)))
 unfold Q4
 refine AB (e_t (em rfl eh)) (by exact rfl) ?_
 refine Ap (e_t eh) ((Am rfl 0).trans rfl) (by exact rfl) ?_
 refine Ab (e_t (Ad rfl (em rfl eh))) ?_
 refine Ar (e_t eh) e_c (BX ?_)
 obtain ⟨v2, hc_v2, hr⟩ := bind_some hr
 refine AP (Ay (e_t (Ac rfl eh)) AG (Ay (e_t eh) AG (Ay e_c LD AR))) ?_
 refine Pe n p0.Exprs (IntKind.wrap .i64 (p1 + (1 : Int))) (fun (a0 : TE) (a1 : Int) => CZ n a0 a1) (fun a0 a1 {_} hr {_ _} hk => Ar6 n a0 a1 hr hk) (fun _ => rfl) hc_v2 ?_
 refine Ci (k := 2) rfl rfl ?_
 refine Bl (e_t eh) ((Am rfl 2).trans rfl) (e_t (em rfl eh)) Bg rfl (Nat.le_of_ble_eq_true rfl) (by exact rfl) (cells' := [(.d (.int .i64 v2.nodes)), (.d (.int .i64 v2.depth))]) (by exact rfl) (Bk rfl _ _) ?_
 refine Aa (Ae (Al (Af ?_)))
 unfold QQ
 refine AB (e_t (Ad rfl (Ac rfl (em rfl eh)))) (by exact rfl) ?_
 refine Ap (e_t eh) ((Am rfl 0).trans rfl) (by exact rfl) ?_
 refine Ab (e_t (Ak rfl (Ac rfl (em rfl eh)))) ?_
 refine Ar (e_t eh) e_c (BX ?_)
 obtain ⟨v3, hc_v3, hr⟩ := bind_some hr
 refine AP (Ay (e_t (Ac rfl eh)) AG (Ay (e_t eh) AG (Ay e_c LD AR))) ?_
 refine It n p0.Body (IntKind.wrap .i64 (p1 + (1 : Int))) (fun (a0 : TS) (a1 : Int) => s_SsizeStmt a0 a1) (fun a0 a1 {_} hr {_ _} hk => H_s_SsizeStmt a0 a1 hr hk) (fun _ => rfl) hc_v3 ?_
 refine AP (Ay (e_t (Ad rfl (em rfl eh))) ON (Ay (e_t eh) (BP (Aq f_d (Aq f_d Cw))) AR)) ?_
 refine MK v2 v3 rfl ((Am rfl 2).trans rfl) (Bk rfl _ _) ?_
 refine Aa (Ae (Al (Af ?_)))
 unfold PP
 refine AB (e_t (Ak rfl (Ad rfl (em rfl eh)))) (by exact rfl) ?_
 refine Ap (e_t eh) ((Am rfl 0).trans rfl) (by exact rfl) ?_
 refine Ab (e_t (Ai rfl (em rfl eh))) ?_
 refine Ar (e_t eh) e_c (BX ?_)
 obtain ⟨v4, hc_v4, hr⟩ := bind_some hr
 refine AP (Ay (e_t (Ac rfl eh)) AG (Ay (e_t eh) AG (Ay e_c LD AR))) ?_
 refine It n p0.Else (IntKind.wrap .i64 (p1 + (1 : Int))) (fun (a0 : TS) (a1 : Int) => s_SsizeStmt a0 a1) (fun a0 a1 {_} hr {_ _} hk => H_s_SsizeStmt a0 a1 hr hk) (fun _ => rfl) hc_v4 ?_
 refine AP (Ay (e_t (Ak rfl (Ac rfl (em rfl eh)))) ON (Ay (e_t eh) (BP (Aq f_d (Aq f_d Cw))) AR)) ?_
 refine MK (A5 v2 v3) v4 rfl ((Am rfl 2).trans rfl) (Bk rfl _ _) ?_
 refine Aa (Ae (Al (Af ?_)))
 unfold Qr
 refine BF (e_t (Ak rfl (Ad rfl eh))) ((Am rfl 2).trans rfl) (Nat.le_of_ble_eq_true rfl) (by exact rfl) ?_
 refine AP (Ay (e_t eh) (BP (Aq f_d (Aq f_d Cw))) AR) ?_
 refine Az7 (A5 (A5 v2 v3) v4) rfl ?_
 refine Bl (e_t (Ai rfl (Ad rfl eh))) ((Am rfl 1).trans rfl) (e_t eh) Bg rfl (Nat.le_of_ble_eq_true rfl) (by exact rfl) (cells' := [(.d (.int .i64 ((IT (A5 (A5 v2 v3) v4)).nodes))), (.d (.int .i64 ((IT (A5 (A5 v2 v3) v4)).depth)))]) (by exact rfl) (Bk rfl _ _) ?_
 refine Aa (Ae (AI ?_))
 cases hr
 exact A7 (GK (Ai rfl (Ad rfl eh)) ((Am rfl 1).trans rfl) (Nat.le_of_ble_eq_true rfl) (by exact rfl) AH) (AM (BP (Aq f_d (Aq f_d Cw))) (Wr rfl)) (Av hwf) h
def B5 : Nat → TS → Int → Option T_Ssize
 | 0, _, _ => none
 | n + 1, p0, p1 => JR (B5 n) n p0 p1
theorem Us : ∀ n : Nat, (∀ (p0 : TS) (p1 : Int) {r : T_Ssize}, B5 n p0 p1 = some r → ∀ {st : List Content} {K : PV → List Content → Prop} (h : K (.agg [(.d (.int .i64 r.nodes)), (.d (.int .i64 r.depth))]) st), Aw PR FL [(.agg [(.d (.int .i64 p0.Op)), (.d (.str p0.Name)), (.d (.str p0.Src)), (.d (.int .i64 p0.N)), (.d (.sl (List.map rS p0.Cols))), (.d (.sl (List.map TE.row p0.Exprs))), (.d (.sl (List.map TS.row p0.Body))), (.d (.sl (List.map TS.row p0.Else)))]), (.d (.int .i64 p1))] st K)
 | 0 => fun _ _ _ hr => (by rw [B5] at hr; cases hr)
 | n + 1 => fun p0 p1 _ hr _ _ h => Ai2 (B5 n) n p0 p1 (Us n) (by rw [B5] at hr; exact hr) h
theorem VZ (n : Nat) (p0 : TS) (p1 : Int) {r : T_Ssize} (hr : B5 n p0 p1 = some r) {K : PV → List Content → Prop} (h : K (.agg [(.d (.int .i64 r.nodes)), (.d (.int .i64 r.depth))]) st) : Aw PR FL [(.agg [(.d (.int .i64 p0.Op)), (.d (.str p0.Name)), (.d (.str p0.Src)), (.d (.int .i64 p0.N)), (.d (.sl (List.map rS p0.Cols))), (.d (.sl (List.map TE.row p0.Exprs))), (.d (.sl (List.map TS.row p0.Body))), (.d (.sl (List.map TS.row p0.Else)))]), (.d (.int .i64 p1))] st K := (Us n) p0 p1 hr h
def HL (p0 : T_Ssize) : (Int × Int) :=
 (bif (B4 p0) then ((1000 : Int), (1000 : Int)) else (p0.nodes, p0.depth))
set_option maxRecDepth 100000 in
set_option maxHeartbeats 4000000 in
theorem Ag3 (p0 : T_Ssize) {r : (Int × Int)} (hr : HL p0 = r) {x0 : Nat} (hx_x0 : st[x0]? = some (.box [(.d (.int .i64 p0.nodes)), (.d (.int .i64 p0.depth))])) {K : PV → List Content → Prop} (h : K (.tup [(.d (.int .i64 r.1)), (.d (.int .i64 r.2))]) st) : Aw PR OF [(.ptr x0 0)] st K := by
 refine Aw.of Aj1 (Nat.le_of_ble_eq_true rfl) fun hwf => ?_
 rw [Cm]
 refine AQ ?_
 unfold UE
 rw [HL] at hr
 refine Al (Af ?_)
 unfold Pt
 refine Ab e_c (Ab e_c (Aa (Ae (Al (Al ?_)))))
 refine Af ?_
 unfold PD
 refine Ab (e_t (Ac rfl eh)) ?_
 refine AP (Ay (e_t eh) ON AR) ?_
 refine OR p0 rfl (GE hx_x0) ?_
 refine Aa (Ae ?_)
 refine AC (e_t eh) hr (fun hr => ?_) (fun hr => ?_)
 · refine Al (Af ?_)
   unfold Pr
   refine Ab e_c (Ab e_c (Aa (Ae (AI (AA ?_)))))
   subst hr
   exact A7 (AF (em rfl eh) (AF eh AH)) (HE (Br FS (Br FS Hz)) rfl) (Av hwf) h
 refine AN (Ae (Al ?_))
 refine DI (k := 0) rfl rfl ?_
 unfold Pk
 refine Ab (e_t (Ad rfl eh)) ?_
 refine Ni (e_t eh) ?_
 refine AB (e_t eh) (by exact rfl) ?_
 refine Ap (e_t eh) (GE hx_x0) (by exact rfl) ?_
 refine Ab (e_t (Ad rfl (Ad rfl eh))) ?_
 refine Ni (e_t eh) ?_
 refine AB (e_t eh) (by exact rfl) ?_
 refine Ap (e_t eh) (GE hx_x0) (by exact rfl) ?_
 refine Ab (e_t (Ad rfl eh)) (Ab (e_t (em rfl eh)) (Aa (Ae (AI ?_))))
 subst hr
 exact A7 (AF (em rfl eh) (AF eh AH)) (HE (Br FS (Br FS Hz)) rfl) (Av hwf) h
def MU (n : Nat) (p0 : TP) : Option (Int × Int) :=
 ((Dj n p0.Body (0 : Int) (fun (a0 : TS) (a1 : Int) => B5 n a0 a1)).bind fun v1 => some ((HL v1).1, (HL v1).2))
set_option maxRecDepth 100000 in
set_option maxHeartbeats 4000000 in
theorem Aj7 (n : Nat) (p0 : TP) {r : (Int × Int)} (hr : MU n p0 = some r) {K : PV → List Content → Prop} (h : K (.tup [(.d (.int .i64 r.1)), (.d (.int .i64 r.2))]) st) : Aw PR SN [(.agg [(.d (.str p0.Name)), (.d (.str p0.From)), (.d (.str p0.At)), (.d (.int .i64 p0.Fuel)), (.d (.sl (List.map T_api_Column.row p0.Params))), (.d (.sl (List.map TS.row p0.Body)))])] st K := by
 refine Aw.of AN8 (Nat.le_of_ble_eq_true rfl) fun hwf => ?_
 rw [Cm]
 refine AQ ?_
 unfold Ax8
 rw [MU] at hr
 refine Al (Af ?_)
 unfold Zr
 refine Gw (k := 0) rfl rfl (e_t eh) Bg (by exact rfl) ?_
 refine Ab e_c (Ab e_c (Aa (Ae (Al (Af ?_)))))
 unfold Ze
 refine AB (e_t (Ac rfl eh)) (by exact rfl) ?_
 refine Ap (e_t eh) ((Am rfl 0).trans rfl) (by exact rfl) ?_
 obtain ⟨v1, hc_v1, hr⟩ := bind_some hr
 refine AP (Ay (e_t eh) AG (Ay e_c AG (Ay e_c LD AR))) ?_
 refine It n p0.Body (0 : Int) (fun (a0 : TS) (a1 : Int) => B5 n a0 a1) (fun a0 a1 {_} hr {_ _} hk => VZ n a0 a1 hr hk) (fun _ => rfl) hc_v1 ?_
 refine Ci (k := 1) rfl rfl ?_
 refine Bl (e_t eh) ((Am rfl 1).trans rfl) (e_t (em rfl eh)) Bg rfl (Nat.le_of_ble_eq_true rfl) (by exact rfl) (cells' := [(.d (.int .i64 v1.nodes)), (.d (.int .i64 v1.depth))]) (by exact rfl) (Bk rfl _ _) ?_
 refine Aa (Ae (Al (Af ?_)))
 unfold Yb
 refine AP (Ay (e_t eh) ON AR) ?_
 refine Ag3 v1 rfl ((Am rfl 1).trans rfl) ?_
 refine GZ (e_t eh) (by exact rfl) ?_
 refine GZ (e_t (em rfl eh)) (by exact rfl) ?_
 refine Ab (e_t (em rfl eh)) (Ab (e_t (em rfl eh)) (Aa (Ae (AI ?_))))
 cases hr
 exact A7 (AF (em rfl eh) (AF eh AH)) (HE (Br FS (Br FS Hz)) rfl) (Av hwf) h
def C7 (p0 : Int) (p1 : Int) (p2 : Int) : Bool :=
 (bif (decide (p1 ≤ p0)) then (decide (p0 ≤ p2)) else false)
set_option maxRecDepth 100000 in
set_option maxHeartbeats 4000000 in
theorem Ns (p0 : Int) (p1 : Int) (p2 : Int) {r : Bool} (hr : C7 p0 p1 p2 = r) {K : PV → List Content → Prop} (h : K (.d (.bool r)) st) : Aw PR JN [(.d (.int .i64 p0)), (.d (.int .i64 p1)), (.d (.int .i64 p2))] st K := by
 refine Aw.of AD8 (Nat.le_of_ble_eq_true rfl) fun hwf => ?_
 rw [Ai6]
 refine AQ ?_
 unfold Ae6
 rw [C7] at hr
 refine Al (Af ?_)
 unfold SR
 refine Ab e_c (Aa (Ae (Al (Af ?_))))
 unfold Tv
 refine Bo ?_
 unfold Rj
 refine Ab (e_t (em rfl eh)) (Ab (e_t (Ac rfl (em rfl eh))) ?_)
 refine Ar (e_t (em rfl eh)) (e_t eh) (ET ?_)
 refine Ab (e_t eh) ?_
 refine Au eh hr (fun hr => ?_) (fun hr => ?_)
 rotate_left
 · refine Ah eh (Ah (em rfl eh) (Ah (Ac rfl eh) (Ao (e_t (Ac rfl (em rfl eh))) e_c (Aa ?_))))
   unfold LT
   refine Ab (e_t eh) (Aa (Ae (AI ?_)))
   subst hr
   exact A7 (AF eh AH) (AM AG v_d) (Av hwf) h
 refine Aj eh (Ab (e_t (Ad rfl (Ac rfl eh))) (Aj (em rfl eh) (Ab (e_t (Ak rfl (em rfl eh))) (Aj (Ac rfl eh) ?_))))
 refine Ar (e_t (em rfl eh)) (e_t eh) (JE ?_)
 refine An (e_t (Ac rfl (em rfl eh))) (e_t eh) (Aa ?_)
 unfold LT
 refine Ab (e_t eh) (Aa (Ae (AI ?_)))
 subst hr
 exact A7 (AF eh AH) (AM AG v_d) (Av hwf) h
def Ct (p0 : Int) : Bool :=
 (bif (decide ((97 : Int) ≤ p0)) then (decide (p0 ≤ (122 : Int))) else false)
set_option maxRecDepth 100000 in
set_option maxHeartbeats 4000000 in
theorem PJ (p0 : Int) {r : Bool} (hr : Ct p0 = r) {K : PV → List Content → Prop} (h : K (.d (.bool r)) st) : Aw PR Is [(.d (.int .u8 p0))] st K := by
 refine Aw.of Xg (Nat.le_of_ble_eq_true rfl) fun hwf => ?_
 rw [Cm]
 refine AQ ?_
 unfold Pl
 rw [Ct] at hr
 refine Al (Af ?_)
 unfold Ll
 refine Ab e_c (Aa (Ae (Al (Af ?_))))
 unfold L0
 refine Bo ?_
 unfold Kl
 refine Ab (e_t (em rfl eh)) ?_
 refine Ar (e_t eh) e_c (ET ?_)
 refine Ab (e_t eh) ?_
 refine Au eh hr (fun hr => ?_) (fun hr => ?_)
 rotate_left
 · refine Ah eh (Ah (em rfl eh) (Ao (e_t (Ac rfl eh)) e_c (Aa ?_)))
   unfold Hy
   refine Ab (e_t eh) (Aa (Ae (AI ?_)))
   subst hr
   exact A7 (AF eh AH) (AM AG v_d) (Av hwf) h
 refine Aj eh (Ab (e_t (Ad rfl (em rfl eh))) (Aj (em rfl eh) ?_))
 refine Ar (e_t eh) e_c (JE ?_)
 refine An (e_t (Ac rfl eh)) (e_t eh) (Aa ?_)
 unfold Hy
 refine Ab (e_t eh) (Aa (Ae (AI ?_)))
 subst hr
 exact A7 (AF eh AH) (AM AG v_d) (Av hwf) h
def Cx (p0 : Int) : Bool :=
 (bif (Ct p0) then true else (bif (decide ((48 : Int) ≤ p0)) then (bif (decide (p0 ≤ (57 : Int))) then true else (decide (p0 = (95 : Int)))) else (decide (p0 = (95 : Int)))))
set_option maxRecDepth 100000 in
set_option maxHeartbeats 4000000 in
theorem ZJ (p0 : Int) {r : Bool} (hr : Cx p0 = r) {K : PV → List Content → Prop} (h : K (.d (.bool r)) st) : Aw PR Nf [(.d (.int .u8 p0))] st K := by
 refine Aw.of Aa3 (Nat.le_of_ble_eq_true rfl) fun hwf => ?_
 rw [Cm]
 refine AQ ?_
 unfold RY
 rw [Cx] at hr
 refine Al (Af ?_)
 unfold OA
 refine Ab e_c (Aa (Ae (Al (Af ?_))))
 unfold Nu
 refine Bo ?_
 unfold LX
 refine Ab (e_t (em rfl eh)) ?_
 refine AP (Ay (e_t eh) AG AR) ?_
 refine PJ p0 rfl ?_
 refine Ab (e_t eh) ?_
 refine Au eh hr (fun hr => ?_) (fun hr => ?_)
 · refine Ah eh (Ah (em rfl eh) (Ah (Ac rfl eh) ?_))
   refine A8 eh ?_
   refine A8 (em rfl eh) ?_
   refine Ah (Ad rfl (em rfl eh)) (An (e_t (Ad rfl (Ac rfl eh))) e_c (Aa ?_))
   refine Bo ?_
   unfold GS
   refine Ab (e_t eh) (Ah eh (Ah (em rfl eh) (An (e_t (Ac rfl eh)) e_c (Aa ?_))))
   unfold Fs
   refine Ab (e_t eh) (Aa (Ae (AI ?_)))
   subst hr
   exact A7 (AF eh AH) (AM AG v_d) (Av hwf) h
 refine Aj eh (Ab (e_t (Ad rfl (em rfl eh))) (Aj (em rfl eh) ?_))
 refine Ar (e_t eh) e_c (ET ?_)
 refine Aj (Ac rfl eh) (Ab (e_t eh) ?_)
 refine Au eh hr (fun hr => ?_) (fun hr => ?_)
 rotate_left
 · refine Ah eh (Ah (em rfl eh) (Aj (Ad rfl (Ac rfl eh)) (Ao (e_t (Ac rfl eh)) e_c (Ao (e_t (Ad rfl (Ac rfl (em rfl eh)))) (e_t eh) (Aa ?_)))))
   refine Bo ?_
   unfold GS
   refine Ab (e_t eh) (Aj eh (Ab (e_t (Ak rfl (Ad rfl (Ac rfl eh)))) (Aj (em rfl eh) ?_)))
   refine Ar (e_t eh) e_c (BZ ?_)
   refine Ao (e_t (Ac rfl eh)) (e_t eh) (Aa ?_)
   unfold Fs
   refine Ab (e_t eh) (Aa (Ae (AI ?_)))
   subst hr
   exact A7 (AF eh AH) (AM AG v_d) (Av hwf) h
 refine Aj eh (Ab (e_t (Ak rfl (em rfl eh))) (Aj (em rfl eh) ?_))
 refine Ar (e_t eh) e_c (JE ?_)
 refine Aj (Ad rfl (Ac rfl eh)) (An (e_t (Ac rfl eh)) (e_t eh) (Ao (e_t (Ad rfl (Ac rfl (em rfl eh)))) (e_t eh) (Aa ?_)))
 refine Bo ?_
 unfold GS
 refine Ab (e_t eh) ?_
 refine Au eh hr (fun hr => ?_) (fun hr => ?_)
 · refine Ah eh (Ah (em rfl eh) (An (e_t (Ac rfl eh)) e_c (Aa ?_)))
   unfold Fs
   refine Ab (e_t eh) (Aa (Ae (AI ?_)))
   subst hr
   exact A7 (AF eh AH) (AM AG v_d) (Av hwf) h
 refine Aj eh (Ab (e_t (Ak rfl (Ad rfl (Ac rfl (em rfl eh))))) (Aj (em rfl eh) ?_))
 refine Ar (e_t eh) e_c (BZ ?_)
 refine Ao (e_t (Ac rfl eh)) (e_t eh) (Aa ?_)
 unfold Fs
 refine Ab (e_t eh) (Aa (Ae (AI ?_)))
 subst hr
 exact A7 (AF eh AH) (AM AG v_d) (Av hwf) h
def GL (p0 : ByteArray) (q0 : Int → Option Bool) (v4 : Int) : Option Bool :=
 (bif (decide (v4 < ((DW p0).length : Int))) then ((Dh (DW p0) v4).bind fun v5 => (bif (!(Cx v5)) then some false else q0 (IntKind.wrap .i64 (v4 + (1 : Int))))) else some true)
def Cc (p0 : ByteArray) : Nat → Int → Option Bool
 | 0, _ => none
 | m + 1, v4 => GL p0 (Cc p0 m) v4
def FH (p0 : ByteArray) (n : Nat) (v3 : Bool) : Option Bool :=
 (bif v3 then some false else (Cc p0 n (0 : Int)))
def FW (p0 : ByteArray) (n : Nat) (v1 : Bool) : Option Bool :=
 (bif v1 then (FH p0 n true) else ((Al5 p0 (0 : Int)).bind fun v2 => (FH p0 n (!(Ct v2)))))
def Gj (n : Nat) (p0 : ByteArray) : Option Bool :=
 (bif (decide (p0 = (⟨#[]⟩ : ByteArray))) then (FW p0 n true) else (FW p0 n (decide ((16 : Int) < (p0.size : Int)))))
set_option maxRecDepth 100000 in
set_option maxHeartbeats 4000000 in
theorem YB (n : Nat) (p0 : ByteArray) {r : Bool} (hr : Gj n p0 = some r) {K : PV → List Content → Prop} (h : K (.d (.bool r)) st) : Aw PR LM [(.d (.str p0))] st K := by
 refine Aw.of XW (Nat.le_of_ble_eq_true rfl) fun hwf => ?_
 rw [Cm]
 refine AQ ?_
 unfold PZ
 rw [Gj] at hr
 refine Al (Af ?_)
 unfold MB
 refine Ab e_c (Aa (Ae (Al ?_)))
 refine BD (fun f st' => ∃ (v3 : Bool), FH p0 n v3 = some r ∧ f 0 = (.d (.str p0)) ∧ f 17 = (.d (.bool v3)) ∧ st' = st ++ []) ?_ ?_
 · refine Af ?_
   unfold Mv
   refine Bb (fun f st' => ∃ (v1 : Bool), FW p0 n v1 = some r ∧ f 0 = (.d (.str p0)) ∧ f 11 = (.d (.bool v1)) ∧ st' = st ++ []) ?_ ?_
   · unfold KQ
     refine Ab (e_t (em rfl eh)) ?_
     refine Ar (e_t eh) e_c (Db ?_)
     refine Ab (e_t eh) ?_
     refine Au eh hr (fun hr => ?_) (fun hr => ?_)
     · refine Ah eh (Ah (em rfl eh) (Ah (Ac rfl eh) (An (e_t (Ac rfl (em rfl eh))) e_c (Aa ?_))))
       exact ⟨true, hr, (Ak rfl (em rfl eh)), eh, rfl⟩
     refine Aj eh (Ab (e_t (Ad rfl (em rfl eh))) (Aj (em rfl eh) ?_))
     refine H4 (e_t eh) ?_
     refine Aj (Ac rfl eh) ?_
     refine Ar (e_t eh) e_c (C8 ?_)
     refine Ao (e_t (Ac rfl (em rfl eh))) (e_t eh) (Aa ?_)
     exact ⟨(decide ((16 : Int) < (p0.size : Int))), hr, (Ak rfl (em rfl eh)), eh, rfl⟩
   rintro f st' ⟨v1, hr, h0, h11, rfl⟩
   rw [FW] at hr
   unfold KR
   refine Ab (e_t h11) ?_
   refine Au eh hr (fun hr => ?_) (fun hr => ?_)
   · refine Ah eh (Ah (em rfl eh) (Ah (Ac rfl eh) (Ah (Ac rfl (em rfl eh)) (An (e_t (Ad rfl eh)) e_c (Aa ?_)))))
     refine Ae ?_
     exact ⟨true, hr, (Ad rfl (Ac rfl (em rfl h0))), eh, rfl⟩
   refine Aj eh (Ab (e_t (Ac rfl h0)) (Aj (em rfl eh) ?_))
   refine Ah1 (e_t eh) e_c hr (fun v2 hr => ?_)
   refine Aj (Ac rfl eh) ?_
   refine AP (Ay (e_t eh) AG AR) ?_
   refine PJ v2 rfl ?_
   refine Aj (Ac rfl (em rfl eh)) (CS (e_t eh) (Ao (e_t (Ad rfl eh)) (e_t eh) (Aa (Ae ?_))))
   exact ⟨(!(Ct v2)), hr, (Ad rfl (Ac rfl (em rfl h0))), eh, rfl⟩
 rintro f st' ⟨v3, hr, h0, h17, rfl⟩
 rw [FH] at hr
 refine AC (e_t h17) hr (fun hr => ?_) (fun hr => ?_)
 · refine Al (Af ?_)
   unfold MZ
   refine Ab e_c (Aa (Ae (AI (AA ?_))))
   cases hr
   exact A7 (AF eh AH) (AM AG v_d) (Av hwf) h
 refine AN (Ae (Al (Al (Af ?_))))
 unfold Mq
 refine Ab (e_t h0) ?_
 refine At9 (e_t eh) ?_
 refine Bh (row := (rI .u8)) (AL (e_t eh) Bq) ?_
 refine Ab e_c (Aa (Ae ?_))
 refine AX ?_
 refine Ca (fun m f st' => ∃ (v4 : Int), Cc p0 m v4 = some r ∧ f 19 = (.d (.sl (List.map (rI .u8) (DW p0)))) ∧ f 20 = (.d (.int .i64 ((DW p0).length : Int))) ∧ f 21 = (.d (.int .i64 v4)) ∧ st' = st ++ []) n (Ghost.refl _) ⟨(0 : Int), hr, (Ac rfl eh), (em rfl eh), eh, rfl⟩ ?_
 rintro m f st' ⟨v4, hr, h19, h20, h21, rfl⟩
 cases m with
 | zero => cases hr
 | succ m_0 =>
   rw [Cc] at hr
   generalize hrec_0 : Cc p0 m_0 = q0 at hr
   rw [GL] at hr
   unfold MO
   refine Al (Af ?_)
   unfold Mw
   refine Ar (e_t h21) (e_t h20) (CL ?_)
   refine Aa (Ae (Al ?_))
   refine AC (e_t eh) hr (fun hr => ?_) (fun hr => ?_)
   rotate_left
   · refine CP ?_
     refine A0 ?_
     refine A0 ?_
     refine Ea ?_
     refine Ae (Al (Af ?_))
     unfold Mh
     refine Ab e_c (Aa (Ae (AI ?_)))
     cases hr
     exact A7 (AF eh AH) (AM AG v_d) (Av hwf) h
   refine AN (Ae (Al ?_))
   refine AX ?_
   refine Al (Af ?_)
   unfold M7
   refine Bt (row := (rI .u8)) (AL (e_t (em rfl h19)) Bq) (e_t (em rfl h21)) hr (fun _ => rfl) (fun _ => rfl) (fun v5 hr => ?_)
   refine BG (e_t eh) (by exact rfl) ?_
   refine Ab (e_t eh) (Aa (Ae (Al (Af ?_))))
   unfold MH
   refine Ab (e_t eh) ?_
   refine AP (Ay (e_t eh) AG AR) ?_
   refine ZJ v5 rfl ?_
   refine CS (e_t eh) (Aa (Ae ?_))
   refine AC (e_t eh) hr (fun hr => ?_) (fun hr => ?_)
   rotate_left
   · refine AN ?_
     refine BA ?_
     refine Ae (Af ?_)
     unfold M6
     refine Ar (e_t (Ad rfl (Ac rfl (em rfl h21)))) e_c (BX ?_)
     refine Ab (e_t eh) (Aa (Ae ?_))
     exact ⟨m_0, _, Nat.lt_succ_self m_0, Ghost.refl _, (IntKind.wrap .i64 (v4 + (1 : Int))), (by rw [hrec_0]; exact hr), (Ak rfl (em rfl h19)), (Ak rfl (em rfl h20)), eh, rfl⟩
   refine Al (Af ?_)
   unfold Mn
   refine Ab e_c (Aa (Ae (AI ?_)))
   refine BE ?_
   refine AA (AA ?_)
   refine BE ?_
   refine AA ?_
   cases hr
   exact A7 (AF eh AH) (AM AG v_d) (Av hwf) h
def GW (p0 : (List ByteArray)) (n : Nat) (q0 : Int → Option Bool) (v1 : Int) : Option Bool :=
 (bif (decide (v1 < (p0.length : Int))) then ((Dh p0 v1).bind fun v2 => ((Gj n v2).bind fun v3 => (bif (!v3) then some false else q0 (IntKind.wrap .i64 (v1 + (1 : Int)))))) else some true)
def Cy (p0 : (List ByteArray)) (n : Nat) : Nat → Int → Option Bool
 | 0, _ => none
 | m + 1, v1 => GW p0 n (Cy p0 n m) v1
def Gn (n : Nat) (p0 : (List ByteArray)) : Option Bool :=
 (Cy p0 n n (0 : Int))
set_option maxRecDepth 100000 in
set_option maxHeartbeats 4000000 in
theorem Zt (n : Nat) (p0 : (List ByteArray)) {r : Bool} (hr : Gn n p0 = some r) {K : PV → List Content → Prop} (h : K (.d (.bool r)) st) : Aw PR LE [(.d (.sl (List.map rS p0)))] st K := by
 refine Aw.of Y0 (Nat.le_of_ble_eq_true rfl) fun hwf => ?_
 rw [Cm]
 refine AQ ?_
 unfold Q9
 rw [Gn] at hr
 refine Al (Af ?_)
 unfold ME
 refine Ab e_c (Aa (Ae (Al (Al (Af ?_)))))
 unfold MR
 refine Ab (e_t (em rfl eh)) ?_
 refine Bh (row := rS) (AL (e_t eh) Bq) ?_
 refine Ab e_c (Aa (Ae ?_))
 refine AX ?_
 refine Ca (fun m f st' => ∃ (v1 : Int), Cy p0 n m v1 = some r ∧ f 5 = (.d (.sl (List.map rS p0))) ∧ f 6 = (.d (.int .i64 (p0.length : Int))) ∧ f 7 = (.d (.int .i64 v1)) ∧ st' = st ++ []) n (Ghost.refl _) ⟨(0 : Int), hr, (Ac rfl eh), (em rfl eh), eh, rfl⟩ ?_
 rintro m f st' ⟨v1, hr, h5, h6, h7, rfl⟩
 cases m with
 | zero => cases hr
 | succ m_0 =>
   rw [Cy] at hr
   generalize hrec_0 : Cy p0 n m_0 = q0 at hr
   rw [GW] at hr
   unfold ML
   refine Al (Af ?_)
   unfold MM
   refine Ar (e_t h7) (e_t h6) (CL ?_)
   refine Aa (Ae (Al ?_))
   refine AC (e_t eh) hr (fun hr => ?_) (fun hr => ?_)
   rotate_left
   · refine CP ?_
     refine A0 ?_
     refine A0 ?_
     refine Ea ?_
     refine Ae (Al (Af ?_))
     unfold MP
     refine Ab e_c (Aa (Ae (AI ?_)))
     cases hr
     exact A7 (AF eh AH) (AM AG v_d) (Av hwf) h
   refine AN (Ae (Al ?_))
   refine AX ?_
   refine Al (Af ?_)
   unfold MF
   refine Bt (row := rS) (AL (e_t (em rfl h5)) Bq) (e_t (em rfl h7)) hr (fun _ => rfl) (fun _ => rfl) (fun v2 hr => ?_)
   refine BG (e_t eh) (by exact rfl) ?_
   refine Ab (e_t eh) (Aa (Ae (Al (Af ?_))))
   unfold MN
   refine Ab (e_t eh) ?_
   obtain ⟨v3, hc_v3, hr⟩ := bind_some hr
   refine AP (Ay (e_t eh) AG AR) ?_
   refine YB n v2 hc_v3 ?_
   refine CS (e_t eh) (Aa (Ae ?_))
   refine AC (e_t eh) hr (fun hr => ?_) (fun hr => ?_)
   rotate_left
   · refine AN ?_
     refine BA ?_
     refine Ae (Af ?_)
     unfold MJ
     refine Ar (e_t (Ad rfl (Ac rfl (em rfl h7)))) e_c (BX ?_)
     refine Ab (e_t eh) (Aa (Ae ?_))
     exact ⟨m_0, _, Nat.lt_succ_self m_0, Ghost.refl _, (IntKind.wrap .i64 (v1 + (1 : Int))), (by rw [hrec_0]; exact hr), (Ak rfl (em rfl h5)), (Ak rfl (em rfl h6)), eh, rfl⟩
   refine Al (Af ?_)
   unfold MI
   refine Ab e_c (Aa (Ae (AI ?_)))
   refine BE ?_
   refine AA (AA ?_)
   refine BE ?_
   refine AA ?_
   cases hr
   exact A7 (AF eh AH) (AM AG v_d) (Av hwf) h
def Cs (p0 : (List ByteArray)) (fn1 : ByteArray → Option Bool) (q0 : Int → Option Int) (v1 : Int) : Option Int :=
 (bif (decide (v1 < (p0.length : Int))) then ((Dh p0 v1).bind fun v2 => ((fn1 v2).bind fun v3 => (bif v3 then some v1 else q0 (IntKind.wrap .i64 (v1 + (1 : Int)))))) else some (-1))
def A3 (p0 : (List ByteArray)) (fn1 : ByteArray → Option Bool) : Nat → Int → Option Int
 | 0, _ => none
 | m + 1, v1 => Cs p0 fn1 (A3 p0 fn1 m) v1
def B9 (n : Nat) (p0 : (List ByteArray)) (fn1 : ByteArray → Option Bool) : Option Int :=
 (A3 p0 fn1 n (0 : Int))
set_option maxRecDepth 100000 in
set_option maxHeartbeats 4000000 in
theorem Ji (n : Nat) (p0 : (List ByteArray)) (fn1 : ByteArray → Option Bool) {g_fn1 : FuncId} {p_fn1 q_fn1 : List PV} (H_fn1 : ∀ (a0 : ByteArray) {r : Bool}, fn1 a0 = some r → ∀ {st : List Content} {K : PV → List Content → Prop}, K (.d (.bool r)) st → Aw PR g_fn1 (p_fn1 ++ [(.d (.str a0))] ++ q_fn1) st K) (B_fn1 : ∀ n, (AJ.belowL n p_fn1 && AJ.belowL n q_fn1) = true) {r : Int} (hr : B9 n p0 fn1 = some r) {K : PV → List Content → Prop} (h : K (.d (.int .i64 r)) st) : Aw PR Dv [(.d (.sl (List.map rS p0))), (.fn g_fn1 p_fn1 q_fn1)] st K := by
 refine Aw.of I4 (Nat.le_of_ble_eq_true rfl) fun hwf => ?_
 rw [DX]
 refine AQ ?_
 unfold FR
 rw [B9] at hr
 refine Al (Af ?_)
 unfold E5
 refine Ab e_c (Aa (Ae (Al (Al (Af ?_)))))
 unfold Fg
 refine Ab (e_t (em rfl eh)) ?_
 refine Bh (row := rS) (AL (e_t eh) Bq) ?_
 refine Ab e_c (Aa (Ae ?_))
 refine AX ?_
 refine Ca (fun m f st' => ∃ (v1 : Int), A3 p0 fn1 m v1 = some r ∧ f 0 = (.d (.sl (List.map rS p0))) ∧ f 1 = (.fn g_fn1 p_fn1 q_fn1) ∧ f 7 = (.d (.int .i64 (p0.length : Int))) ∧ f 8 = (.d (.int .i64 v1)) ∧ st' = st ++ []) n (Ghost.refl _) ⟨(0 : Int), hr, (Ad rfl eh), (Ad rfl (em rfl eh)), (em rfl eh), eh, rfl⟩ ?_
 rintro m f st' ⟨v1, hr, h0, h1, h7, h8, rfl⟩
 cases m with
 | zero => cases hr
 | succ m_0 =>
   rw [A3] at hr
   generalize hrec_0 : A3 p0 fn1 m_0 = q0 at hr
   rw [Cs] at hr
   unfold E7
   refine Al (Af ?_)
   unfold E8
   refine Ar (e_t h8) (e_t h7) (CL ?_)
   refine Aa (Ae (Al ?_))
   refine AC (e_t eh) hr (fun hr => ?_) (fun hr => ?_)
   rotate_left
   · refine CP ?_
     refine A0 ?_
     refine A0 ?_
     refine Ea ?_
     refine Ae (Al (Af ?_))
     unfold E3
     refine Ab e_c (Aa (Ae (AI ?_)))
     cases hr
     exact A7 (AF eh AH) (AM AG v_d) (Av hwf) h
   refine AN (Ae (Al ?_))
   refine AX ?_
   refine Al (Af ?_)
   unfold Fk
   refine Ab (e_t (em rfl h8)) (Ab (e_t eh) (Aa (Ae (Al (Af ?_)))))
   unfold E0
   refine Ab (e_t (Ac rfl (em rfl h1))) (Ab (e_t (Ad rfl h0)) (Ab (e_t (Ac rfl eh)) ?_))
   refine Bt (row := rS) (AL (e_t (em rfl eh)) Bq) (e_t eh) hr (fun _ => rfl) (fun _ => rfl) (fun v2 hr => ?_)
   refine BG (e_t eh) (by exact rfl) ?_
   obtain ⟨v3, hc_v3, hr⟩ := bind_some hr
   refine Ao8 (e_t (Ad rfl eh)) (Ay (e_t eh) AG AR) rfl ?_
   refine H_fn1 v2 hc_v3 ?_
   refine Aa (Ae ?_)
   refine AC (e_t eh) hr (fun hr => ?_) (fun hr => ?_)
   rotate_left
   · refine AN ?_
     refine BA ?_
     refine Ae (Af ?_)
     unfold Fa
     refine Ar (e_t (Ak rfl (em rfl h8))) e_c (BX ?_)
     refine Ab (e_t eh) (Aa (Ae ?_))
     exact ⟨m_0, _, Nat.lt_succ_self m_0, Ghost.refl _, (IntKind.wrap .i64 (v1 + (1 : Int))), (by rw [hrec_0]; exact hr), (Ak rfl (Ac rfl (em rfl h0))), (Ak rfl (Ac rfl (em rfl h1))), (Ak rfl (Ac rfl (em rfl h7))), eh, rfl⟩
   refine Al (Af ?_)
   unfold E4
   refine Ab (e_t (Ad rfl (Ac rfl eh))) (Ab (e_t eh) (Aa (Ae (AI ?_))))
   refine BE ?_
   refine AA (AA ?_)
   refine BE ?_
   refine AA ?_
   cases hr
   exact A7 (AF eh AH) (AM AG v_d) (Av hwf) h
def BR (n : Nat) (p0 : (List ByteArray)) (fn1 : ByteArray → Option Bool) : Option Bool :=
 ((B9 n p0 fn1).bind fun v1 => some (decide ((0 : Int) ≤ v1)))
set_option maxRecDepth 100000 in
set_option maxHeartbeats 4000000 in
theorem Il (n : Nat) (p0 : (List ByteArray)) (fn1 : ByteArray → Option Bool) {g_fn1 : FuncId} {p_fn1 q_fn1 : List PV} (H_fn1 : ∀ (a0 : ByteArray) {r : Bool}, fn1 a0 = some r → ∀ {st : List Content} {K : PV → List Content → Prop}, K (.d (.bool r)) st → Aw PR g_fn1 (p_fn1 ++ [(.d (.str a0))] ++ q_fn1) st K) (B_fn1 : ∀ n, (AJ.belowL n p_fn1 && AJ.belowL n q_fn1) = true) {r : Bool} (hr : BR n p0 fn1 = some r) {K : PV → List Content → Prop} (h : K (.d (.bool r)) st) : Aw PR Di [(.d (.sl (List.map rS p0))), (.fn g_fn1 p_fn1 q_fn1)] st K := by
 refine Aw.of Ij (Nat.le_of_ble_eq_true rfl) fun hwf => ?_
 rw [DX]
 refine AQ ?_
 unfold Fb
 rw [BR] at hr
 refine Al (Af ?_)
 unfold EE
 refine Ab e_c (Aa (Ae (Al (Af ?_))))
 unfold EC
 refine Ab (e_t (em rfl eh)) (Ab (e_t (Ac rfl (em rfl eh))) ?_)
 obtain ⟨v1, hc_v1, hr⟩ := bind_some hr
 refine AP (Ay (e_t (em rfl eh)) AG (Ay (e_t eh) LD AR)) ?_
 refine Ji n p0 fn1 H_fn1 B_fn1 hc_v1 ?_
 refine Ar (e_t eh) e_c (ET ?_)
 refine Ab (e_t eh) (Aa (Ae (AI ?_)))
 cases hr
 exact A7 (AF eh AH) (AM AG v_d) (Av hwf) h
end Go.Ax
