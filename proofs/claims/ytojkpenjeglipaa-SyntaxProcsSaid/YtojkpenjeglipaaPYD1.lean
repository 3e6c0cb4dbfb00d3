import Derived.Test.YtojkpenjeglipaaPYT
import Derived.Test.YtojkpenjeglipaaPCVX
import Derived.Test.YtojkpenjeglipaaPCPrim
import Derived.Test.YtojkpenjeglipaaPYD0
set_option linter.unusedVariables false
set_option linter.unusedSimpArgs false
namespace Go.Ax
attribute [local irreducible] BQ EX FK Bg CQ FI B8 Le Ii upd ev u0 Dw frz A9 EK mmD bnd B2 FD Dq CR G3 HS Hg cutV JT Cy
variable {st : List Content}
def Ku (s_SsizeStmt : TS → Int → Option T_Ssize) (n : Nat) (p0 : TS) (p1 : Int) : Option T_Ssize :=
 ((FM n p0.Exprs (IntKind.wrap .i64 (p1 + (1 : Int))) (fun (a0 : TE) (a1 : Int) => C3 n a0 a1)).bind fun v2 => ((Do n p0.Body (IntKind.wrap .i64 (p1 + (1 : Int))) (fun (a0 : TS) (a1 : Int) => s_SsizeStmt a0 a1)).bind fun v3 => ((Do n p0.Else (IntKind.wrap .i64 (p1 + (1 : Int))) (fun (a0 : TS) (a1 : Int) => s_SsizeStmt a0 a1)).bind fun v4 => some (Jw (A8 (A8 v2 v3) v4)))))
set_option maxRecDepth 100000 in
set_option maxHeartbeats 4000000 in
theorem An5 (s_SsizeStmt : TS → Int → Option T_Ssize) (n : Nat) (p0 : TS) (p1 : Int) (H_s_SsizeStmt : ∀ (p0 : TS) (p1 : Int) {r : T_Ssize}, s_SsizeStmt p0 p1 = some r → ∀ {st : List Content} {K : PV → List Content → Prop} (h : K (.agg [(.d (.int .i64 r.nodes)), (.d (.int .i64 r.depth))]) st), Av PR F0 [(.agg [(.d (.int .i64 p0.Op)), (.d (.str p0.Name)), (.d (.str p0.Src)), (.d (.int .i64 p0.N)), (.d (.sl (List.map rS p0.Cols))), (.d (.sl (List.map TE.row p0.Exprs))), (.d (.sl (List.map TS.row p0.Body))), (.d (.sl (List.map TS.row p0.Else)))]), (.d (.int .i64 p1))] st K) {r : T_Ssize} (hr : Ku s_SsizeStmt n p0 p1 = some r) {K : PV → List Content → Prop} (h : K (.agg [(.d (.int .i64 r.nodes)), (.d (.int .i64 r.depth))]) st) : Av PR F0 [(.agg [(.d (.int .i64 p0.Op)), (.d (.str p0.Name)), (.d (.str p0.Src)), (.d (.int .i64 p0.N)), (.d (.sl (List.map rS p0.Cols))), (.d (.sl (List.map TE.row p0.Exprs))), (.d (.sl (List.map TS.row p0.Body))), (.d (.sl (List.map TS.row p0.Else)))]), (.d (.int .i64 p1))] st K := by
 refine Av.of At6 (Nat.le_of_ble_eq_true rfl) fun hwf => ?_
 rw [Ed]
 refine AQ ?_
 unfold XX
 rw [Ku] at hr
 refine Al (Af ?_)
 unfold QN
 refine Gq (k := 0) rfl rfl (e_t eh) Bf (by exact rfl) ?_
 refine Cn (k := 1) rfl rfl ?_
 refine Aa (Ae (Al (Af ?_)))
 unfold Qw
 refine AB (e_t (em rfl eh)) (by exact rfl) ?_
 refine Ap (e_t eh) ((Am rfl 0).trans rfl) (by exact rfl) ?_
 refine Ab (e_t (Ad rfl (em rfl eh))) ?_
 refine As (e_t eh) e_c (BU ?_)
 obtain ⟨v2, hc_v2, hr⟩ := bind_some hr
 refine AJ (Ar (e_t (Ac rfl eh)) AF (Ar (e_t eh) AF (Ar e_c K7 AM))) ?_
 refine PG n p0.Exprs (IntKind.wrap .i64 (p1 + (1 : Int))) (fun (a0 : TE) (a1 : Int) => C3 n a0 a1) (fun a0 a1 {_} hr {_ _} hk => As0 n a0 a1 hr hk) (fun _ => rfl) hc_v2 ?_
 refine Cn (k := 2) rfl rfl ?_
 refine Bl (e_t eh) ((Am rfl 2).trans rfl) (e_t (em rfl eh)) Bf rfl (Nat.le_of_ble_eq_true rfl) (by exact rfl) (cells' := [(.d (.int .i64 v2.nodes)), (.d (.int .i64 v2.depth))]) (by exact rfl) (Bo rfl _ _) ?_
 refine Aa (Ae (Al (Af ?_)))
 unfold Q0
 refine AB (e_t (Ad rfl (Ac rfl (em rfl eh)))) (by exact rfl) ?_
 refine Ap (e_t eh) ((Am rfl 0).trans rfl) (by exact rfl) ?_
 refine Ab (e_t (Ak rfl (Ac rfl (em rfl eh)))) ?_
 refine As (e_t eh) e_c (BU ?_)
 obtain ⟨v3, hc_v3, hr⟩ := bind_some hr
 refine AJ (Ar (e_t (Ac rfl eh)) AF (Ar (e_t eh) AF (Ar e_c K7 AM))) ?_
 refine IJ n p0.Body (IntKind.wrap .i64 (p1 + (1 : Int))) (fun (a0 : TS) (a1 : Int) => s_SsizeStmt a0 a1) (fun a0 a1 {_} hr {_ _} hk => H_s_SsizeStmt a0 a1 hr hk) (fun _ => rfl) hc_v3 ?_
 refine AJ (Ar (e_t (Ad rfl (em rfl eh))) O5 (Ar (e_t eh) (Bx (Aq f_d (Aq f_d B3))) AM)) ?_
 refine Nv v2 v3 rfl ((Am rfl 2).trans rfl) (Bo rfl _ _) ?_
 refine Aa (Ae (Al (Af ?_)))
 unfold RF
 refine AB (e_t (Ak rfl (Ad rfl (em rfl eh)))) (by exact rfl) ?_
 refine Ap (e_t eh) ((Am rfl 0).trans rfl) (by exact rfl) ?_
 refine Ab (e_t (Aj rfl (em rfl eh))) ?_
 refine As (e_t eh) e_c (BU ?_)
 obtain ⟨v4, hc_v4, hr⟩ := bind_some hr
 refine AJ (Ar (e_t (Ac rfl eh)) AF (Ar (e_t eh) AF (Ar e_c K7 AM))) ?_
 refine IJ n p0.Else (IntKind.wrap .i64 (p1 + (1 : Int))) (fun (a0 : TS) (a1 : Int) => s_SsizeStmt a0 a1) (fun a0 a1 {_} hr {_ _} hk => H_s_SsizeStmt a0 a1 hr hk) (fun _ => rfl) hc_v4 ?_
 refine AJ (Ar (e_t (Ak rfl (Ac rfl (em rfl eh)))) O5 (Ar (e_t eh) (Bx (Aq f_d (Aq f_d B3))) AM)) ?_
 refine Nv (A8 v2 v3) v4 rfl ((Am rfl 2).trans rfl) (Bo rfl _ _) ?_
 refine Aa (Ae (Al (Af ?_)))
 unfold Rl
 refine Bw (e_t (Ak rfl (Ad rfl eh))) ((Am rfl 2).trans rfl) (Nat.le_of_ble_eq_true rfl) (by exact rfl) ?_
 refine AJ (Ar (e_t eh) (Bx (Aq f_d (Aq f_d B3))) AM) ?_
 refine AE3 (A8 (A8 v2 v3) v4) rfl ?_
 refine Bl (e_t (Aj rfl (Ad rfl eh))) ((Am rfl 1).trans rfl) (e_t eh) Bf rfl (Nat.le_of_ble_eq_true rfl) (by exact rfl) (cells' := [(.d (.int .i64 ((Jw (A8 (A8 v2 v3) v4)).nodes))), (.d (.int .i64 ((Jw (A8 (A8 v2 v3) v4)).depth)))]) (by exact rfl) (Bo rfl _ _) ?_
 refine Aa (Ae (AI ?_))
 cases hr
 exact A7 (G9 (Aj rfl (Ad rfl eh)) ((Am rfl 1).trans rfl) (Nat.le_of_ble_eq_true rfl) (by exact rfl) AH) (AN (Bx (Aq f_d (Aq f_d B3))) (XW rfl)) (Ay hwf) h
def Cc : Nat → TS → Int → Option T_Ssize
 | 0, _, _ => none
 | n + 1, p0, p1 => Ku (Cc n) n p0 p1
theorem V6 : ∀ n : Nat, (∀ (p0 : TS) (p1 : Int) {r : T_Ssize}, Cc n p0 p1 = some r → ∀ {st : List Content} {K : PV → List Content → Prop} (h : K (.agg [(.d (.int .i64 r.nodes)), (.d (.int .i64 r.depth))]) st), Av PR F0 [(.agg [(.d (.int .i64 p0.Op)), (.d (.str p0.Name)), (.d (.str p0.Src)), (.d (.int .i64 p0.N)), (.d (.sl (List.map rS p0.Cols))), (.d (.sl (List.map TE.row p0.Exprs))), (.d (.sl (List.map TS.row p0.Body))), (.d (.sl (List.map TS.row p0.Else)))]), (.d (.int .i64 p1))] st K)
 | 0 => fun _ _ _ hr => (by rw [Cc] at hr; cases hr)
 | n + 1 => fun p0 p1 _ hr _ _ h => An5 (Cc n) n p0 p1 (V6 n) (by rw [Cc] at hr; exact hr) h
theorem XF (n : Nat) (p0 : TS) (p1 : Int) {r : T_Ssize} (hr : Cc n p0 p1 = some r) {K : PV → List Content → Prop} (h : K (.agg [(.d (.int .i64 r.nodes)), (.d (.int .i64 r.depth))]) st) : Av PR F0 [(.agg [(.d (.int .i64 p0.Op)), (.d (.str p0.Name)), (.d (.str p0.Src)), (.d (.int .i64 p0.N)), (.d (.sl (List.map rS p0.Cols))), (.d (.sl (List.map TE.row p0.Exprs))), (.d (.sl (List.map TS.row p0.Body))), (.d (.sl (List.map TS.row p0.Else)))]), (.d (.int .i64 p1))] st K := (V6 n) p0 p1 hr h
def H5 (p0 : T_Ssize) : (Int × Int) :=
 (bif (Cg p0) then ((1000 : Int), (1000 : Int)) else (p0.nodes, p0.depth))
set_option maxRecDepth 100000 in
set_option maxHeartbeats 4000000 in
theorem Aq9 (p0 : T_Ssize) {r : (Int × Int)} (hr : H5 p0 = r) {x0 : Nat} (hx_x0 : st[x0]? = some (.box [(.d (.int .i64 p0.nodes)), (.d (.int .i64 p0.depth))])) {K : PV → List Content → Prop} (h : K (.tup [(.d (.int .i64 r.1)), (.d (.int .i64 r.2))]) st) : Av PR Po [(.ptr x0 0)] st K := by
 refine Av.of An6 (Nat.le_of_ble_eq_true rfl) fun hwf => ?_
 rw [B5]
 refine AQ ?_
 unfold Ut
 rw [H5] at hr
 refine Al (Af ?_)
 unfold PX
 refine Ab e_c (Ab e_c (Aa (Ae (Al (Al ?_)))))
 refine Af ?_
 unfold PC
 refine Ab (e_t (Ac rfl eh)) ?_
 refine AJ (Ar (e_t eh) O5 AM) ?_
 refine Pc p0 rfl (GL hx_x0) ?_
 refine Aa (Ae ?_)
 refine AC (e_t eh) hr (fun hr => ?_) (fun hr => ?_)
 · refine Al (Af ?_)
   unfold Qk
   refine Ab e_c (Ab e_c (Aa (Ae (AI (AA ?_)))))
   subst hr
   exact A7 (AG (em rfl eh) (AG eh AH)) (HJ (Bu FU (Bu FU HN)) rfl) (Ay hwf) h
 refine AO (Ae (Al ?_))
 refine DP (k := 0) rfl rfl ?_
 unfold Pv
 refine Ab (e_t (Ad rfl eh)) ?_
 refine Ny (e_t eh) ?_
 refine AB (e_t eh) (by exact rfl) ?_
 refine Ap (e_t eh) (GL hx_x0) (by exact rfl) ?_
 refine Ab (e_t (Ad rfl (Ad rfl eh))) ?_
 refine Ny (e_t eh) ?_
 refine AB (e_t eh) (by exact rfl) ?_
 refine Ap (e_t eh) (GL hx_x0) (by exact rfl) ?_
 refine Ab (e_t (Ad rfl eh)) (Ab (e_t (em rfl eh)) (Aa (Ae (AI ?_))))
 subst hr
 exact A7 (AG (em rfl eh) (AG eh AH)) (HJ (Bu FU (Bu FU HN)) rfl) (Ay hwf) h
def Pn (n : Nat) (p0 : TP) : Option (Int × Int) :=
 ((Do n p0.Body (0 : Int) (fun (a0 : TS) (a1 : Int) => Cc n a0 a1)).bind fun v1 => some ((H5 v1).1, (H5 v1).2))
set_option maxRecDepth 100000 in
set_option maxHeartbeats 4000000 in
theorem AG8 (n : Nat) (p0 : TP) {r : (Int × Int)} (hr : Pn n p0 = some r) {K : PV → List Content → Prop} (h : K (.tup [(.d (.int .i64 r.1)), (.d (.int .i64 r.2))]) st) : Av PR Yp [(.agg [(.d (.str p0.Name)), (.d (.str p0.From)), (.d (.str p0.At)), (.d (.int .i64 p0.Fuel)), (.d (.sl (List.map T_api_Column.row p0.Params))), (.d (.sl (List.map TS.row p0.Body)))])] st K := by
 refine Av.of AT1 (Nat.le_of_ble_eq_true rfl) fun hwf => ?_
 rw [B5]
 refine AQ ?_
 unfold AF5
 rw [Pn] at hr
 refine Al (Af ?_)
 unfold YY
 refine Gq (k := 0) rfl rfl (e_t eh) Bf (by exact rfl) ?_
 refine Ab e_c (Ab e_c (Aa (Ae (Al (Af ?_)))))
 unfold YJ
 refine AB (e_t (Ac rfl eh)) (by exact rfl) ?_
 refine Ap (e_t eh) ((Am rfl 0).trans rfl) (by exact rfl) ?_
 obtain ⟨v1, hc_v1, hr⟩ := bind_some hr
 refine AJ (Ar (e_t eh) AF (Ar e_c AF (Ar e_c K7 AM))) ?_
 refine IJ n p0.Body (0 : Int) (fun (a0 : TS) (a1 : Int) => Cc n a0 a1) (fun a0 a1 {_} hr {_ _} hk => XF n a0 a1 hr hk) (fun _ => rfl) hc_v1 ?_
 refine Cn (k := 1) rfl rfl ?_
 refine Bl (e_t eh) ((Am rfl 1).trans rfl) (e_t (em rfl eh)) Bf rfl (Nat.le_of_ble_eq_true rfl) (by exact rfl) (cells' := [(.d (.int .i64 v1.nodes)), (.d (.int .i64 v1.depth))]) (by exact rfl) (Bo rfl _ _) ?_
 refine Aa (Ae (Al (Af ?_)))
 unfold Ab1
 refine AJ (Ar (e_t eh) O5 AM) ?_
 refine Aq9 v1 rfl ((Am rfl 1).trans rfl) ?_
 refine HP (e_t eh) (by exact rfl) ?_
 refine HP (e_t (em rfl eh)) (by exact rfl) ?_
 refine Ab (e_t (em rfl eh)) (Ab (e_t (em rfl eh)) (Aa (Ae (AI ?_))))
 cases hr
 exact A7 (AG (em rfl eh) (AG eh AH)) (HJ (Bu FU (Bu FU HN)) rfl) (Ay hwf) h
def C9 (p0 : Int) (p1 : Int) (p2 : Int) : Bool :=
 (bif (decide (p1 ≤ p0)) then (decide (p0 ≤ p2)) else false)
set_option maxRecDepth 100000 in
set_option maxHeartbeats 4000000 in
theorem OV (p0 : Int) (p1 : Int) (p2 : Int) {r : Bool} (hr : C9 p0 p1 p2 = r) {K : PV → List Content → Prop} (h : K (.d (.bool r)) st) : Av PR Kn [(.d (.int .i64 p0)), (.d (.int .i64 p1)), (.d (.int .i64 p2))] st K := by
 refine Av.of AI9 (Nat.le_of_ble_eq_true rfl) fun hwf => ?_
 rw [Yk]
 refine AQ ?_
 unfold Ai7
 rw [C9] at hr
 refine Al (Af ?_)
 unfold Ud
 refine Ab e_c (Aa (Ae (Al (Af ?_))))
 unfold Tz
 refine Bn ?_
 unfold Rm
 refine Ab (e_t (em rfl eh)) (Ab (e_t (Ac rfl (em rfl eh))) ?_)
 refine As (e_t (em rfl eh)) (e_t eh) (Ei ?_)
 refine Ab (e_t eh) ?_
 refine Au eh hr (fun hr => ?_) (fun hr => ?_)
 rotate_left
 · refine Ag eh (Ag (em rfl eh) (Ag (Ac rfl eh) (Ao (e_t (Ac rfl (em rfl eh))) e_c (Aa ?_))))
   unfold LT
   refine Ab (e_t eh) (Aa (Ae (AI ?_)))
   subst hr
   exact A7 (AG eh AH) (AN AF v_d) (Ay hwf) h
 refine Ai eh (Ab (e_t (Ad rfl (Ac rfl eh))) (Ai (em rfl eh) (Ab (e_t (Ak rfl (em rfl eh))) (Ai (Ac rfl eh) ?_))))
 refine As (e_t (em rfl eh)) (e_t eh) (JI ?_)
 refine An (e_t (Ac rfl (em rfl eh))) (e_t eh) (Aa ?_)
 unfold LT
 refine Ab (e_t eh) (Aa (Ae (AI ?_)))
 subst hr
 exact A7 (AG eh AH) (AN AF v_d) (Ay hwf) h
def Cv (p0 : Int) : Bool :=
 (bif (decide ((97 : Int) ≤ p0)) then (decide (p0 ≤ (122 : Int))) else false)
set_option maxRecDepth 100000 in
set_option maxHeartbeats 4000000 in
theorem PO (p0 : Int) {r : Bool} (hr : Cv p0 = r) {K : PV → List Content → Prop} (h : K (.d (.bool r)) st) : Av PR IK [(.d (.int .u8 p0))] st K := by
 refine Av.of Yj (Nat.le_of_ble_eq_true rfl) fun hwf => ?_
 rw [B5]
 refine AQ ?_
 unfold PD
 rw [Cv] at hr
 refine Al (Af ?_)
 unfold L2
 refine Ab e_c (Aa (Ae (Al (Af ?_))))
 unfold Mf
 refine Bn ?_
 unfold KM
 refine Ab (e_t (em rfl eh)) ?_
 refine As (e_t eh) e_c (Ei ?_)
 refine Ab (e_t eh) ?_
 refine Au eh hr (fun hr => ?_) (fun hr => ?_)
 rotate_left
 · refine Ag eh (Ag (em rfl eh) (Ao (e_t (Ac rfl eh)) e_c (Aa ?_)))
   unfold HU
   refine Ab (e_t eh) (Aa (Ae (AI ?_)))
   subst hr
   exact A7 (AG eh AH) (AN AF v_d) (Ay hwf) h
 refine Ai eh (Ab (e_t (Ad rfl (em rfl eh))) (Ai (em rfl eh) ?_))
 refine As (e_t eh) e_c (JI ?_)
 refine An (e_t (Ac rfl eh)) (e_t eh) (Aa ?_)
 unfold HU
 refine Ab (e_t eh) (Aa (Ae (AI ?_)))
 subst hr
 exact A7 (AG eh AH) (AN AF v_d) (Ay hwf) h
def Cz (p0 : Int) : Bool :=
 (bif (Cv p0) then true else (bif (decide ((48 : Int) ≤ p0)) then (bif (decide (p0 ≤ (57 : Int))) then true else (decide (p0 = (95 : Int)))) else (decide (p0 = (95 : Int)))))
set_option maxRecDepth 100000 in
set_option maxHeartbeats 4000000 in
theorem Ai4 (p0 : Int) {r : Bool} (hr : Cz p0 = r) {K : PV → List Content → Prop} (h : K (.d (.bool r)) st) : Av PR NA [(.d (.int .u8 p0))] st K := by
 refine Av.of Ad2 (Nat.le_of_ble_eq_true rfl) fun hwf => ?_
 rw [B5]
 refine AQ ?_
 unfold Sb
 rw [Cz] at hr
 refine Al (Af ?_)
 unfold Oz
 refine Ab e_c (Aa (Ae (Al (Af ?_))))
 unfold Oe
 refine Bn ?_
 unfold LE
 refine Ab (e_t (em rfl eh)) ?_
 refine AJ (Ar (e_t eh) AF AM) ?_
 refine PO p0 rfl ?_
 refine Ab (e_t eh) ?_
 refine Au eh hr (fun hr => ?_) (fun hr => ?_)
 · refine Ag eh (Ag (em rfl eh) (Ag (Ac rfl eh) ?_))
   refine A4 eh ?_
   refine A4 (em rfl eh) ?_
   refine Ag (Ad rfl (em rfl eh)) (An (e_t (Ad rfl (Ac rfl eh))) e_c (Aa ?_))
   refine Bn ?_
   unfold G0
   refine Ab (e_t eh) (Ag eh (Ag (em rfl eh) (An (e_t (Ac rfl eh)) e_c (Aa ?_))))
   unfold Fv
   refine Ab (e_t eh) (Aa (Ae (AI ?_)))
   subst hr
   exact A7 (AG eh AH) (AN AF v_d) (Ay hwf) h
 refine Ai eh (Ab (e_t (Ad rfl (em rfl eh))) (Ai (em rfl eh) ?_))
 refine As (e_t eh) e_c (Ei ?_)
 refine Ai (Ac rfl eh) (Ab (e_t eh) ?_)
 refine Au eh hr (fun hr => ?_) (fun hr => ?_)
 rotate_left
 · refine Ag eh (Ag (em rfl eh) (Ai (Ad rfl (Ac rfl eh)) (Ao (e_t (Ac rfl eh)) e_c (Ao (e_t (Ad rfl (Ac rfl (em rfl eh)))) (e_t eh) (Aa ?_)))))
   refine Bn ?_
   unfold G0
   refine Ab (e_t eh) (Ai eh (Ab (e_t (Ak rfl (Ad rfl (Ac rfl eh)))) (Ai (em rfl eh) ?_)))
   refine As (e_t eh) e_c (BK ?_)
   refine Ao (e_t (Ac rfl eh)) (e_t eh) (Aa ?_)
   unfold Fv
   refine Ab (e_t eh) (Aa (Ae (AI ?_)))
   subst hr
   exact A7 (AG eh AH) (AN AF v_d) (Ay hwf) h
 refine Ai eh (Ab (e_t (Ak rfl (em rfl eh))) (Ai (em rfl eh) ?_))
 refine As (e_t eh) e_c (JI ?_)
 refine Ai (Ad rfl (Ac rfl eh)) (An (e_t (Ac rfl eh)) (e_t eh) (Ao (e_t (Ad rfl (Ac rfl (em rfl eh)))) (e_t eh) (Aa ?_)))
 refine Bn ?_
 unfold G0
 refine Ab (e_t eh) ?_
 refine Au eh hr (fun hr => ?_) (fun hr => ?_)
 · refine Ag eh (Ag (em rfl eh) (An (e_t (Ac rfl eh)) e_c (Aa ?_)))
   unfold Fv
   refine Ab (e_t eh) (Aa (Ae (AI ?_)))
   subst hr
   exact A7 (AG eh AH) (AN AF v_d) (Ay hwf) h
 refine Ai eh (Ab (e_t (Ak rfl (Ad rfl (Ac rfl (em rfl eh))))) (Ai (em rfl eh) ?_))
 refine As (e_t eh) e_c (BK ?_)
 refine Ao (e_t (Ac rfl eh)) (e_t eh) (Aa ?_)
 unfold Fv
 refine Ab (e_t eh) (Aa (Ae (AI ?_)))
 subst hr
 exact A7 (AG eh AH) (AN AF v_d) (Ay hwf) h
def G4 (p0 : ByteArray) (q0 : Int → Option Bool) (v4 : Int) : Option Bool :=
 (bif (decide (v4 < ((Ec p0).length : Int))) then ((Dd (Ec p0) v4).bind fun v5 => (bif (!(Cz v5)) then some false else q0 (IntKind.wrap .i64 (v4 + (1 : Int))))) else some true)
def Cd (p0 : ByteArray) : Nat → Int → Option Bool
 | 0, _ => none
 | m + 1, v4 => G4 p0 (Cd p0 m) v4
def FQ (p0 : ByteArray) (n : Nat) (v3 : Bool) : Option Bool :=
 (bif v3 then some false else (Cd p0 n (0 : Int)))
def FP (p0 : ByteArray) (n : Nat) (v1 : Bool) : Option Bool :=
 (bif v1 then (FQ p0 n true) else ((Ay6 p0 (0 : Int)).bind fun v2 => (FQ p0 n (!(Cv v2)))))
def GC (n : Nat) (p0 : ByteArray) : Option Bool :=
 (bif (decide (p0 = (⟨#[]⟩ : ByteArray))) then (FP p0 n true) else (FP p0 n (decide ((16 : Int) < (p0.size : Int)))))
set_option maxRecDepth 100000 in
set_option maxHeartbeats 4000000 in
theorem Zg (n : Nat) (p0 : ByteArray) {r : Bool} (hr : GC n p0 = some r) {K : PV → List Content → Prop} (h : K (.d (.bool r)) st) : Av PR Mn [(.d (.str p0))] st K := by
 refine Av.of ZS (Nat.le_of_ble_eq_true rfl) fun hwf => ?_
 rw [B5]
 refine AQ ?_
 unfold QS
 rw [GC] at hr
 refine Al (Af ?_)
 unfold MM
 refine Ab e_c (Aa (Ae (Al ?_)))
 refine By (fun f st' => ∃ (v3 : Bool), FQ p0 n v3 = some r ∧ f 0 = (.d (.str p0)) ∧ f 17 = (.d (.bool v3)) ∧ st' = st ++ []) ?_ ?_
 · refine Af ?_
   unfold M4
   refine A1 (fun f st' => ∃ (v1 : Bool), FP p0 n v1 = some r ∧ f 0 = (.d (.str p0)) ∧ f 11 = (.d (.bool v1)) ∧ st' = st ++ []) ?_ ?_
   · unfold K5
     refine Ab (e_t (em rfl eh)) ?_
     refine As (e_t eh) e_c (Dg ?_)
     refine Ab (e_t eh) ?_
     refine Au eh hr (fun hr => ?_) (fun hr => ?_)
     · refine Ag eh (Ag (em rfl eh) (Ag (Ac rfl eh) (An (e_t (Ac rfl (em rfl eh))) e_c (Aa ?_))))
       exact ⟨true, hr, (Ak rfl (em rfl eh)), eh, rfl⟩
     refine Ai eh (Ab (e_t (Ad rfl (em rfl eh))) (Ai (em rfl eh) ?_))
     refine Ij (e_t eh) ?_
     refine Ai (Ac rfl eh) ?_
     refine As (e_t eh) e_c (C8 ?_)
     refine Ao (e_t (Ac rfl (em rfl eh))) (e_t eh) (Aa ?_)
     exact ⟨(decide ((16 : Int) < (p0.size : Int))), hr, (Ak rfl (em rfl eh)), eh, rfl⟩
   rintro f st' ⟨v1, hr, h0, h11, rfl⟩
   rw [FP] at hr
   unfold K9
   refine Ab (e_t h11) ?_
   refine Au eh hr (fun hr => ?_) (fun hr => ?_)
   · refine Ag eh (Ag (em rfl eh) (Ag (Ac rfl eh) (Ag (Ac rfl (em rfl eh)) (An (e_t (Ad rfl eh)) e_c (Aa ?_)))))
     refine Ae ?_
     exact ⟨true, hr, (Ad rfl (Ac rfl (em rfl h0))), eh, rfl⟩
   refine Ai eh (Ab (e_t (Ac rfl h0)) (Ai (em rfl eh) ?_))
   refine Aq7 (e_t eh) e_c hr (fun v2 hr => ?_)
   refine Ai (Ac rfl eh) ?_
   refine AJ (Ar (e_t eh) AF AM) ?_
   refine PO v2 rfl ?_
   refine Ai (Ac rfl (em rfl eh)) (C2 (e_t eh) (Ao (e_t (Ad rfl eh)) (e_t eh) (Aa (Ae ?_))))
   exact ⟨(!(Cv v2)), hr, (Ad rfl (Ac rfl (em rfl h0))), eh, rfl⟩
 rintro f st' ⟨v3, hr, h0, h17, rfl⟩
 rw [FQ] at hr
 refine AC (e_t h17) hr (fun hr => ?_) (fun hr => ?_)
 · refine Al (Af ?_)
   unfold Nj
   refine Ab e_c (Aa (Ae (AI (AA ?_))))
   cases hr
   exact A7 (AG eh AH) (AN AF v_d) (Ay hwf) h
 refine AO (Ae (Al (Al (Af ?_))))
 unfold M5
 refine Ab (e_t h0) ?_
 refine AB2 (e_t eh) ?_
 refine Bh (row := (rI .u8)) (AP (e_t eh) Bt) ?_
 refine Ab e_c (Aa (Ae ?_))
 refine AT ?_
 refine BX (fun m f st' => ∃ (v4 : Int), Cd p0 m v4 = some r ∧ f 19 = (.d (.sl (List.map (rI .u8) (Ec p0)))) ∧ f 20 = (.d (.int .i64 ((Ec p0).length : Int))) ∧ f 21 = (.d (.int .i64 v4)) ∧ st' = st ++ []) n (Ghost.refl _) ⟨(0 : Int), hr, (Ac rfl eh), (em rfl eh), eh, rfl⟩ ?_
 rintro m f st' ⟨v4, hr, h19, h20, h21, rfl⟩
 cases m with
 | zero => cases hr
 | succ m_0 =>
   rw [Cd] at hr
   generalize hrec_0 : Cd p0 m_0 = q0 at hr
   rw [G4] at hr
   unfold MC
   refine Al (Af ?_)
   unfold Nw
   refine As (e_t h21) (e_t h20) (CM ?_)
   refine Aa (Ae (Al ?_))
   refine AC (e_t eh) hr (fun hr => ?_) (fun hr => ?_)
   rotate_left
   · refine CG ?_
     refine AW ?_
     refine AW ?_
     refine DF ?_
     refine Ae (Al (Af ?_))
     unfold Ml
     refine Ab e_c (Aa (Ae (AI ?_)))
     cases hr
     exact A7 (AG eh AH) (AN AF v_d) (Ay hwf) h
   refine AO (Ae (Al ?_))
   refine AT ?_
   refine Al (Af ?_)
   unfold MG
   refine Br (row := (rI .u8)) (AP (e_t (em rfl h19)) Bt) (e_t (em rfl h21)) hr (fun _ => rfl) (fun _ => rfl) (fun v5 hr => ?_)
   refine BI (e_t eh) (by exact rfl) ?_
   refine Ab (e_t eh) (Aa (Ae (Al (Af ?_))))
   unfold MW
   refine Ab (e_t eh) ?_
   refine AJ (Ar (e_t eh) AF AM) ?_
   refine Ai4 v5 rfl ?_
   refine C2 (e_t eh) (Aa (Ae ?_))
   refine AC (e_t eh) hr (fun hr => ?_) (fun hr => ?_)
   rotate_left
   · refine AO ?_
     refine BB ?_
     refine Ae (Af ?_)
     unfold M6
     refine As (e_t (Ad rfl (Ac rfl (em rfl h21)))) e_c (BU ?_)
     refine Ab (e_t eh) (Aa (Ae ?_))
     exact ⟨m_0, _, Nat.lt_succ_self m_0, Ghost.refl _, (IntKind.wrap .i64 (v4 + (1 : Int))), (by rw [hrec_0]; exact hr), (Ak rfl (em rfl h19)), (Ak rfl (em rfl h20)), eh, rfl⟩
   refine Al (Af ?_)
   unfold MF
   refine Ab e_c (Aa (Ae (AI ?_)))
   refine BH ?_
   refine AA (AA ?_)
   refine BH ?_
   refine AA ?_
   cases hr
   exact A7 (AG eh AH) (AN AF v_d) (Ay hwf) h
def G1 (p0 : (List ByteArray)) (n : Nat) (q0 : Int → Option Bool) (v1 : Int) : Option Bool :=
 (bif (decide (v1 < (p0.length : Int))) then ((Dd p0 v1).bind fun v2 => ((GC n v2).bind fun v3 => (bif (!v3) then some false else q0 (IntKind.wrap .i64 (v1 + (1 : Int)))))) else some true)
def Cx (p0 : (List ByteArray)) (n : Nat) : Nat → Int → Option Bool
 | 0, _ => none
 | m + 1, v1 => G1 p0 n (Cx p0 n m) v1
def GB (n : Nat) (p0 : (List ByteArray)) : Option Bool :=
 (Cx p0 n n (0 : Int))
set_option maxRecDepth 100000 in
set_option maxHeartbeats 4000000 in
theorem YU (n : Nat) (p0 : (List ByteArray)) {r : Bool} (hr : GB n p0 = some r) {K : PV → List Content → Prop} (h : K (.d (.bool r)) st) : Av PR Ms [(.d (.sl (List.map rS p0)))] st K := by
 refine Av.of ZI (Nat.le_of_ble_eq_true rfl) fun hwf => ?_
 rw [B5]
 refine AQ ?_
 unfold QF
 rw [GB] at hr
 refine Al (Af ?_)
 unfold MJ
 refine Ab e_c (Aa (Ae (Al (Al (Af ?_)))))
 unfold Na
 refine Ab (e_t (em rfl eh)) ?_
 refine Bh (row := rS) (AP (e_t eh) Bt) ?_
 refine Ab e_c (Aa (Ae ?_))
 refine AT ?_
 refine BX (fun m f st' => ∃ (v1 : Int), Cx p0 n m v1 = some r ∧ f 5 = (.d (.sl (List.map rS p0))) ∧ f 6 = (.d (.int .i64 (p0.length : Int))) ∧ f 7 = (.d (.int .i64 v1)) ∧ st' = st ++ []) n (Ghost.refl _) ⟨(0 : Int), hr, (Ac rfl eh), (em rfl eh), eh, rfl⟩ ?_
 rintro m f st' ⟨v1, hr, h5, h6, h7, rfl⟩
 cases m with
 | zero => cases hr
 | succ m_0 =>
   rw [Cx] at hr
   generalize hrec_0 : Cx p0 n m_0 = q0 at hr
   rw [G1] at hr
   unfold MN
   refine Al (Af ?_)
   unfold Nn
   refine As (e_t h7) (e_t h6) (CM ?_)
   refine Aa (Ae (Al ?_))
   refine AC (e_t eh) hr (fun hr => ?_) (fun hr => ?_)
   rotate_left
   · refine CG ?_
     refine AW ?_
     refine AW ?_
     refine DF ?_
     refine Ae (Al (Af ?_))
     unfold Ni
     refine Ab e_c (Aa (Ae (AI ?_)))
     cases hr
     exact A7 (AG eh AH) (AN AF v_d) (Ay hwf) h
   refine AO (Ae (Al ?_))
   refine AT ?_
   refine Al (Af ?_)
   unfold ML
   refine Br (row := rS) (AP (e_t (em rfl h5)) Bt) (e_t (em rfl h7)) hr (fun _ => rfl) (fun _ => rfl) (fun v2 hr => ?_)
   refine BI (e_t eh) (by exact rfl) ?_
   refine Ab (e_t eh) (Aa (Ae (Al (Af ?_))))
   unfold M8
   refine Ab (e_t eh) ?_
   obtain ⟨v3, hc_v3, hr⟩ := bind_some hr
   refine AJ (Ar (e_t eh) AF AM) ?_
   refine Zg n v2 hc_v3 ?_
   refine C2 (e_t eh) (Aa (Ae ?_))
   refine AC (e_t eh) hr (fun hr => ?_) (fun hr => ?_)
   rotate_left
   · refine AO ?_
     refine BB ?_
     refine Ae (Af ?_)
     unfold MO
     refine As (e_t (Ad rfl (Ac rfl (em rfl h7)))) e_c (BU ?_)
     refine Ab (e_t eh) (Aa (Ae ?_))
     exact ⟨m_0, _, Nat.lt_succ_self m_0, Ghost.refl _, (IntKind.wrap .i64 (v1 + (1 : Int))), (by rw [hrec_0]; exact hr), (Ak rfl (em rfl h5)), (Ak rfl (em rfl h6)), eh, rfl⟩
   refine Al (Af ?_)
   unfold Nl
   refine Ab e_c (Aa (Ae (AI ?_)))
   refine BH ?_
   refine AA (AA ?_)
   refine BH ?_
   refine AA ?_
   cases hr
   exact A7 (AG eh AH) (AN AF v_d) (Ay hwf) h
def Cu (p0 : (List ByteArray)) (fn1 : ByteArray → Option Bool) (q0 : Int → Option Int) (v1 : Int) : Option Int :=
 (bif (decide (v1 < (p0.length : Int))) then ((Dd p0 v1).bind fun v2 => ((fn1 v2).bind fun v3 => (bif v3 then some v1 else q0 (IntKind.wrap .i64 (v1 + (1 : Int)))))) else some (-1))
def A5 (p0 : (List ByteArray)) (fn1 : ByteArray → Option Bool) : Nat → Int → Option Int
 | 0, _ => none
 | m + 1, v1 => Cu p0 fn1 (A5 p0 fn1 m) v1
def Ce (n : Nat) (p0 : (List ByteArray)) (fn1 : ByteArray → Option Bool) : Option Int :=
 (A5 p0 fn1 n (0 : Int))
set_option maxRecDepth 100000 in
set_option maxHeartbeats 4000000 in
theorem JX (n : Nat) (p0 : (List ByteArray)) (fn1 : ByteArray → Option Bool) {g_fn1 : FuncId} {p_fn1 q_fn1 : List PV} (H_fn1 : ∀ (a0 : ByteArray) {r : Bool}, fn1 a0 = some r → ∀ {st : List Content} {K : PV → List Content → Prop}, K (.d (.bool r)) st → Av PR g_fn1 (p_fn1 ++ [(.d (.str a0))] ++ q_fn1) st K) (B_fn1 : ∀ n, (AK.belowL n p_fn1 && AK.belowL n q_fn1) = true) {r : Int} (hr : Ce n p0 fn1 = some r) {K : PV → List Content → Prop} (h : K (.d (.int .i64 r)) st) : Av PR DH [(.d (.sl (List.map rS p0))), (.fn g_fn1 p_fn1 q_fn1)] st K := by
 refine Av.of Js (Nat.le_of_ble_eq_true rfl) fun hwf => ?_
 rw [Ed]
 refine AQ ?_
 unfold FO
 rw [Ce] at hr
 refine Al (Af ?_)
 unfold Fk
 refine Ab e_c (Aa (Ae (Al (Al (Af ?_)))))
 unfold Fr
 refine Ab (e_t (em rfl eh)) ?_
 refine Bh (row := rS) (AP (e_t eh) Bt) ?_
 refine Ab e_c (Aa (Ae ?_))
 refine AT ?_
 refine BX (fun m f st' => ∃ (v1 : Int), A5 p0 fn1 m v1 = some r ∧ f 0 = (.d (.sl (List.map rS p0))) ∧ f 1 = (.fn g_fn1 p_fn1 q_fn1) ∧ f 7 = (.d (.int .i64 (p0.length : Int))) ∧ f 8 = (.d (.int .i64 v1)) ∧ st' = st ++ []) n (Ghost.refl _) ⟨(0 : Int), hr, (Ad rfl eh), (Ad rfl (em rfl eh)), (em rfl eh), eh, rfl⟩ ?_
 rintro m f st' ⟨v1, hr, h0, h1, h7, h8, rfl⟩
 cases m with
 | zero => cases hr
 | succ m_0 =>
   rw [A5] at hr
   generalize hrec_0 : A5 p0 fn1 m_0 = q0 at hr
   rw [Cu] at hr
   unfold Fh
   refine Al (Af ?_)
   unfold Fq
   refine As (e_t h8) (e_t h7) (CM ?_)
   refine Aa (Ae (Al ?_))
   refine AC (e_t eh) hr (fun hr => ?_) (fun hr => ?_)
   rotate_left
   · refine CG ?_
     refine AW ?_
     refine AW ?_
     refine DF ?_
     refine Ae (Al (Af ?_))
     unfold Fs
     refine Ab e_c (Aa (Ae (AI ?_)))
     cases hr
     exact A7 (AG eh AH) (AN AF v_d) (Ay hwf) h
   refine AO (Ae (Al ?_))
   refine AT ?_
   refine Al (Af ?_)
   unfold Fl
   refine Ab (e_t (em rfl h8)) (Ab (e_t eh) (Aa (Ae (Al (Af ?_)))))
   unfold E5
   refine Ab (e_t (Ac rfl (em rfl h1))) (Ab (e_t (Ad rfl h0)) (Ab (e_t (Ac rfl eh)) ?_))
   refine Br (row := rS) (AP (e_t (em rfl eh)) Bt) (e_t eh) hr (fun _ => rfl) (fun _ => rfl) (fun v2 hr => ?_)
   refine BI (e_t eh) (by exact rfl) ?_
   obtain ⟨v3, hc_v3, hr⟩ := bind_some hr
   refine Aw7 (e_t (Ad rfl eh)) (Ar (e_t eh) AF AM) rfl ?_
   refine H_fn1 v2 hc_v3 ?_
   refine Aa (Ae ?_)
   refine AC (e_t eh) hr (fun hr => ?_) (fun hr => ?_)
   rotate_left
   · refine AO ?_
     refine BB ?_
     refine Ae (Af ?_)
     unfold E8
     refine As (e_t (Ak rfl (em rfl h8))) e_c (BU ?_)
     refine Ab (e_t eh) (Aa (Ae ?_))
     exact ⟨m_0, _, Nat.lt_succ_self m_0, Ghost.refl _, (IntKind.wrap .i64 (v1 + (1 : Int))), (by rw [hrec_0]; exact hr), (Ak rfl (Ac rfl (em rfl h0))), (Ak rfl (Ac rfl (em rfl h1))), (Ak rfl (Ac rfl (em rfl h7))), eh, rfl⟩
   refine Al (Af ?_)
   unfold E7
   refine Ab (e_t (Ad rfl (Ac rfl eh))) (Ab (e_t eh) (Aa (Ae (AI ?_))))
   refine BH ?_
   refine AA (AA ?_)
   refine BH ?_
   refine AA ?_
   cases hr
   exact A7 (AG eh AH) (AN AF v_d) (Ay hwf) h
def BT (n : Nat) (p0 : (List ByteArray)) (fn1 : ByteArray → Option Bool) : Option Bool :=
 ((Ce n p0 fn1).bind fun v1 => some (decide ((0 : Int) ≤ v1)))
set_option maxRecDepth 100000 in
set_option maxHeartbeats 4000000 in
theorem Ir (n : Nat) (p0 : (List ByteArray)) (fn1 : ByteArray → Option Bool) {g_fn1 : FuncId} {p_fn1 q_fn1 : List PV} (H_fn1 : ∀ (a0 : ByteArray) {r : Bool}, fn1 a0 = some r → ∀ {st : List Content} {K : PV → List Content → Prop}, K (.d (.bool r)) st → Av PR g_fn1 (p_fn1 ++ [(.d (.str a0))] ++ q_fn1) st K) (B_fn1 : ∀ n, (AK.belowL n p_fn1 && AK.belowL n q_fn1) = true) {r : Bool} (hr : BT n p0 fn1 = some r) {K : PV → List Content → Prop} (h : K (.d (.bool r)) st) : Av PR Dk [(.d (.sl (List.map rS p0))), (.fn g_fn1 p_fn1 q_fn1)] st K := by
 refine Av.of ID (Nat.le_of_ble_eq_true rfl) fun hwf => ?_
 rw [Ed]
 refine AQ ?_
 unfold Fa
 rw [BT] at hr
 refine Al (Af ?_)
 unfold EH
 refine Ab e_c (Aa (Ae (Al (Af ?_))))
 unfold EO
 refine Ab (e_t (em rfl eh)) (Ab (e_t (Ac rfl (em rfl eh))) ?_)
 obtain ⟨v1, hc_v1, hr⟩ := bind_some hr
 refine AJ (Ar (e_t (em rfl eh)) AF (Ar (e_t eh) K7 AM)) ?_
 refine JX n p0 fn1 H_fn1 B_fn1 hc_v1 ?_
 refine As (e_t eh) e_c (Ei ?_)
 refine Ab (e_t eh) (Aa (Ae (AI ?_)))
 cases hr
 exact A7 (AG eh AH) (AN AF v_d) (Ay hwf) h
end Go.Ax
