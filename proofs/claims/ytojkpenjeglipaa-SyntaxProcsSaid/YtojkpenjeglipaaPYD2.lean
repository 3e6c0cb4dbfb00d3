import Derived.Test.YtojkpenjeglipaaPYT
import Derived.Test.YtojkpenjeglipaaPCVX
import Derived.Test.YtojkpenjeglipaaPCPrim
import Derived.Test.YtojkpenjeglipaaPYD1
set_option linter.unusedVariables false
set_option linter.unusedSimpArgs false
namespace Go.Ax
attribute [local irreducible] BQ EX FK Bg CQ FI B8 Le Ii upd ev u0 Dw frz A9 EK mmD bnd B2 FD Dq CR G3 HS Hg cutV JT Cy
variable {st : List Content}
def Hf  : (List ByteArray) :=
 [(⟨#[97, 110, 100]⟩ : ByteArray), (⟨#[111, 114]⟩ : ByteArray), (⟨#[110, 111, 116]⟩ : ByteArray), (⟨#[116, 114, 117, 101]⟩ : ByteArray), (⟨#[102, 97, 108, 115, 101]⟩ : ByteArray), (⟨#[108, 101, 116]⟩ : ByteArray), (⟨#[115, 101, 116]⟩ : ByteArray), (⟨#[105, 110, 115, 101, 114, 116]⟩ : ByteArray), (⟨#[117, 112, 100, 97, 116, 101]⟩ : ByteArray), (⟨#[100, 101, 108, 101, 116, 101]⟩ : ByteArray), (⟨#[102, 111, 114]⟩ : ByteArray), (⟨#[105, 110]⟩ : ByteArray), (⟨#[119, 104, 101, 114, 101]⟩ : ByteArray), (⟨#[108, 105, 109, 105, 116]⟩ : ByteArray), (⟨#[105, 102]⟩ : ByteArray), (⟨#[101, 108, 115, 101]⟩ : ByteArray), (⟨#[101, 109, 105, 116]⟩ : ByteArray), (⟨#[97, 98, 111, 114, 116]⟩ : ByteArray), (⟨#[114, 101, 112, 108, 121]⟩ : ByteArray), (⟨#[99, 111, 117, 110, 116]⟩ : ByteArray), (⟨#[115, 117, 109]⟩ : ByteArray), (⟨#[109, 105, 110]⟩ : ByteArray), (⟨#[109, 97, 120]⟩ : ByteArray), (⟨#[105, 110, 116]⟩ : ByteArray), (⟨#[116, 101, 120, 116]⟩ : ByteArray), (⟨#[98, 111, 111, 108]⟩ : ByteArray), (⟨#[116, 97, 98, 108, 101]⟩ : ByteArray), (⟨#[115, 116, 114, 101, 97, 109]⟩ : ByteArray), (⟨#[119, 105, 110, 100, 111, 119]⟩ : ByteArray), (⟨#[115, 105, 110, 107]⟩ : ByteArray), (⟨#[112, 114, 111, 99]⟩ : ByteArray), (⟨#[107, 101, 121]⟩ : ByteArray), (⟨#[117, 110, 105, 113, 117, 101]⟩ : ByteArray), (⟨#[105, 110, 100, 101, 120]⟩ : ByteArray), (⟨#[112, 97, 114, 116, 115]⟩ : ByteArray), (⟨#[98, 121]⟩ : ByteArray), (⟨#[111, 110]⟩ : ByteArray), (⟨#[102, 114, 111, 109]⟩ : ByteArray), (⟨#[97, 116]⟩ : ByteArray), (⟨#[102, 117, 101, 108]⟩ : ByteArray), (⟨#[116, 117, 112, 108, 101, 115]⟩ : ByteArray), (⟨#[98, 97, 116, 99, 104, 101, 115]⟩ : ByteArray), (⟨#[115, 108, 105, 100, 101]⟩ : ByteArray)]
set_option maxRecDepth 100000 in
set_option maxHeartbeats 4000000 in
theorem AQ5  {r : (List ByteArray)} (hr : Hf = r) {K : PV → List Content → Prop} (h : K (.d (.sl (List.map rS r))) st) : Av PR Y1 [] st K := by
 refine Av.of AP6 (Nat.le_of_ble_eq_true rfl) fun hwf => ?_
 rw [AH0]
 refine AQ ?_
 unfold Ay8
 rw [Hf] at hr
 refine Al (Af ?_)
 unfold Xq
 refine Ab e_c (Aa (Ae (Al (Af ?_))))
 unfold XM
 refine Db (rows := List.map rS [(⟨#[97, 110, 100]⟩ : ByteArray), (⟨#[111, 114]⟩ : ByteArray), (⟨#[110, 111, 116]⟩ : ByteArray), (⟨#[116, 114, 117, 101]⟩ : ByteArray), (⟨#[102, 97, 108, 115, 101]⟩ : ByteArray), (⟨#[108, 101, 116]⟩ : ByteArray), (⟨#[115, 101, 116]⟩ : ByteArray), (⟨#[105, 110, 115, 101, 114, 116]⟩ : ByteArray), (⟨#[117, 112, 100, 97, 116, 101]⟩ : ByteArray), (⟨#[100, 101, 108, 101, 116, 101]⟩ : ByteArray), (⟨#[102, 111, 114]⟩ : ByteArray), (⟨#[105, 110]⟩ : ByteArray), (⟨#[119, 104, 101, 114, 101]⟩ : ByteArray), (⟨#[108, 105, 109, 105, 116]⟩ : ByteArray), (⟨#[105, 102]⟩ : ByteArray), (⟨#[101, 108, 115, 101]⟩ : ByteArray), (⟨#[101, 109, 105, 116]⟩ : ByteArray), (⟨#[97, 98, 111, 114, 116]⟩ : ByteArray), (⟨#[114, 101, 112, 108, 121]⟩ : ByteArray), (⟨#[99, 111, 117, 110, 116]⟩ : ByteArray), (⟨#[115, 117, 109]⟩ : ByteArray), (⟨#[109, 105, 110]⟩ : ByteArray), (⟨#[109, 97, 120]⟩ : ByteArray), (⟨#[105, 110, 116]⟩ : ByteArray), (⟨#[116, 101, 120, 116]⟩ : ByteArray), (⟨#[98, 111, 111, 108]⟩ : ByteArray), (⟨#[116, 97, 98, 108, 101]⟩ : ByteArray), (⟨#[115, 116, 114, 101, 97, 109]⟩ : ByteArray), (⟨#[119, 105, 110, 100, 111, 119]⟩ : ByteArray), (⟨#[115, 105, 110, 107]⟩ : ByteArray), (⟨#[112, 114, 111, 99]⟩ : ByteArray), (⟨#[107, 101, 121]⟩ : ByteArray), (⟨#[117, 110, 105, 113, 117, 101]⟩ : ByteArray), (⟨#[105, 110, 100, 101, 120]⟩ : ByteArray), (⟨#[112, 97, 114, 116, 115]⟩ : ByteArray), (⟨#[98, 121]⟩ : ByteArray), (⟨#[111, 110]⟩ : ByteArray), (⟨#[102, 114, 111, 109]⟩ : ByteArray), (⟨#[97, 116]⟩ : ByteArray), (⟨#[102, 117, 101, 108]⟩ : ByteArray), (⟨#[116, 117, 112, 108, 101, 115]⟩ : ByteArray), (⟨#[98, 97, 116, 99, 104, 101, 115]⟩ : ByteArray), (⟨#[115, 108, 105, 100, 101]⟩ : ByteArray)]) ((AE e_c A0 (Aw f_d AL) rfl (AE e_c A0 (Aw f_d AL) rfl (AE e_c A0 (Aw f_d AL) rfl (AE e_c A0 (Aw f_d AL) rfl (AE e_c A0 (Aw f_d AL) rfl (AE e_c A0 (Aw f_d AL) rfl (AE e_c A0 (Aw f_d AL) rfl (AE e_c A0 (Aw f_d AL) rfl (AE e_c A0 (Aw f_d AL) rfl (AE e_c A0 (Aw f_d AL) rfl (AE e_c A0 (Aw f_d AL) rfl (AE e_c A0 (Aw f_d AL) rfl (AE e_c A0 (Aw f_d AL) rfl (AE e_c A0 (Aw f_d AL) rfl (AE e_c A0 (Aw f_d AL) rfl (AE e_c A0 (Aw f_d AL) rfl (AE e_c A0 (Aw f_d AL) rfl (AE e_c A0 (Aw f_d AL) rfl (AE e_c A0 (Aw f_d AL) rfl (AE e_c A0 (Aw f_d AL) rfl (AE e_c A0 (Aw f_d AL) rfl (AE e_c A0 (Aw f_d AL) rfl (AE e_c A0 (Aw f_d AL) rfl (AE e_c A0 (Aw f_d AL) rfl (AE e_c A0 (Aw f_d AL) rfl (AE e_c A0 (Aw f_d AL) rfl (AE e_c A0 (Aw f_d AL) rfl (AE e_c A0 (Aw f_d AL) rfl (AE e_c A0 (Aw f_d AL) rfl (AE e_c A0 (Aw f_d AL) rfl (AE e_c A0 (Aw f_d AL) rfl (AE e_c A0 (Aw f_d AL) rfl (AE e_c A0 (Aw f_d AL) rfl (AE e_c A0 (Aw f_d AL) rfl (AE e_c A0 (Aw f_d AL) rfl (AE e_c A0 (Aw f_d AL) rfl (AE e_c A0 (Aw f_d AL) rfl (AE e_c A0 (Aw f_d AL) rfl (AE e_c A0 (Aw f_d AL) rfl (AE e_c A0 (Aw f_d AL) rfl (AE e_c A0 (Aw f_d AL) rfl (AE e_c A0 (Aw f_d AL) rfl (AE e_c A0 (Aw f_d AL) rfl Eg)))))))))))))))))))))))))))))))))))))))))))) ?_
 refine Ab (e_t eh) (Aa (Ae (AI ?_)))
 subst hr
 exact A7 (AG eh AH) (AN K0 v_d) (Ay hwf) h
def CS (p0 : (List ByteArray)) (p1 : ByteArray) (q0 : Int → Option Int) (v2 : Int) : Option Int :=
 (bif (decide (v2 < (p0.length : Int))) then ((Dd p0 v2).bind fun v3 => (bif (decide (p1 = v3)) then some v2 else q0 (IntKind.wrap .i64 (v2 + (1 : Int))))) else some (-1))
def Ba (p0 : (List ByteArray)) (p1 : ByteArray) : Nat → Int → Option Int
 | 0, _ => none
 | m + 1, v2 => CS p0 p1 (Ba p0 p1 m) v2
def Dm (n : Nat) (p0 : (List ByteArray)) (p1 : ByteArray) : Option Int :=
 (Ba p0 p1 n (0 : Int))
set_option maxRecDepth 100000 in
set_option maxHeartbeats 4000000 in
theorem KR (n : Nat) (p0 : (List ByteArray)) (p1 : ByteArray) {r : Int} (hr : Dm n p0 p1 = some r) {K : PV → List Content → Prop} (h : K (.d (.int .i64 r)) st) : Av PR ET [(.d (.sl (List.map rS p0))), (.d (.str p1))] st K := by
 refine Av.of KV (Nat.le_of_ble_eq_true rfl) fun hwf => ?_
 rw [Ed]
 refine AQ ?_
 unfold Hd
 rw [Dm] at hr
 refine Al (Af ?_)
 unfold Gi
 refine Ab e_c (Aa (Ae (Al (Al (Af ?_)))))
 unfold Gk
 refine Ab (e_t (em rfl eh)) ?_
 refine Bh (row := rS) (AP (e_t eh) Bt) ?_
 refine Ab e_c (Aa (Ae ?_))
 refine AT ?_
 refine BX (fun m f st' => ∃ (v2 : Int), Ba p0 p1 m v2 = some r ∧ f 0 = (.d (.sl (List.map rS p0))) ∧ f 1 = (.d (.str p1)) ∧ f 7 = (.d (.int .i64 (p0.length : Int))) ∧ f 8 = (.d (.int .i64 v2)) ∧ st' = st ++ []) n (Ghost.refl _) ⟨(0 : Int), hr, (Ad rfl eh), (Ad rfl (em rfl eh)), (em rfl eh), eh, rfl⟩ ?_
 rintro m f st' ⟨v2, hr, h0, h1, h7, h8, rfl⟩
 cases m with
 | zero => cases hr
 | succ m_0 =>
   rw [Ba] at hr
   generalize hrec_0 : Ba p0 p1 m_0 = q0 at hr
   rw [CS] at hr
   unfold Gl
   refine Al (Af ?_)
   unfold Gt
   refine As (e_t h8) (e_t h7) (CM ?_)
   refine Aa (Ae (Al ?_))
   refine AC (e_t eh) hr (fun hr => ?_) (fun hr => ?_)
   rotate_left
   · refine CG ?_
     refine AW ?_
     refine AW ?_
     refine DF ?_
     refine Ae (Al (Af ?_))
     unfold Gm
     refine Ab e_c (Aa (Ae (AI ?_)))
     cases hr
     exact A7 (AG eh AH) (AN AF v_d) (Ay hwf) h
   refine AO (Ae (Al ?_))
   refine AT ?_
   refine Al (Af ?_)
   unfold Gs
   refine Ab (e_t (em rfl h8)) (Ab (e_t eh) (Aa (Ae (Al (Af ?_)))))
   unfold Gp
   refine Ab (e_t (Ac rfl (em rfl h1))) (Ab (e_t (Ad rfl h0)) (Ab (e_t (Ac rfl eh)) ?_))
   refine Br (row := rS) (AP (e_t (em rfl eh)) Bt) (e_t eh) hr (fun _ => rfl) (fun _ => rfl) (fun v3 hr => ?_)
   refine BI (e_t eh) (by exact rfl) ?_
   refine As (e_t (Ad rfl eh)) (e_t eh) (Dg ?_)
   refine Aa (Ae ?_)
   refine AC (e_t eh) hr (fun hr => ?_) (fun hr => ?_)
   rotate_left
   · refine AO ?_
     refine BB ?_
     refine Ae (Af ?_)
     unfold Gr
     refine As (e_t (Ak rfl (em rfl h8))) e_c (BU ?_)
     refine Ab (e_t eh) (Aa (Ae ?_))
     exact ⟨m_0, _, Nat.lt_succ_self m_0, Ghost.refl _, (IntKind.wrap .i64 (v2 + (1 : Int))), (by rw [hrec_0]; exact hr), (Ak rfl (Ac rfl (em rfl h0))), (Ak rfl (Ac rfl (em rfl h1))), (Ak rfl (Ac rfl (em rfl h7))), eh, rfl⟩
   refine Al (Af ?_)
   unfold Gn
   refine Ab (e_t (Ad rfl (Ac rfl eh))) (Ab (e_t eh) (Aa (Ae (AI ?_))))
   refine BH ?_
   refine AA (AA ?_)
   refine BH ?_
   refine AA ?_
   cases hr
   exact A7 (AG eh AH) (AN AF v_d) (Ay hwf) h
def BR (n : Nat) (p0 : (List ByteArray)) (p1 : ByteArray) : Option Bool :=
 ((Dm n p0 p1).bind fun v2 => some (decide ((0 : Int) ≤ v2)))
set_option maxRecDepth 100000 in
set_option maxHeartbeats 4000000 in
theorem Gj (n : Nat) (p0 : (List ByteArray)) (p1 : ByteArray) {r : Bool} (hr : BR n p0 p1 = some r) {K : PV → List Content → Prop} (h : K (.d (.bool r)) st) : Av PR CX [(.d (.sl (List.map rS p0))), (.d (.str p1))] st K := by
 refine Av.of JZ (Nat.le_of_ble_eq_true rfl) fun hwf => ?_
 rw [Ed]
 refine AQ ?_
 unfold Gu
 rw [BR] at hr
 refine Al (Af ?_)
 unfold Fz
 refine Ab e_c (Aa (Ae (Al (Af ?_))))
 unfold FC
 refine Ab (e_t (em rfl eh)) (Ab (e_t (Ac rfl (em rfl eh))) ?_)
 obtain ⟨v2, hc_v2, hr⟩ := bind_some hr
 refine AJ (Ar (e_t (em rfl eh)) AF (Ar (e_t eh) AF AM)) ?_
 refine KR n p0 p1 hc_v2 ?_
 refine As (e_t eh) e_c (Ei ?_)
 refine Ab (e_t eh) (Aa (Ae (AI ?_)))
 cases hr
 exact A7 (AG eh AH) (AN AF v_d) (Ay hwf) h
def GI (n : Nat) (p0 : ByteArray) : Option Bool :=
 ((BR n (Hf) p0).bind fun v1 => some v1)
set_option maxRecDepth 100000 in
set_option maxHeartbeats 4000000 in
theorem Au5 (n : Nat) (p0 : ByteArray) {r : Bool} (hr : GI n p0 = some r) {K : PV → List Content → Prop} (h : K (.d (.bool r)) st) : Av PR Q8 [(.d (.str p0))] st K := by
 refine Av.of Av8 (Nat.le_of_ble_eq_true rfl) fun hwf => ?_
 rw [B5]
 refine AQ ?_
 unfold X6
 rw [GI] at hr
 refine Al (Af ?_)
 unfold RI
 refine Ab e_c (Aa (Ae (Al (Af ?_))))
 unfold QI
 refine AJ AM ?_
 refine AQ5 rfl ?_
 refine Ab (e_t (Ac rfl eh)) ?_
 obtain ⟨v1, hc_v1, hr⟩ := bind_some hr
 refine AJ (Ar (e_t (em rfl eh)) AF (Ar (e_t eh) AF AM)) ?_
 refine Gj n (Hf) p0 hc_v1 ?_
 refine Ab (e_t eh) (Aa (Ae (AI ?_)))
 cases hr
 exact A7 (AG eh AH) (AN AF v_d) (Ay hwf) h
def Gw (n : Nat) (p0 : (List ByteArray)) : Option Bool :=
 ((GB n p0).bind fun v1 => (bif v1 then ((BT n p0 (fun (a0 : ByteArray) => GI n a0)).bind fun v2 => some (!v2)) else some false))
set_option maxRecDepth 100000 in
set_option maxHeartbeats 4000000 in
theorem La (n : Nat) (p0 : (List ByteArray)) {r : Bool} (hr : Gw n p0 = some r) {K : PV → List Content → Prop} (h : K (.d (.bool r)) st) : Av PR JK [(.d (.sl (List.map rS p0)))] st K := by
 refine Av.of AS5 (Nat.le_of_ble_eq_true rfl) fun hwf => ?_
 rw [B5]
 refine AQ ?_
 unfold AH1
 rw [Gw] at hr
 refine Al (Af ?_)
 unfold ZW
 refine Ab e_c (Aa (Ae (Al (Af ?_))))
 unfold Zq
 refine Bn ?_
 unfold Uw
 refine Ab (e_t (em rfl eh)) ?_
 obtain ⟨v1, hc_v1, hr⟩ := bind_some hr
 refine AJ (Ar (e_t eh) AF AM) ?_
 refine YU n p0 hc_v1 ?_
 refine Ab (e_t eh) ?_
 refine Au eh hr (fun hr => ?_) (fun hr => ?_)
 rotate_left
 · refine Ag eh (Ag (em rfl eh) (Ag (Ac rfl eh) (Ao (e_t (Ac rfl (em rfl eh))) e_c (Aa ?_))))
   unfold O7
   refine Ab (e_t eh) (Aa (Ae (AI ?_)))
   cases hr
   exact A7 (AG eh AH) (AN AF v_d) (Ay hwf) h
 refine Ai eh (Ab (e_t (Ad rfl (em rfl eh))) (Ai (em rfl eh) ?_))
 obtain ⟨v2, hc_v2, hr⟩ := bind_some hr
 refine AJ (Ar (e_t eh) AF (Ar e_c K7 AM)) ?_
 refine Ir n p0 (fun (a0 : ByteArray) => GI n a0) (fun a0 {_} hr {_ _} hk => Au5 n a0 hr hk) (fun _ => rfl) hc_v2 ?_
 refine Ai (Ac rfl eh) (C2 (e_t eh) (An (e_t (Ac rfl (em rfl eh))) (e_t eh) (Aa ?_)))
 unfold O7
 refine Ab (e_t eh) (Aa (Ae (AI ?_)))
 cases hr
 exact A7 (AG eh AH) (AN AF v_d) (Ay hwf) h
def I3 (v14 : Bool) : Option Bool :=
 some v14
def Ja (p0 : TP) (n : Nat) (v2 : (List ByteArray)) (v12 : Bool) : Option Bool :=
 (bif v12 then some false else (bif (!decide (p0.From = (⟨#[]⟩ : ByteArray))) then ((Gw n ([p0.From])).bind fun v13 => (bif v13 then (bif (decide ((v2.length : Int) = (0 : Int))) then (I3 (decide (p0.At = (⟨#[]⟩ : ByteArray)))) else (I3 false)) else (I3 false))) else (bif (decide (p0.At = (⟨#[]⟩ : ByteArray))) then some true else ((BR n v2 p0.At).bind fun v15 => some v15))))
def I1 (p0 : TP) (n : Nat) (v2 : (List ByteArray)) (v11 : Bool) : Option Bool :=
 (bif v11 then (Ja p0 n v2 true) else (Ja p0 n v2 (!(C9 p0.Fuel (1 : Int) (2000 : Int)))))
def I9 (p0 : TP) (n : Nat) (v2 : (List ByteArray)) (v9 : Bool) : Option Bool :=
 (bif v9 then (I1 p0 n v2 true) else ((Nc v2).bind fun v10 => (I1 p0 n v2 (!v10))))
def GO (p0 : TP) (n : Nat) (v2 : (List ByteArray)) (v7 : Bool) : Option Bool :=
 (bif v7 then (I9 p0 n v2 true) else ((Gw n v2).bind fun v8 => (I9 p0 n v2 (!v8))))
def Lc (p0 : TP) (n : Nat) (q0 : (List ByteArray) → Int → Option Bool) (v2 : (List ByteArray)) (v3 : Int) : Option Bool :=
 (bif (decide (v3 < (p0.Params.length : Int))) then ((Dd p0.Params v3).bind fun v4 => (bif (!(C9 v4.Kind (1 : Int) (3 : Int))) then some false else ((Ib 16 v2 ([v4.Name])).bind fun v5 => q0 v5 (IntKind.wrap .i64 (v3 + (1 : Int)))))) else ((Gw n ([p0.Name])).bind fun v6 => (bif (!v6) then (GO p0 n v2 true) else (GO p0 n v2 (decide ((8 : Int) < (v2.length : Int)))))))
def Fp (p0 : TP) (n : Nat) : Nat → (List ByteArray) → Int → Option Bool
 | 0, _, _ => none
 | m + 1, v2, v3 => Lc p0 n (Fp p0 n m) v2 v3
def OC (n : Nat) (p0 : TP) : Option Bool :=
 (Fp p0 n n ([]) (0 : Int))
set_option maxRecDepth 100000 in
set_option maxHeartbeats 4000000 in
theorem AL5 (n : Nat) (p0 : TP) {r : Bool} (hr : OC n p0 = some r) {K : PV → List Content → Prop} (h : K (.d (.bool r)) st) : Av PR Y8 [(.agg [(.d (.str p0.Name)), (.d (.str p0.From)), (.d (.str p0.At)), (.d (.int .i64 p0.Fuel)), (.d (.sl (List.map T_api_Column.row p0.Params))), (.d (.sl (List.map TS.row p0.Body)))])] st K := by
 refine Av.of AK6 (Nat.le_of_ble_eq_true rfl) fun hwf => ?_
 rw [B5]
 refine AQ ?_
 unfold Az8
 rw [OC] at hr
 refine Al (Af ?_)
 unfold X2
 refine Gq (k := 0) rfl rfl (e_t eh) Bf (by exact rfl) ?_
 refine Ab e_c (Aa (Ae (Al (Af ?_))))
 unfold Xu
 refine Ab e_c (Aa (Ae (Al (Al (Af ?_)))))
 unfold W9
 refine AB (e_t (Ac rfl eh)) (by exact rfl) ?_
 refine Ap (e_t eh) ((Am rfl 0).trans rfl) (by exact rfl) ?_
 refine Bh (row := T_api_Column.row) (AP (e_t eh) Bt) ?_
 refine Ab e_c (Aa (Ae ?_))
 refine AT ?_
 refine BX (fun m f st' => ∃ (v2 : (List ByteArray)), ∃ (v3 : Int), ∃ (w1 : Nat), Fp p0 n m v2 v3 = some r ∧ f 1 = (.ptr (st.length + 0) 0) ∧ f 3 = (.own (st.length + 1) w1) ∧ f 7 = (.d (.sl (List.map T_api_Column.row p0.Params))) ∧ f 8 = (.d (.int .i64 (p0.Params.length : Int))) ∧ f 9 = (.d (.int .i64 v3)) ∧ st' = st ++ [(.box [(.d (.str p0.Name)), (.d (.str p0.From)), (.d (.str p0.At)), (.d (.int .i64 p0.Fuel)), (.d (.sl (List.map T_api_Column.row p0.Params))), (.d (.sl (List.map TS.row p0.Body)))]), (.row AD w1 (List.map rS v2))]) n (AP2 (k := 1) 3 (List.map rS ([])) AD 1 rfl rfl (Ad rfl eh) rfl (J9 (fun _ => rfl))) ⟨[], (0 : Int), 0, hr, (Ad rfl (Ac rfl (em rfl eh))), eh, (Ac rfl (em rfl eh)), (Ac rfl eh), (em rfl eh), rfl⟩ ?_
 rintro m f st' ⟨v2, v3, w1, hr, h1, h3, h7, h8, h9, rfl⟩
 cases m with
 | zero => cases hr
 | succ m_0 =>
   rw [Fp] at hr
   generalize hrec_0 : Fp p0 n m_0 = q0 at hr
   rw [Lc] at hr
   unfold Xa
   refine Al (Af ?_)
   unfold Wy
   refine As (e_t h9) (e_t h8) (CM ?_)
   refine Aa (Ae (Al ?_))
   refine AC (e_t eh) hr (fun hr => ?_) (fun hr => ?_)
   · refine AO (Ae (Al ?_))
     refine AT ?_
     refine Al (Af ?_)
     unfold W2
     refine Br (row := T_api_Column.row) (AP (e_t (em rfl h7)) Bt) (e_t (em rfl h9)) hr T_api_Column.row_eq (fun _ => rfl) (fun v4 hr => ?_)
     refine Dc (e_t eh) (Nat.le_of_ble_eq_true rfl) (by exact rfl) ?_
     refine Cn (k := 2) rfl rfl ?_
     refine Bl (e_t eh) ((Am rfl 2).trans rfl) (e_t (em rfl eh)) Bf rfl (Nat.le_of_ble_eq_true rfl) (by exact rfl) (cells' := [(.d (.str v4.Name)), (.d (.int .i64 v4.Kind))]) (by exact rfl) (Bo rfl _ _) ?_
     refine Aa (Ae (Al (Al (Af ?_))))
     unfold WO
     refine AB (e_t eh) (by exact rfl) ?_
     refine Ap (e_t eh) ((Am rfl 2).trans rfl) (by exact rfl) ?_
     refine AJ (Ar (e_t eh) AF (Ar e_c AF (Ar e_c AF AM))) ?_
     refine OV v4.Kind (1 : Int) (3 : Int) rfl ?_
     refine C2 (e_t eh) (Aa (Ae ?_))
     refine AC (e_t eh) hr (fun hr => ?_) (fun hr => ?_)
     · refine Al (Af ?_)
       unfold Xr
       refine Ab e_c (Aa (Ae (AI (AA ?_))))
       refine BH ?_
       refine AA (AA ?_)
       refine BH ?_
       refine AA ?_
       cases hr
       exact A7 (AG eh AH) (AN AF v_d) (Ay hwf) h
     refine AO (Ae (Af ?_))
     unfold XZ
     refine Ab (e_t (Ad rfl (Ad rfl h3))) ?_
     refine AB (e_t (Ad rfl (em rfl eh))) (by exact rfl) ?_
     refine Ap (e_t eh) ((Am rfl 2).trans rfl) (by exact rfl) ?_
     refine Db (rows := List.map rS [v4.Name]) ((AE (e_t eh) A0 (Aw f_d AL) rfl Eg)) ?_
     refine Hp (row := rS) (AP (e_t eh) K1) (fun _ => rfl) (fun _ => rfl) (e_t (Ac rfl (em rfl eh))) ((Am rfl 1).trans rfl) (fun _ => (Bo rfl _ _)) hr (fun v5 hr => ?_)
     refine Ab (e_t eh) (Aa ?_)
     refine BB ?_
     refine Ae (Af ?_)
     unfold Xd
     refine As (e_t (Ak rfl (Ad rfl (Ac rfl h9)))) e_c (BU ?_)
     refine Ab (e_t eh) (Aa (Ae ?_))
     exact ⟨m_0, _, Nat.lt_succ_self m_0, Ghost.cut _ (st.length + 2) (Nat.le_add_right _ _), v5, (IntKind.wrap .i64 (v3 + (1 : Int))), (w1 + 1), (by rw [hrec_0]; exact hr), ((congrArg (cutV _) (Ak rfl (Ad rfl (Ad rfl h1)))).trans (by simp [cutV, AK])), ((congrArg (cutV _) (Ac rfl eh)).trans (by simp [cutV, AK])), ((congrArg (cutV _) (Ak rfl (Ad rfl (Ad rfl h7)))).trans (v_d)), ((congrArg (cutV _) (Ak rfl (Ad rfl (Ad rfl h8)))).trans (v_d)), ((congrArg (cutV _) eh).trans (v_d)), (EN (l0 := [(.box [(.d (.str p0.Name)), (.d (.str p0.From)), (.d (.str p0.At)), (.d (.int .i64 p0.Fuel)), (.d (.sl (List.map T_api_Column.row p0.Params))), (.d (.sl (List.map TS.row p0.Body)))]), (.row AD (w1 + 1) (List.map rS v5))]) (l1 := _) hwf rfl rfl rfl)⟩
   refine CG ?_
   refine AW ?_
   refine AW ?_
   refine DF ?_
   refine Ae (Al ?_)
   refine By (fun f st' => ∃ (v12 : Bool), Ja p0 n v2 v12 = some r ∧ f 1 = (.ptr (st.length + 0) 0) ∧ f 3 = (.own (st.length + 1) w1) ∧ f 48 = (.d (.bool v12)) ∧ st' = st ++ [(.box [(.d (.str p0.Name)), (.d (.str p0.From)), (.d (.str p0.At)), (.d (.int .i64 p0.Fuel)), (.d (.sl (List.map T_api_Column.row p0.Params))), (.d (.sl (List.map TS.row p0.Body)))]), (.row AD w1 (List.map rS v2))]) ?_ ?_
   · refine Af ?_
     unfold Vg
     refine A1 (fun f st' => ∃ (v7 : Bool), GO p0 n v2 v7 = some r ∧ f 1 = (.ptr (st.length + 0) 0) ∧ f 3 = (.own (st.length + 1) w1) ∧ f 32 = (.d (.bool v7)) ∧ st' = st ++ [(.box [(.d (.str p0.Name)), (.d (.str p0.From)), (.d (.str p0.At)), (.d (.int .i64 p0.Fuel)), (.d (.sl (List.map T_api_Column.row p0.Params))), (.d (.sl (List.map TS.row p0.Body)))]), (.row AD w1 (List.map rS v2))]) ?_ ?_
     · unfold QL
       refine AB (e_t (em rfl h1)) (by exact rfl) ?_
       refine Ap (e_t eh) ((Am rfl 0).trans rfl) (by exact rfl) ?_
       refine Db (rows := List.map rS [p0.Name]) ((AE (e_t eh) A0 (Aw f_d AL) rfl Eg)) ?_
       obtain ⟨v6, hc_v6, hr⟩ := bind_some hr
       refine AJ (Ar (e_t eh) K0 AM) ?_
       refine La n ([p0.Name]) hc_v6 ?_
       refine C2 (e_t eh) (Ab (e_t eh) ?_)
       refine Au eh hr (fun hr => ?_) (fun hr => ?_)
       · refine Ag eh (Ag (em rfl eh) (Ag (Ac rfl eh) (An (e_t (Ac rfl (em rfl eh))) e_c (Aa ?_))))
         exact ⟨true, hr, (Ak rfl (Ad rfl h1)), (Ak rfl (Ad rfl h3)), eh, rfl⟩
       refine Ai eh (Ab (e_t (Ad rfl (Ad rfl h3))) (Ai (em rfl eh) ?_))
       refine Bh (row := rS) (AP (e_t eh) (IS ((Am rfl 1).trans rfl))) ?_
       refine Ai (Ac rfl eh) ?_
       refine As (e_t eh) e_c (C8 ?_)
       refine Ao (e_t (Ac rfl (em rfl eh))) (e_t eh) (Aa ?_)
       exact ⟨(decide ((8 : Int) < (v2.length : Int))), hr, (Ak rfl (Ad rfl h1)), (Ak rfl (Ad rfl h3)), eh, rfl⟩
     rintro f st' ⟨v7, hr, h1, h3, h32, rfl⟩
     rw [GO] at hr
     refine A1 (fun f st' => ∃ (v9 : Bool), I9 p0 n v2 v9 = some r ∧ f 1 = (.ptr (st.length + 0) 0) ∧ f 3 = (.own (st.length + 1) w1) ∧ f 37 = (.d (.bool v9)) ∧ st' = st ++ [(.box [(.d (.str p0.Name)), (.d (.str p0.From)), (.d (.str p0.At)), (.d (.int .i64 p0.Fuel)), (.d (.sl (List.map T_api_Column.row p0.Params))), (.d (.sl (List.map TS.row p0.Body)))]), (.row AD w1 (List.map rS v2))]) ?_ ?_
     · unfold Rn
       refine Ab (e_t h32) ?_
       refine Au eh hr (fun hr => ?_) (fun hr => ?_)
       · refine Ag eh (Ag (em rfl eh) (Ag (Ac rfl eh) (An (e_t (Ac rfl (em rfl eh))) e_c (Aa ?_))))
         exact ⟨true, hr, (Ad rfl (Ac rfl h1)), (Ad rfl (Ac rfl h3)), eh, rfl⟩
       refine Ai eh (Ab (e_t (Ac rfl h3)) (Ai (em rfl eh) ?_))
       obtain ⟨v8, hc_v8, hr⟩ := bind_some hr
       refine AJ (Ar (e_t eh) (Z7 ((Am rfl 1).trans rfl)) AM) ?_
       refine La n v2 hc_v8 ?_
       refine Ai (Ac rfl eh) (C2 (e_t eh) (Ao (e_t (Ac rfl (em rfl eh))) (e_t eh) (Aa ?_)))
       exact ⟨(!v8), hr, (Ad rfl (Ac rfl h1)), (Ad rfl (Ac rfl h3)), eh, rfl⟩
     rintro f st' ⟨v9, hr, h1, h3, h37, rfl⟩
     rw [I9] at hr
     refine A1 (fun f st' => ∃ (v11 : Bool), I1 p0 n v2 v11 = some r ∧ f 1 = (.ptr (st.length + 0) 0) ∧ f 3 = (.own (st.length + 1) w1) ∧ f 42 = (.d (.bool v11)) ∧ st' = st ++ [(.box [(.d (.str p0.Name)), (.d (.str p0.From)), (.d (.str p0.At)), (.d (.int .i64 p0.Fuel)), (.d (.sl (List.map T_api_Column.row p0.Params))), (.d (.sl (List.map TS.row p0.Body)))]), (.row AD w1 (List.map rS v2))]) ?_ ?_
     · unfold Rf
       refine Ab (e_t h37) ?_
       refine Au eh hr (fun hr => ?_) (fun hr => ?_)
       · refine Ag eh (Ag (em rfl eh) (Ag (Ac rfl eh) (An (e_t (Ac rfl (em rfl eh))) e_c (Aa ?_))))
         exact ⟨true, hr, (Ad rfl (Ac rfl h1)), (Ad rfl (Ac rfl h3)), eh, rfl⟩
       refine Ai eh (Ab (e_t (Ac rfl h3)) (Ai (em rfl eh) ?_))
       obtain ⟨v10, hc_v10, hr⟩ := bind_some hr
       refine AJ (Ar (e_t eh) (Z7 ((Am rfl 1).trans rfl)) AM) ?_
       refine Aj7 v2 hc_v10 ?_
       refine Ai (Ac rfl eh) (C2 (e_t eh) (Ao (e_t (Ac rfl (em rfl eh))) (e_t eh) (Aa ?_)))
       exact ⟨(!v10), hr, (Ad rfl (Ac rfl h1)), (Ad rfl (Ac rfl h3)), eh, rfl⟩
     rintro f st' ⟨v11, hr, h1, h3, h42, rfl⟩
     rw [I1] at hr
     unfold QX
     refine Ab (e_t h42) ?_
     refine Au eh hr (fun hr => ?_) (fun hr => ?_)
     · refine Ag eh (Ag (em rfl eh) (Ag (Ac rfl eh) (Ag (Ac rfl (em rfl eh)) (An (e_t (Ad rfl eh)) e_c (Aa ?_)))))
       refine Ae ?_
       exact ⟨true, hr, (Ad rfl (Ac rfl (em rfl h1))), (Ad rfl (Ac rfl (em rfl h3))), eh, rfl⟩
     refine Ai eh ?_
     refine AB (e_t (Ac rfl h1)) (by exact rfl) ?_
     refine Ai (em rfl eh) ?_
     refine Ap (e_t eh) ((Am rfl 0).trans rfl) (by exact rfl) ?_
     refine Ai (Ac rfl eh) ?_
     refine AJ (Ar (e_t eh) AF (Ar e_c AF (Ar e_c AF AM))) ?_
     refine OV p0.Fuel (1 : Int) (2000 : Int) rfl ?_
     refine Ai (Ac rfl (em rfl eh)) (C2 (e_t eh) (Ao (e_t (Ad rfl eh)) (e_t eh) (Aa (Ae ?_))))
     exact ⟨(!(C9 p0.Fuel (1 : Int) (2000 : Int))), hr, (Ad rfl (Ac rfl (em rfl h1))), (Ad rfl (Ac rfl (em rfl h3))), eh, rfl⟩
   rintro f st' ⟨v12, hr, h1, h3, h48, rfl⟩
   rw [Ja] at hr
   refine AC (e_t h48) hr (fun hr => ?_) (fun hr => ?_)
   · refine Al (Af ?_)
     unfold TH
     refine Ab e_c (Aa (Ae (AI (AA ?_))))
     cases hr
     exact A7 (AG eh AH) (AN AF v_d) (Ay hwf) h
   refine AO (Ae (Al (Al (Af ?_))))
   unfold UN
   refine AB (e_t h1) (by exact rfl) ?_
   refine Ap (e_t eh) ((Am rfl 0).trans rfl) (by exact rfl) ?_
   refine As (e_t eh) e_c (MD ?_)
   refine Aa (Ae ?_)
   refine AC (e_t eh) hr (fun hr => ?_) (fun hr => ?_)
   rotate_left
   · refine AO (Ae (Al (Af ?_)))
     unfold UY
     refine Bn ?_
     unfold Re
     refine AB (e_t (Ac rfl (em rfl h1))) (by exact rfl) ?_
     refine Ap (e_t eh) ((Am rfl 0).trans rfl) (by exact rfl) ?_
     refine As (e_t eh) e_c (Dg ?_)
     refine Ab (e_t eh) ?_
     refine Au eh hr (fun hr => ?_) (fun hr => ?_)
     · refine Ag eh (Ag (em rfl eh) (Ag (Ac rfl eh) (Ag (Ac rfl (em rfl eh)) (An (e_t (Ad rfl eh)) e_c (Aa ?_)))))
       unfold LC
       refine Ab (e_t eh) (Aa (Ae (AI ?_)))
       cases hr
       exact A7 (AG eh AH) (AN AF v_d) (Ay hwf) h
     refine Ai eh (Ab (e_t (Ad rfl (Ad rfl h3))) (Ai (em rfl eh) ?_))
     refine AB (e_t (Ak rfl (em rfl h1))) (by exact rfl) ?_
     refine Ai (Ac rfl eh) ?_
     refine Ap (e_t eh) ((Am rfl 0).trans rfl) (by exact rfl) ?_
     refine Ai (Ac rfl (em rfl eh)) ?_
     obtain ⟨v15, hc_v15, hr⟩ := bind_some hr
     refine AJ (Ar (e_t (Ac rfl eh)) (Z7 ((Am rfl 1).trans rfl)) (Ar (e_t eh) AF AM)) ?_
     refine Gj n v2 p0.At hc_v15 ?_
     refine Ao (e_t (Ad rfl eh)) (e_t eh) (Aa ?_)
     unfold LC
     refine Ab (e_t eh) (Aa (Ae (AI ?_)))
     cases hr
     exact A7 (AG eh AH) (AN AF v_d) (Ay hwf) h
   refine By (fun f st' => ∃ (v14 : Bool), I3 v14 = some r ∧ f 2 = (.d (.bool v14)) ∧ st' = st ++ [(.box [(.d (.str p0.Name)), (.d (.str p0.From)), (.d (.str p0.At)), (.d (.int .i64 p0.Fuel)), (.d (.sl (List.map T_api_Column.row p0.Params))), (.d (.sl (List.map TS.row p0.Body)))]), (.row AD w1 (List.map rS v2))]) ?_ ?_
   rotate_left
   · rintro f st' ⟨v14, hr, h2, rfl⟩
     rw [I3] at hr
     refine AI (AA ?_)
     cases hr
     exact A7 (AG h2 AH) (AN AF v_d) (Ay hwf) h
   refine Af ?_
   unfold V2
   refine Bn ?_
   unfold Qv
   refine AB (e_t (Ac rfl (em rfl h1))) (by exact rfl) ?_
   refine Ap (e_t eh) ((Am rfl 0).trans rfl) (by exact rfl) ?_
   refine Db (rows := List.map rS [p0.From]) ((AE (e_t eh) A0 (Aw f_d AL) rfl Eg)) ?_
   obtain ⟨v13, hc_v13, hr⟩ := bind_some hr
   refine AJ (Ar (e_t eh) K0 AM) ?_
   refine La n ([p0.From]) hc_v13 ?_
   refine Ab (e_t eh) ?_
   refine Au eh hr (fun hr => ?_) (fun hr => ?_)
   rotate_left
   · refine Ag eh (Ag (em rfl eh) (Ag (Ac rfl eh) (Ao (e_t (Ac rfl (em rfl eh))) e_c (Aa ?_))))
     refine Bn ?_
     unfold Lz
     refine Ab (e_t eh) (Ag eh (Ag (em rfl eh) (Ag (Ac rfl eh) (Ao (e_t (Ac rfl (em rfl eh))) e_c (Aa ?_)))))
     unfold Jr
     refine Ab (e_t eh) (Aa (Ae ?_))
     exact ⟨false, hr, eh, rfl⟩
   refine Ai eh (Ab (e_t (Ak rfl (em rfl h3))) (Ai (em rfl eh) ?_))
   refine Bh (row := rS) (AP (e_t eh) (IS ((Am rfl 1).trans rfl))) ?_
   refine Ai (Ac rfl eh) ?_
   refine As (e_t eh) e_c (BK ?_)
   refine An (e_t (Ac rfl (em rfl eh))) (e_t eh) (Aa ?_)
   refine Bn ?_
   unfold Lz
   refine Ab (e_t eh) ?_
   refine Au eh hr (fun hr => ?_) (fun hr => ?_)
   rotate_left
   · refine Ag eh (Ag (em rfl eh) (Ag (Ac rfl eh) (Ao (e_t (Ac rfl (em rfl eh))) e_c (Aa ?_))))
     unfold Jr
     refine Ab (e_t eh) (Aa (Ae ?_))
     exact ⟨false, hr, eh, rfl⟩
   refine Ai eh ?_
   refine AB (e_t (Ak rfl (Ad rfl (Ac rfl (em rfl h1))))) (by exact rfl) ?_
   refine Ai (em rfl eh) ?_
   refine Ap (e_t eh) ((Am rfl 0).trans rfl) (by exact rfl) ?_
   refine Ai (Ac rfl eh) ?_
   refine As (e_t eh) e_c (Dg ?_)
   refine An (e_t (Ac rfl (em rfl eh))) (e_t eh) (Aa ?_)
   unfold Jr
   refine Ab (e_t eh) (Aa (Ae ?_))
   exact ⟨(decide (p0.At = (⟨#[]⟩ : ByteArray))), hr, eh, rfl⟩
def Hn (p0 : T_Ssize) : Bool :=
 (bif (decide (p0.nodes ≤ (300 : Int))) then (decide (p0.depth ≤ (12 : Int))) else false)
set_option maxRecDepth 100000 in
set_option maxHeartbeats 4000000 in
theorem Ag4 (p0 : T_Ssize) {r : Bool} (hr : Hn p0 = r) {x0 : Nat} (hx_x0 : st[x0]? = some (.box [(.d (.int .i64 p0.nodes)), (.d (.int .i64 p0.depth))])) {K : PV → List Content → Prop} (h : K (.d (.bool r)) st) : Av PR Nx [(.ptr x0 0)] st K := by
 refine Av.of Af0 (Nat.le_of_ble_eq_true rfl) fun hwf => ?_
 rw [B5]
 refine AQ ?_
 unfold SD
 rw [Hn] at hr
 refine Al (Af ?_)
 unfold OR
 refine Ab e_c (Aa (Ae (Al (Af ?_))))
 unfold Oo
 refine Bn ?_
 unfold Mr
 refine Ab (e_t (em rfl eh)) ?_
 refine Ny (e_t eh) ?_
 refine AB (e_t eh) (by exact rfl) ?_
 refine Ap (e_t eh) (GL hx_x0) (by exact rfl) ?_
 refine As (e_t eh) e_c (JI ?_)
 refine Ab (e_t eh) ?_
 refine Au eh hr (fun hr => ?_) (fun hr => ?_)
 rotate_left
 · refine Ag eh (Ag (em rfl eh) (Ag (Ac rfl eh) (Ag (Ac rfl (em rfl eh)) (Ag (Ad rfl eh) (Ao (e_t (Ad rfl (em rfl eh))) e_c ?_)))))
   refine Aa ?_
   unfold IN
   refine Ab (e_t eh) (Aa (Ae (AI ?_)))
   subst hr
   exact A7 (AG eh AH) (AN AF v_d) (Ay hwf) h
 refine Ai eh (Ab (e_t (Ad rfl (Ad rfl eh))) (Ai (em rfl eh) ?_))
 refine Ny (e_t eh) ?_
 refine Ai (Ac rfl eh) ?_
 refine AB (e_t eh) (by exact rfl) ?_
 refine Ai (Ac rfl (em rfl eh)) ?_
 refine Ap (e_t eh) (GL hx_x0) (by exact rfl) ?_
 refine Ai (Ad rfl eh) ?_
 refine As (e_t eh) e_c (JI ?_)
 refine An (e_t (Ad rfl (em rfl eh))) (e_t eh) (Aa ?_)
 unfold IN
 refine Ab (e_t eh) (Aa (Ae (AI ?_)))
 subst hr
 exact A7 (AG eh AH) (AN AF v_d) (Ay hwf) h
end Go.Ax
