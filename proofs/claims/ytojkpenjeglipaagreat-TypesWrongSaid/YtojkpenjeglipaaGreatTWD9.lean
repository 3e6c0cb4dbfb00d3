import Derived.Test.YtojkpenjeglipaaGreatTWT
import Derived.Test.YtojkpenjeglipaaGreatTCVX
import Derived.Test.YtojkpenjeglipaaGreatTCPrim
import Derived.Test.YtojkpenjeglipaaGreatTWD8
set_option linter.unusedVariables false
set_option maxRecDepth 100000
set_option maxHeartbeats 4000000
namespace Go.Ax
attribute [local irreducible] BH FA F2 Bf DM Hp Cq V4 Lz upd ev u0 Dh frz A4 EO mmD bnd Ch Gk DU C2 Ie JH FZ cutV NL CO
variable {st : List Content}
def Hd (p0 : (List ByteArray)) (n : Nat) (q0 : Int → Option Bool) (v1 : Int) : Option Bool :=
 (bif (decide (v1 < (p0.length : Int))) then ((Dw p0 v1).bind fun v2 => ((Gz n v2).bind fun v3 => (bif (!v3) then some false else q0 (IntKind.wrap .i64 (v1 + (1 : Int)))))) else some true)
def Ck (p0 : (List ByteArray)) (n : Nat) : Nat → Int → Option Bool
 | 0, _ => none
 | m + 1, v1 => Hd p0 n (Ck p0 n m) v1
def GB (n : Nat) (p0 : (List ByteArray)) : Option Bool :=
 (Ck p0 n n (0 : Int))
theorem Bg4 (n : Nat) (p0 : (List ByteArray)) {r : Bool} (hr : GB n p0 = some r) {K : PV → List Content → Prop} (h : K (.d (.bool r)) st) : Aw PR Lh [(.d (.sl (List.map rS p0)))] st K := by
 refine Aw.of Ai8 (Nat.le_of_ble_eq_true rfl) fun hwf => ?_
 rw [CE]
 refine AS ?_
 unfold Se
 rw [GB] at hr
 refine Al (Af ?_)
 unfold Um
 refine Ab e_c (Aa (Ae (Al (Al (Af ?_)))))
 unfold TN
 refine Ab (e_t (em rfl eh)) ?_
 refine Bc (row := rS) (AN (e_t eh) Bo) ?_
 refine Ab e_c (Aa (Ae ?_))
 refine A3 ?_
 refine Cy (fun m f st' => ∃ (v1 : Int), Ck p0 n m v1 = some r ∧ f 5 = (.d (.sl (List.map rS p0))) ∧ f 6 = (.d (.int .i64 (p0.length : Int))) ∧ f 7 = (.d (.int .i64 v1)) ∧ st' = st ++ []) n (Ghost.refl _) ⟨(0 : Int), hr, (Ac rfl eh), (em rfl eh), eh, rfl⟩ ?_
 rintro m f st' ⟨v1, hr, h5, h6, h7, rfl⟩
 cases m with
 | zero => cases hr
 | succ m_0 =>
   rw [Ck] at hr
   generalize hrec_0 : Ck p0 n m_0 = q0 at hr
   rw [Hd] at hr
   unfold TV
   refine Al (Af ?_)
   unfold TJ
   refine Ap (e_t h7) (e_t h6) (Da ?_)
   refine Aa (Ae (Al ?_))
   refine AB (e_t eh) hr (fun hr => ?_) (fun hr => ?_)
   rotate_left
   · refine Dj ?_
     refine A8 ?_
     refine A8 ?_
     refine Fo ?_
     refine Ae (Al (Af ?_))
     unfold Uf
     refine Ab e_c (Aa (Ae (AH ?_)))
     cases hr
     exact A5 (AE eh AG) (AK AF v_d) (As hwf) h
   refine AM (Ae (Al ?_))
   refine A3 ?_
   refine Al (Af ?_)
   unfold T1
   refine Bt (row := rS) (AN (e_t (em rfl h5)) Bo) (e_t (em rfl h7)) hr (fun _ => rfl) (fun _ => rfl) (fun v2 hr => ?_)
   refine BF (e_t eh) (by rfl) ?_
   refine Ab (e_t eh) (Aa (Ae (Al (Af ?_))))
   unfold Ug
   refine Ab (e_t eh) ?_
   obtain ⟨v3, hc_v3, hr⟩ := bind_some hr
   refine AY (Az (e_t eh) AF A1) ?_
   refine Bh0 n v2 hc_v3 ?_
   refine CN (e_t eh) (Aa (Ae ?_))
   refine AB (e_t eh) hr (fun hr => ?_) (fun hr => ?_)
   rotate_left
   · refine AM ?_
     refine BQ ?_
     refine Ae (Af ?_)
     unfold TR
     refine Ap (e_t (Ad rfl (Ac rfl (em rfl h7)))) e_c (B4 ?_)
     refine Ab (e_t eh) (Aa (Ae ?_))
     exact ⟨m_0, _, Nat.lt_succ_self m_0, Ghost.refl _, (IntKind.wrap .i64 (v1 + (1 : Int))), (by rw [hrec_0]; exact hr), (Ak rfl (em rfl h5)), (Ak rfl (em rfl h6)), eh, rfl⟩
   refine Al (Af ?_)
   unfold TM
   refine Ab e_c (Aa (Ae (AH ?_)))
   refine Bw ?_
   refine Ay (Ay ?_)
   refine Bw ?_
   refine Ay ?_
   cases hr
   exact A5 (AE eh AG) (AK AF v_d) (As hwf) h
def Cc (p0 : (List ByteArray)) (fn1 : ByteArray → Option Bool) (q0 : Int → Option Int) (v1 : Int) : Option Int :=
 (bif (decide (v1 < (p0.length : Int))) then ((Dw p0 v1).bind fun v2 => ((fn1 v2).bind fun v3 => (bif v3 then some v1 else q0 (IntKind.wrap .i64 (v1 + (1 : Int)))))) else some (-1))
def AW (p0 : (List ByteArray)) (fn1 : ByteArray → Option Bool) : Nat → Int → Option Int
 | 0, _ => none
 | m + 1, v1 => Cc p0 fn1 (AW p0 fn1 m) v1
def BW (n : Nat) (p0 : (List ByteArray)) (fn1 : ByteArray → Option Bool) : Option Int :=
 (AW p0 fn1 n (0 : Int))
theorem La (n : Nat) (p0 : (List ByteArray)) (fn1 : ByteArray → Option Bool) {g_fn1 : FuncId} {p_fn1 q_fn1 : List PV} (H_fn1 : ∀ (a0 : ByteArray) {r : Bool}, fn1 a0 = some r → ∀ {st : List Content} {K : PV → List Content → Prop}, K (.d (.bool r)) st → Aw PR g_fn1 (p_fn1 ++ [(.d (.str a0))] ++ q_fn1) st K) (B_fn1 : ∀ n, (AP.belowL n p_fn1 && AP.belowL n q_fn1) = true) {r : Int} (hr : BW n p0 fn1 = some r) {K : PV → List Content → Prop} (h : K (.d (.int .i64 r)) st) : Aw PR CM [(.d (.sl (List.map rS p0))), (.fn g_fn1 p_fn1 q_fn1)] st K := by
 refine Aw.of FV (Nat.le_of_ble_eq_true rfl) fun hwf => ?_
 rw [ED]
 refine AS ?_
 unfold Dx
 rw [BW] at hr
 refine Al (Af ?_)
 unfold Fi
 refine Ab e_c (Aa (Ae (Al (Al (Af ?_)))))
 unfold Fq
 refine Ab (e_t (em rfl eh)) ?_
 refine Bc (row := rS) (AN (e_t eh) Bo) ?_
 refine Ab e_c (Aa (Ae ?_))
 refine A3 ?_
 refine Cy (fun m f st' => ∃ (v1 : Int), AW p0 fn1 m v1 = some r ∧ f 0 = (.d (.sl (List.map rS p0))) ∧ f 1 = (.fn g_fn1 p_fn1 q_fn1) ∧ f 7 = (.d (.int .i64 (p0.length : Int))) ∧ f 8 = (.d (.int .i64 v1)) ∧ st' = st ++ []) n (Ghost.refl _) ⟨(0 : Int), hr, (Ad rfl eh), (Ad rfl (em rfl eh)), (em rfl eh), eh, rfl⟩ ?_
 rintro m f st' ⟨v1, hr, h0, h1, h7, h8, rfl⟩
 cases m with
 | zero => cases hr
 | succ m_0 =>
   rw [AW] at hr
   generalize hrec_0 : AW p0 fn1 m_0 = q0 at hr
   rw [Cc] at hr
   unfold Ff
   refine Al (Af ?_)
   unfold Fr
   refine Ap (e_t h8) (e_t h7) (Da ?_)
   refine Aa (Ae (Al ?_))
   refine AB (e_t eh) hr (fun hr => ?_) (fun hr => ?_)
   rotate_left
   · refine Dj ?_
     refine A8 ?_
     refine A8 ?_
     refine Fo ?_
     refine Ae (Al (Af ?_))
     unfold Fp
     refine Ab e_c (Aa (Ae (AH ?_)))
     cases hr
     exact A5 (AE eh AG) (AK AF v_d) (As hwf) h
   refine AM (Ae (Al ?_))
   refine A3 ?_
   refine Al (Af ?_)
   unfold Fg
   refine Ab (e_t (em rfl h8)) (Ab (e_t eh) (Aa (Ae (Al (Af ?_)))))
   unfold Fb
   refine Ab (e_t (Ac rfl (em rfl h1))) (Ab (e_t (Ad rfl h0)) (Ab (e_t (Ac rfl eh)) ?_))
   refine Bt (row := rS) (AN (e_t (em rfl eh)) Bo) (e_t eh) hr (fun _ => rfl) (fun _ => rfl) (fun v2 hr => ?_)
   refine BF (e_t eh) (by rfl) ?_
   obtain ⟨v3, hc_v3, hr⟩ := bind_some hr
   refine BG3 (e_t (Ad rfl eh)) (Az (e_t eh) AF A1) rfl ?_
   refine H_fn1 v2 hc_v3 ?_
   refine Aa (Ae ?_)
   refine AB (e_t eh) hr (fun hr => ?_) (fun hr => ?_)
   rotate_left
   · refine AM ?_
     refine BQ ?_
     refine Ae (Af ?_)
     unfold E6
     refine Ap (e_t (Ak rfl (em rfl h8))) e_c (B4 ?_)
     refine Ab (e_t eh) (Aa (Ae ?_))
     exact ⟨m_0, _, Nat.lt_succ_self m_0, Ghost.refl _, (IntKind.wrap .i64 (v1 + (1 : Int))), (by rw [hrec_0]; exact hr), (Ak rfl (Ac rfl (em rfl h0))), (Ak rfl (Ac rfl (em rfl h1))), (Ak rfl (Ac rfl (em rfl h7))), eh, rfl⟩
   refine Al (Af ?_)
   unfold Fd
   refine Ab (e_t (Ad rfl (Ac rfl eh))) (Ab (e_t eh) (Aa (Ae (AH ?_))))
   refine Bw ?_
   refine Ay (Ay ?_)
   refine Bw ?_
   refine Ay ?_
   cases hr
   exact A5 (AE eh AG) (AK AF v_d) (As hwf) h
def BN (n : Nat) (p0 : (List ByteArray)) (fn1 : ByteArray → Option Bool) : Option Bool :=
 ((BW n p0 fn1).bind fun v1 => some (decide ((0 : Int) ≤ v1)))
theorem JF (n : Nat) (p0 : (List ByteArray)) (fn1 : ByteArray → Option Bool) {g_fn1 : FuncId} {p_fn1 q_fn1 : List PV} (H_fn1 : ∀ (a0 : ByteArray) {r : Bool}, fn1 a0 = some r → ∀ {st : List Content} {K : PV → List Content → Prop}, K (.d (.bool r)) st → Aw PR g_fn1 (p_fn1 ++ [(.d (.str a0))] ++ q_fn1) st K) (B_fn1 : ∀ n, (AP.belowL n p_fn1 && AP.belowL n q_fn1) = true) {r : Bool} (hr : BN n p0 fn1 = some r) {K : PV → List Content → Prop} (h : K (.d (.bool r)) st) : Aw PR Cm [(.d (.sl (List.map rS p0))), (.fn g_fn1 p_fn1 q_fn1)] st K := by
 refine Aw.of Fj (Nat.le_of_ble_eq_true rfl) fun hwf => ?_
 rw [ED]
 refine AS ?_
 unfold Dn
 rw [BN] at hr
 refine Al (Af ?_)
 unfold EG
 refine Ab e_c (Aa (Ae (Al (Af ?_))))
 unfold EJ
 refine Ab (e_t (em rfl eh)) (Ab (e_t (Ac rfl (em rfl eh))) ?_)
 obtain ⟨v1, hc_v1, hr⟩ := bind_some hr
 refine AY (Az (e_t (em rfl eh)) AF (Az (e_t eh) Y3 A1)) ?_
 refine La n p0 fn1 H_fn1 B_fn1 hc_v1 ?_
 refine Ap (e_t eh) e_c (E5 ?_)
 refine Ab (e_t eh) (Aa (Ae (AH ?_)))
 cases hr
 exact A5 (AE eh AG) (AK AF v_d) (As hwf) h
def Hq  : (List ByteArray) :=
 [(⟨#[97, 110, 100]⟩ : ByteArray), (⟨#[111, 114]⟩ : ByteArray), (⟨#[110, 111, 116]⟩ : ByteArray), (⟨#[116, 114, 117, 101]⟩ : ByteArray), (⟨#[102, 97, 108, 115, 101]⟩ : ByteArray), (⟨#[108, 101, 116]⟩ : ByteArray), (⟨#[115, 101, 116]⟩ : ByteArray), (⟨#[105, 110, 115, 101, 114, 116]⟩ : ByteArray), (⟨#[117, 112, 100, 97, 116, 101]⟩ : ByteArray), (⟨#[100, 101, 108, 101, 116, 101]⟩ : ByteArray), (⟨#[102, 111, 114]⟩ : ByteArray), (⟨#[105, 110]⟩ : ByteArray), (⟨#[119, 104, 101, 114, 101]⟩ : ByteArray), (⟨#[108, 105, 109, 105, 116]⟩ : ByteArray), (⟨#[105, 102]⟩ : ByteArray), (⟨#[101, 108, 115, 101]⟩ : ByteArray), (⟨#[101, 109, 105, 116]⟩ : ByteArray), (⟨#[97, 98, 111, 114, 116]⟩ : ByteArray), (⟨#[114, 101, 112, 108, 121]⟩ : ByteArray), (⟨#[99, 111, 117, 110, 116]⟩ : ByteArray), (⟨#[115, 117, 109]⟩ : ByteArray), (⟨#[109, 105, 110]⟩ : ByteArray), (⟨#[109, 97, 120]⟩ : ByteArray), (⟨#[105, 110, 116]⟩ : ByteArray), (⟨#[116, 101, 120, 116]⟩ : ByteArray), (⟨#[98, 111, 111, 108]⟩ : ByteArray), (⟨#[116, 97, 98, 108, 101]⟩ : ByteArray), (⟨#[115, 116, 114, 101, 97, 109]⟩ : ByteArray), (⟨#[119, 105, 110, 100, 111, 119]⟩ : ByteArray), (⟨#[115, 105, 110, 107]⟩ : ByteArray), (⟨#[112, 114, 111, 99]⟩ : ByteArray), (⟨#[107, 101, 121]⟩ : ByteArray), (⟨#[117, 110, 105, 113, 117, 101]⟩ : ByteArray), (⟨#[105, 110, 100, 101, 120]⟩ : ByteArray), (⟨#[112, 97, 114, 116, 115]⟩ : ByteArray), (⟨#[98, 121]⟩ : ByteArray), (⟨#[111, 110]⟩ : ByteArray), (⟨#[102, 114, 111, 109]⟩ : ByteArray), (⟨#[97, 116]⟩ : ByteArray), (⟨#[102, 117, 101, 108]⟩ : ByteArray), (⟨#[116, 117, 112, 108, 101, 115]⟩ : ByteArray), (⟨#[98, 97, 116, 99, 104, 101, 115]⟩ : ByteArray), (⟨#[115, 108, 105, 100, 101]⟩ : ByteArray)]
theorem BZ6  {r : (List ByteArray)} (hr : Hq = r) {K : PV → List Content → Prop} (h : K (.d (.sl (List.map rS r))) st) : Aw PR AD8 [] st K := by
 refine Aw.of BA4 (Nat.le_of_ble_eq_true rfl) fun hwf => ?_
 rw [Cd3]
 refine AS ?_
 unfold Bk2
 rw [Hq] at hr
 refine Al (Af ?_)
 unfold AT0
 refine Ab e_c (Aa (Ae (Al (Af ?_))))
 unfold AV7
 refine DW (rows := List.map rS [(⟨#[97, 110, 100]⟩ : ByteArray), (⟨#[111, 114]⟩ : ByteArray), (⟨#[110, 111, 116]⟩ : ByteArray), (⟨#[116, 114, 117, 101]⟩ : ByteArray), (⟨#[102, 97, 108, 115, 101]⟩ : ByteArray), (⟨#[108, 101, 116]⟩ : ByteArray), (⟨#[115, 101, 116]⟩ : ByteArray), (⟨#[105, 110, 115, 101, 114, 116]⟩ : ByteArray), (⟨#[117, 112, 100, 97, 116, 101]⟩ : ByteArray), (⟨#[100, 101, 108, 101, 116, 101]⟩ : ByteArray), (⟨#[102, 111, 114]⟩ : ByteArray), (⟨#[105, 110]⟩ : ByteArray), (⟨#[119, 104, 101, 114, 101]⟩ : ByteArray), (⟨#[108, 105, 109, 105, 116]⟩ : ByteArray), (⟨#[105, 102]⟩ : ByteArray), (⟨#[101, 108, 115, 101]⟩ : ByteArray), (⟨#[101, 109, 105, 116]⟩ : ByteArray), (⟨#[97, 98, 111, 114, 116]⟩ : ByteArray), (⟨#[114, 101, 112, 108, 121]⟩ : ByteArray), (⟨#[99, 111, 117, 110, 116]⟩ : ByteArray), (⟨#[115, 117, 109]⟩ : ByteArray), (⟨#[109, 105, 110]⟩ : ByteArray), (⟨#[109, 97, 120]⟩ : ByteArray), (⟨#[105, 110, 116]⟩ : ByteArray), (⟨#[116, 101, 120, 116]⟩ : ByteArray), (⟨#[98, 111, 111, 108]⟩ : ByteArray), (⟨#[116, 97, 98, 108, 101]⟩ : ByteArray), (⟨#[115, 116, 114, 101, 97, 109]⟩ : ByteArray), (⟨#[119, 105, 110, 100, 111, 119]⟩ : ByteArray), (⟨#[115, 105, 110, 107]⟩ : ByteArray), (⟨#[112, 114, 111, 99]⟩ : ByteArray), (⟨#[107, 101, 121]⟩ : ByteArray), (⟨#[117, 110, 105, 113, 117, 101]⟩ : ByteArray), (⟨#[105, 110, 100, 101, 120]⟩ : ByteArray), (⟨#[112, 97, 114, 116, 115]⟩ : ByteArray), (⟨#[98, 121]⟩ : ByteArray), (⟨#[111, 110]⟩ : ByteArray), (⟨#[102, 114, 111, 109]⟩ : ByteArray), (⟨#[97, 116]⟩ : ByteArray), (⟨#[102, 117, 101, 108]⟩ : ByteArray), (⟨#[116, 117, 112, 108, 101, 115]⟩ : ByteArray), (⟨#[98, 97, 116, 99, 104, 101, 115]⟩ : ByteArray), (⟨#[115, 108, 105, 100, 101]⟩ : ByteArray)]) ((AC e_c A2 (Au f_d AJ) rfl (AC e_c A2 (Au f_d AJ) rfl (AC e_c A2 (Au f_d AJ) rfl (AC e_c A2 (Au f_d AJ) rfl (AC e_c A2 (Au f_d AJ) rfl (AC e_c A2 (Au f_d AJ) rfl (AC e_c A2 (Au f_d AJ) rfl (AC e_c A2 (Au f_d AJ) rfl (AC e_c A2 (Au f_d AJ) rfl (AC e_c A2 (Au f_d AJ) rfl (AC e_c A2 (Au f_d AJ) rfl (AC e_c A2 (Au f_d AJ) rfl (AC e_c A2 (Au f_d AJ) rfl (AC e_c A2 (Au f_d AJ) rfl (AC e_c A2 (Au f_d AJ) rfl (AC e_c A2 (Au f_d AJ) rfl (AC e_c A2 (Au f_d AJ) rfl (AC e_c A2 (Au f_d AJ) rfl (AC e_c A2 (Au f_d AJ) rfl (AC e_c A2 (Au f_d AJ) rfl (AC e_c A2 (Au f_d AJ) rfl (AC e_c A2 (Au f_d AJ) rfl (AC e_c A2 (Au f_d AJ) rfl (AC e_c A2 (Au f_d AJ) rfl (AC e_c A2 (Au f_d AJ) rfl (AC e_c A2 (Au f_d AJ) rfl (AC e_c A2 (Au f_d AJ) rfl (AC e_c A2 (Au f_d AJ) rfl (AC e_c A2 (Au f_d AJ) rfl (AC e_c A2 (Au f_d AJ) rfl (AC e_c A2 (Au f_d AJ) rfl (AC e_c A2 (Au f_d AJ) rfl (AC e_c A2 (Au f_d AJ) rfl (AC e_c A2 (Au f_d AJ) rfl (AC e_c A2 (Au f_d AJ) rfl (AC e_c A2 (Au f_d AJ) rfl (AC e_c A2 (Au f_d AJ) rfl (AC e_c A2 (Au f_d AJ) rfl (AC e_c A2 (Au f_d AJ) rfl (AC e_c A2 (Au f_d AJ) rfl (AC e_c A2 (Au f_d AJ) rfl (AC e_c A2 (Au f_d AJ) rfl (AC e_c A2 (Au f_d AJ) rfl FJ)))))))))))))))))))))))))))))))))))))))))))) ?_
 refine Ab (e_t eh) (Aa (Ae (AH ?_)))
 subst hr
 exact A5 (AE eh AG) (AK AU8 v_d) (As hwf) h
def CQ (p0 : (List ByteArray)) (p1 : ByteArray) (q0 : Int → Option Int) (v2 : Int) : Option Int :=
 (bif (decide (v2 < (p0.length : Int))) then ((Dw p0 v2).bind fun v3 => (bif (decide (p1 = v3)) then some v2 else q0 (IntKind.wrap .i64 (v2 + (1 : Int))))) else some (-1))
def A9 (p0 : (List ByteArray)) (p1 : ByteArray) : Nat → Int → Option Int
 | 0, _ => none
 | m + 1, v2 => CQ p0 p1 (A9 p0 p1 m) v2
def Dr (n : Nat) (p0 : (List ByteArray)) (p1 : ByteArray) : Option Int :=
 (A9 p0 p1 n (0 : Int))
theorem Pa (n : Nat) (p0 : (List ByteArray)) (p1 : ByteArray) {r : Int} (hr : Dr n p0 p1 = some r) {K : PV → List Content → Prop} (h : K (.d (.int .i64 r)) st) : Aw PR Dq [(.d (.sl (List.map rS p0))), (.d (.str p1))] st K := by
 refine Aw.of Hr (Nat.le_of_ble_eq_true rfl) fun hwf => ?_
 rw [ED]
 refine AS ?_
 unfold EW
 rw [Dr] at hr
 refine Al (Af ?_)
 unfold Gg
 refine Ab e_c (Aa (Ae (Al (Al (Af ?_)))))
 unfold Gf
 refine Ab (e_t (em rfl eh)) ?_
 refine Bc (row := rS) (AN (e_t eh) Bo) ?_
 refine Ab e_c (Aa (Ae ?_))
 refine A3 ?_
 refine Cy (fun m f st' => ∃ (v2 : Int), A9 p0 p1 m v2 = some r ∧ f 0 = (.d (.sl (List.map rS p0))) ∧ f 1 = (.d (.str p1)) ∧ f 7 = (.d (.int .i64 (p0.length : Int))) ∧ f 8 = (.d (.int .i64 v2)) ∧ st' = st ++ []) n (Ghost.refl _) ⟨(0 : Int), hr, (Ad rfl eh), (Ad rfl (em rfl eh)), (em rfl eh), eh, rfl⟩ ?_
 rintro m f st' ⟨v2, hr, h0, h1, h7, h8, rfl⟩
 cases m with
 | zero => cases hr
 | succ m_0 =>
   rw [A9] at hr
   generalize hrec_0 : A9 p0 p1 m_0 = q0 at hr
   rw [CQ] at hr
   unfold Gj
   refine Al (Af ?_)
   unfold Ge
   refine Ap (e_t h8) (e_t h7) (Da ?_)
   refine Aa (Ae (Al ?_))
   refine AB (e_t eh) hr (fun hr => ?_) (fun hr => ?_)
   rotate_left
   · refine Dj ?_
     refine A8 ?_
     refine A8 ?_
     refine Fo ?_
     refine Ae (Al (Af ?_))
     unfold Gl
     refine Ab e_c (Aa (Ae (AH ?_)))
     cases hr
     exact A5 (AE eh AG) (AK AF v_d) (As hwf) h
   refine AM (Ae (Al ?_))
   refine A3 ?_
   refine Al (Af ?_)
   unfold Gm
   refine Ab (e_t (em rfl h8)) (Ab (e_t eh) (Aa (Ae (Al (Af ?_)))))
   unfold Gd
   refine Ab (e_t (Ac rfl (em rfl h1))) (Ab (e_t (Ad rfl h0)) (Ab (e_t (Ac rfl eh)) ?_))
   refine Bt (row := rS) (AN (e_t (em rfl eh)) Bo) (e_t eh) hr (fun _ => rfl) (fun _ => rfl) (fun v3 hr => ?_)
   refine BF (e_t eh) (by rfl) ?_
   refine Ap (e_t (Ad rfl eh)) (e_t eh) (Do ?_)
   refine Aa (Ae ?_)
   refine AB (e_t eh) hr (fun hr => ?_) (fun hr => ?_)
   rotate_left
   · refine AM ?_
     refine BQ ?_
     refine Ae (Af ?_)
     unfold Gc
     refine Ap (e_t (Ak rfl (em rfl h8))) e_c (B4 ?_)
     refine Ab (e_t eh) (Aa (Ae ?_))
     exact ⟨m_0, _, Nat.lt_succ_self m_0, Ghost.refl _, (IntKind.wrap .i64 (v2 + (1 : Int))), (by rw [hrec_0]; exact hr), (Ak rfl (Ac rfl (em rfl h0))), (Ak rfl (Ac rfl (em rfl h1))), (Ak rfl (Ac rfl (em rfl h7))), eh, rfl⟩
   refine Al (Af ?_)
   unfold Gi
   refine Ab (e_t (Ad rfl (Ac rfl eh))) (Ab (e_t eh) (Aa (Ae (AH ?_))))
   refine Bw ?_
   refine Ay (Ay ?_)
   refine Bw ?_
   refine Ay ?_
   cases hr
   exact A5 (AE eh AG) (AK AF v_d) (As hwf) h
def BJ (n : Nat) (p0 : (List ByteArray)) (p1 : ByteArray) : Option Bool :=
 ((Dr n p0 p1).bind fun v2 => some (decide ((0 : Int) ≤ v2)))
theorem Gb (n : Nat) (p0 : (List ByteArray)) (p1 : ByteArray) {r : Bool} (hr : BJ n p0 p1 = some r) {K : PV → List Content → Prop} (h : K (.d (.bool r)) st) : Aw PR B5 [(.d (.sl (List.map rS p0))), (.d (.str p1))] st K := by
 refine Aw.of Gh (Nat.le_of_ble_eq_true rfl) fun hwf => ?_
 rw [ED]
 refine AS ?_
 unfold DT
 rw [BJ] at hr
 refine Al (Af ?_)
 unfold Fw
 refine Ab e_c (Aa (Ae (Al (Af ?_))))
 unfold Fu
 refine Ab (e_t (em rfl eh)) (Ab (e_t (Ac rfl (em rfl eh))) ?_)
 obtain ⟨v2, hc_v2, hr⟩ := bind_some hr
 refine AY (Az (e_t (em rfl eh)) AF (Az (e_t eh) AF A1)) ?_
 refine Pa n p0 p1 hc_v2 ?_
 refine Ap (e_t eh) e_c (E5 ?_)
 refine Ab (e_t eh) (Aa (Ae (AH ?_)))
 cases hr
 exact A5 (AE eh AG) (AK AF v_d) (As hwf) h
def GM (n : Nat) (p0 : ByteArray) : Option Bool :=
 ((BJ n (Hq) p0).bind fun v1 => some v1)
theorem BC8 (n : Nat) (p0 : ByteArray) {r : Bool} (hr : GM n p0 = some r) {K : PV → List Content → Prop} (h : K (.d (.bool r)) st) : Aw PR TL [(.d (.str p0))] st K := by
 refine Aw.of AS9 (Nat.le_of_ble_eq_true rfl) fun hwf => ?_
 rw [CE]
 refine AS ?_
 unfold Ah0
 rw [GM] at hr
 refine Al (Af ?_)
 unfold Ab7
 refine Ab e_c (Aa (Ae (Al (Af ?_))))
 unfold Ak3
 refine AY A1 ?_
 refine BZ6 rfl ?_
 refine Ab (e_t (Ac rfl eh)) ?_
 obtain ⟨v1, hc_v1, hr⟩ := bind_some hr
 refine AY (Az (e_t (em rfl eh)) AF (Az (e_t eh) AF A1)) ?_
 refine Gb n (Hq) p0 hc_v1 ?_
 refine Ab (e_t eh) (Aa (Ae (AH ?_)))
 cases hr
 exact A5 (AE eh AG) (AK AF v_d) (As hwf) h
def Gt (n : Nat) (p0 : (List ByteArray)) : Option Bool :=
 ((GB n p0).bind fun v1 => (bif v1 then ((BN n p0 (fun (a0 : ByteArray) => GM n a0)).bind fun v2 => some (!v2)) else some false))
theorem Ro (n : Nat) (p0 : (List ByteArray)) {r : Bool} (hr : Gt n p0 = some r) {K : PV → List Content → Prop} (h : K (.d (.bool r)) st) : Aw PR JK [(.d (.sl (List.map rS p0)))] st K := by
 refine Aw.of BN9 (Nat.le_of_ble_eq_true rfl) fun hwf => ?_
 rw [CE]
 refine AS ?_
 unfold Bx0
 rw [Gt] at hr
 refine Al (Af ?_)
 unfold Bl1
 refine Ab e_c (Aa (Ae (Al (Af ?_))))
 unfold Bl5
 refine Bh ?_
 unfold Ax6
 refine Ab (e_t (em rfl eh)) ?_
 obtain ⟨v1, hc_v1, hr⟩ := bind_some hr
 refine AY (Az (e_t eh) AF A1) ?_
 refine Bg4 n p0 hc_v1 ?_
 refine Ab (e_t eh) ?_
 refine Ar eh hr (fun hr => ?_) (fun hr => ?_)
 rotate_left
 · refine Ah eh (Ah (em rfl eh) (Ah (Ac rfl eh) (An (e_t (Ac rfl (em rfl eh))) e_c (Aa ?_))))
   unfold YB
   refine Ab (e_t eh) (Aa (Ae (AH ?_)))
   cases hr
   exact A5 (AE eh AG) (AK AF v_d) (As hwf) h
 refine Aj eh (Ab (e_t (Ad rfl (em rfl eh))) (Aj (em rfl eh) ?_))
 obtain ⟨v2, hc_v2, hr⟩ := bind_some hr
 refine AY (Az (e_t eh) AF (Az e_c Y3 A1)) ?_
 refine JF n p0 (fun (a0 : ByteArray) => GM n a0) (fun a0 {_} hr {_ _} hk => BC8 n a0 hr hk) (fun _ => rfl) hc_v2 ?_
 refine Aj (Ac rfl eh) (CN (e_t eh) (Am (e_t (Ac rfl (em rfl eh))) (e_t eh) (Aa ?_)))
 unfold YB
 refine Ab (e_t eh) (Aa (Ae (AH ?_)))
 cases hr
 exact A5 (AE eh AG) (AK AF v_d) (As hwf) h
end Go.Ax
