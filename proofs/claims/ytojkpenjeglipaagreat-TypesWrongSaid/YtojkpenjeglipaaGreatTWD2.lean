import Derived.Test.YtojkpenjeglipaaGreatTWT
import Derived.Test.YtojkpenjeglipaaGreatTCVX
import Derived.Test.YtojkpenjeglipaaGreatTCPrim
set_option linter.unusedVariables false
set_option maxRecDepth 100000
set_option maxHeartbeats 4000000
namespace Go.Ax
attribute [local irreducible] BH FA F2 Bf DM Hp Cq V4 Lz upd ev u0 Dh frz A4 EO mmD bnd Ch Gk DU C2 Ie JH FZ cutV NL CO
variable {st : List Content}
def DH (v2 : Int) (q0 : Int → Option Bool) (v3 : Int) (v4 : Bool) : Option Bool :=
 (bif (!v4) then (bif (decide (v2 = (0 : Int))) then some false else (bif (decide ((48 : Int) ≤ v3)) then (bif (!(decide (v3 ≤ (57 : Int)))) then (bif (!decide (v3 = (95 : Int))) then some false else q0 (IntKind.wrap .i64 (v2 + (1 : Int)))) else q0 (IntKind.wrap .i64 (v2 + (1 : Int)))) else (bif (!false) then (bif (!decide (v3 = (95 : Int))) then some false else q0 (IntKind.wrap .i64 (v2 + (1 : Int)))) else q0 (IntKind.wrap .i64 (v2 + (1 : Int)))))) else q0 (IntKind.wrap .i64 (v2 + (1 : Int))))
def EP (p0 : ByteArray) (q0 : Int → Option Bool) (v2 : Int) : Option Bool :=
 (bif (decide (v2 < (p0.size : Int))) then ((BF1 p0 v2).bind fun v3 => (bif (decide ((97 : Int) ≤ v3)) then (DH v2 q0 v3 (decide (v3 ≤ (122 : Int)))) else (DH v2 q0 v3 false))) else some true)
def Bx (p0 : ByteArray) : Nat → Int → Option Bool
 | 0, _ => none
 | m + 1, v2 => EP p0 (Bx p0 m) v2
def DA (p0 : ByteArray) (n : Nat) (v1 : Bool) : Option Bool :=
 (bif v1 then some false else (Bx p0 n (0 : Int)))
def DL (n : Nat) (p0 : ByteArray) : Option Bool :=
 (bif (decide ((p0.size : Int) < (1 : Int))) then (DA p0 n true) else (DA p0 n (decide ((16 : Int) < (p0.size : Int)))))
theorem Ao1 (n : Nat) (p0 : ByteArray) {r : Bool} (hr : DL n p0 = some r) {K : PV → List Content → Prop} (h : K (.d (.bool r)) st) : Aw PR E1 [(.d (.str p0))] st K := by
 refine Aw.of Qr (Nat.le_of_ble_eq_true rfl) fun hwf => ?_
 rw [CE]
 refine AS ?_
 unfold IZ
 rw [DL] at hr
 refine Al (Af ?_)
 unfold KZ
 refine Ab e_c (Aa (Ae (Al ?_)))
 refine BL (fun f st' => ∃ (v1 : Bool), DA p0 n v1 = some r ∧ f 0 = (.d (.str p0)) ∧ f 13 = (.d (.bool v1)) ∧ st' = st ++ []) ?_ ?_
 · refine Af ?_
   unfold KY
   refine Ab (e_t (em rfl eh)) ?_
   refine I2 (e_t eh) ?_
   refine Ap (e_t eh) e_c (Da ?_)
   refine Ab (e_t eh) ?_
   refine Ar eh hr (fun hr => ?_) (fun hr => ?_)
   · refine Ah eh (Ah (em rfl eh) (Ah (Ac rfl eh) (Am (e_t (Ac rfl (em rfl eh))) e_c (Aa (Ae ?_)))))
     exact ⟨true, hr, (Ak rfl (Ac rfl eh)), eh, rfl⟩
   refine Aj eh (Ab (e_t (Ad rfl (Ac rfl eh))) (Aj (em rfl eh) ?_))
   refine I2 (e_t eh) ?_
   refine Aj (Ac rfl eh) ?_
   refine Ap (e_t eh) e_c (B6 ?_)
   refine An (e_t (Ac rfl (em rfl eh))) (e_t eh) (Aa (Ae ?_))
   exact ⟨(decide ((16 : Int) < (p0.size : Int))), hr, (Ak rfl (Ac rfl eh)), eh, rfl⟩
 rintro f st' ⟨v1, hr, h0, h13, rfl⟩
 rw [DA] at hr
 refine AB (e_t h13) hr (fun hr => ?_) (fun hr => ?_)
 · refine Al (Af ?_)
   unfold Lj
   refine Ab e_c (Aa (Ae (AH (Ay ?_))))
   cases hr
   exact A5 (AE eh AG) (AK AF v_d) (As hwf) h
 refine AM (Ae (Al (Al (Af ?_))))
 unfold Lv
 refine Ab e_c (Aa (Ae ?_))
 refine A3 ?_
 refine Cy (fun m f st' => ∃ (v2 : Int), Bx p0 m v2 = some r ∧ f 0 = (.d (.str p0)) ∧ f 3 = (.d (.int .i64 v2)) ∧ st' = st ++ []) n (Ghost.refl _) ⟨(0 : Int), hr, (em rfl h0), eh, rfl⟩ ?_
 rintro m f st' ⟨v2, hr, h0, h3, rfl⟩
 cases m with
 | zero => cases hr
 | succ m_0 =>
   rw [Bx] at hr
   generalize hrec_0 : Bx p0 m_0 = q0 at hr
   rw [EP] at hr
   unfold Kl
   refine Al (Al (Af ?_))
   unfold Lx
   refine Ab (e_t h3) (Ab (e_t (em rfl h0)) ?_)
   refine I2 (e_t eh) ?_
   refine Ap (e_t (Ac rfl eh)) (e_t eh) (Da ?_)
   refine Aa (Ae ?_)
   refine AB (e_t eh) hr (fun hr => ?_) (fun hr => ?_)
   rotate_left
   · refine Dj ?_
     refine A8 ?_
     refine A8 ?_
     refine Fo ?_
     refine Ae (Al (Af ?_))
     unfold Kc
     refine Ab e_c (Aa (Ae (AH ?_)))
     cases hr
     exact A5 (AE eh AG) (AK AF v_d) (As hwf) h
   refine AM (Ae (Al ?_))
   refine A3 ?_
   refine Al (Af ?_)
   unfold Ld
   refine Ab (e_t (Ad rfl h0)) (Ab (e_t (Ad rfl (em rfl h3))) ?_)
   refine Bv3 (e_t (em rfl eh)) (e_t eh) hr (fun v3 hr => ?_)
   refine Ab (e_t eh) (Aa (Ae ?_))
   refine BL (fun f st' => ∃ (v4 : Bool), DH v2 q0 v3 v4 = some r ∧ f 0 = (.d (.str p0)) ∧ f 3 = (.d (.int .i64 v2)) ∧ f 4 = (.d (.int .u8 v3)) ∧ f 5 = (.d (.bool v4)) ∧ st' = st ++ []) ?_ ?_
   · refine Af ?_
     unfold KO
     refine Bh ?_
     unfold Js
     refine Ab (e_t eh) ?_
     refine Ap (e_t eh) e_c (E5 ?_)
     refine Ab (e_t eh) ?_
     refine Ar eh hr (fun hr => ?_) (fun hr => ?_)
     rotate_left
     · refine Ah eh (Ah (em rfl eh) (An (e_t (Ac rfl eh)) e_c (Aa ?_)))
       unfold F6
       refine Ab (e_t eh) (Aa (Ae ?_))
       exact ⟨false, hr, (Ak rfl (Ad rfl (Ad rfl h0))), (Ak rfl (Ad rfl (Ad rfl h3))), (Ad rfl (Ad rfl eh)), eh, rfl⟩
     refine Aj eh (Ab (e_t (Ad rfl eh)) (Aj (em rfl eh) ?_))
     refine Ap (e_t eh) e_c (M5 ?_)
     refine Am (e_t (Ac rfl eh)) (e_t eh) (Aa ?_)
     unfold F6
     refine Ab (e_t eh) (Aa (Ae ?_))
     exact ⟨(decide (v3 ≤ (122 : Int))), hr, (Ak rfl (Ad rfl (Ad rfl h0))), (Ak rfl (Ad rfl (Ad rfl h3))), (Ad rfl (Ad rfl eh)), eh, rfl⟩
   rintro f st' ⟨v4, hr, h0, h3, h4, h5, rfl⟩
   rw [DH] at hr
   refine Al (Af ?_)
   unfold KN
   refine Ab (e_t h5) (CN (e_t eh) (Ab (e_t eh) ?_))
   refine Ar eh hr (fun hr => ?_) (fun hr => ?_)
   rotate_left
   · refine Ah eh (Ah (em rfl eh) (Ah (Ac rfl eh) ?_))
     refine A6 eh ?_
     refine A6 (em rfl eh) ?_
     refine A6 (Ac rfl eh) ?_
     refine A6 eh ?_
     refine A6 (em rfl eh) ?_
     refine A6 (Ad rfl (em rfl eh)) ?_
     refine A6 (Ad rfl (Ac rfl eh)) ?_
     refine A6 (Ad rfl (Ac rfl (em rfl eh))) ?_
     refine A6 eh ?_
     refine A6 (em rfl eh) ?_
     refine A6 (Ak rfl (Ac rfl eh)) ?_
     refine Ah (Ak rfl (Ad rfl (Ac rfl eh))) (An (e_t (Ak rfl (Ad rfl (Ac rfl (em rfl eh))))) e_c (Aa (Ae ?_)))
     refine FO (e_t eh) ?_
     refine AM ?_
     refine BQ ?_
     refine Ae (Af ?_)
     unfold C4
     refine Ab (e_t (Ai rfl (Ad rfl h3))) ?_
     refine Ap (e_t eh) e_c (B4 ?_)
     refine Ab (e_t eh) (Aa (Ae ?_))
     exact ⟨m_0, _, Nat.lt_succ_self m_0, Ghost.refl _, (IntKind.wrap .i64 (v2 + (1 : Int))), (by rw [hrec_0]; exact hr), (Ai rfl (Ad rfl (Ac rfl (em rfl h0)))), eh, rfl⟩
   refine Aj eh (Ab (e_t (Ad rfl h3)) (Aj (em rfl eh) ?_))
   refine Ap (e_t eh) e_c (Ci ?_)
   refine Aj (Ac rfl eh) (Ab (e_t eh) ?_)
   refine Ar eh hr (fun hr => ?_) (fun hr => ?_)
   · refine Ah eh (Ah (em rfl eh) (Ah (Ac rfl eh) ?_))
     refine A6 eh ?_
     refine A6 (em rfl eh) ?_
     refine Ah (Ad rfl (em rfl eh)) (Ah (Ad rfl (Ac rfl eh)) (Ah (Ad rfl (Ac rfl (em rfl eh))) ?_))
     refine A6 eh ?_
     refine A6 (em rfl eh) ?_
     refine Ah (Ak rfl (Ac rfl eh)) (Aj (Ak rfl (Ad rfl (Ac rfl (em rfl eh)))) (Am (e_t (Ak rfl (Ac rfl (em rfl eh)))) e_c (Am (e_t (Ak rfl (Ad rfl (Ad rfl eh)))) (e_t eh) (Aa (Ae ?_)))))
     refine DC (e_t eh) ?_
     refine Al (Af ?_)
     unfold E3
     refine Ab e_c (Aa (Ae (AH ?_)))
     refine Bw ?_
     refine Ay (Ay ?_)
     refine Bw ?_
     refine Ay ?_
     cases hr
     exact A5 (AE eh AG) (AK AF v_d) (As hwf) h
   refine Aj eh (Ab (e_t (Ad rfl (Ad rfl h4))) (Aj (em rfl eh) ?_))
   refine Ap (e_t eh) e_c (E5 ?_)
   refine Aj (Ac rfl eh) (Ab (e_t eh) ?_)
   refine Ar eh hr (fun hr => ?_) (fun hr => ?_)
   rotate_left
   · refine Ah eh (Ah (em rfl eh) (Aj (Ad rfl (Ac rfl eh)) (An (e_t (Ac rfl eh)) e_c (Aj (Ad rfl (Ac rfl (em rfl eh))) (CN (e_t eh) ?_)))))
     refine Aj (Ad rfl (Ad rfl eh)) (Ab (e_t eh) ?_)
     refine Ar eh hr (fun hr => ?_) (fun hr => ?_)
     rotate_left
     · refine Ah eh (Ah (em rfl eh) (Aj (Ak rfl (Ad rfl eh)) (An (e_t (Ac rfl eh)) e_c (Aj (Ai rfl (em rfl eh)) (An (e_t (Ak rfl (Ad rfl (em rfl eh)))) (e_t eh) ?_)))))
       refine Am (e_t (Ai rfl (Ac rfl eh))) (e_t eh) (Aa (Ae ?_))
       refine FO (e_t eh) ?_
       refine AM ?_
       refine BQ ?_
       refine Ae (Af ?_)
       unfold C4
       refine Ab (e_t (Ai rfl (Ad rfl (Ac rfl (em rfl h3))))) ?_
       refine Ap (e_t eh) e_c (B4 ?_)
       refine Ab (e_t eh) (Aa (Ae ?_))
       exact ⟨m_0, _, Nat.lt_succ_self m_0, Ghost.refl _, (IntKind.wrap .i64 (v2 + (1 : Int))), (by rw [hrec_0]; exact hr), (Ai rfl (Ak rfl (Ac rfl h0))), eh, rfl⟩
     refine Aj eh (Ab (e_t (Ai rfl (Ac rfl h4))) (Aj (em rfl eh) ?_))
     refine Ap (e_t eh) e_c (Ad6 ?_)
     refine Aj (Ak rfl (Ad rfl eh)) (Am (e_t (Ac rfl eh)) (e_t eh) (Aj (Ai rfl (em rfl eh)) (An (e_t (Ak rfl (Ad rfl (em rfl eh)))) (e_t eh) (Am (e_t (Ai rfl (Ac rfl eh))) (e_t eh) (Aa ?_)))))
     refine Ae ?_
     refine AB (e_t eh) hr (fun hr => ?_) (fun hr => ?_)
     rotate_left
     · refine AM ?_
       refine BQ ?_
       refine Ae (Af ?_)
       unfold C4
       refine Ab (e_t (Ai rfl (Ad rfl (Ac rfl (em rfl h3))))) ?_
       refine Ap (e_t eh) e_c (B4 ?_)
       refine Ab (e_t eh) (Aa (Ae ?_))
       exact ⟨m_0, _, Nat.lt_succ_self m_0, Ghost.refl _, (IntKind.wrap .i64 (v2 + (1 : Int))), (by rw [hrec_0]; exact hr), (Ai rfl (Ak rfl (Ac rfl h0))), eh, rfl⟩
     refine Al (Af ?_)
     unfold E3
     refine Ab e_c (Aa (Ae (AH ?_)))
     refine Bw ?_
     refine Ay (Ay ?_)
     refine Bw ?_
     refine Ay ?_
     cases hr
     exact A5 (AE eh AG) (AK AF v_d) (As hwf) h
   refine Aj eh (Ab (e_t (Ak rfl (Ad rfl h4))) (Aj (em rfl eh) ?_))
   refine Ap (e_t eh) e_c (M5 ?_)
   refine Aj (Ad rfl (Ac rfl eh)) (Am (e_t (Ac rfl eh)) (e_t eh) (Aj (Ad rfl (Ac rfl (em rfl eh))) (CN (e_t eh) (Aj (Ad rfl (Ad rfl eh)) (Ab (e_t eh) ?_)))))
   refine Ar eh hr (fun hr => ?_) (fun hr => ?_)
   rotate_left
   · refine Ah eh (Ah (em rfl eh) (Aj (Ak rfl (Ad rfl eh)) (An (e_t (Ac rfl eh)) e_c (Aj (Ai rfl (em rfl eh)) (An (e_t (Ak rfl (Ad rfl (em rfl eh)))) (e_t eh) ?_)))))
     refine Am (e_t (Ai rfl (Ac rfl eh))) (e_t eh) (Aa (Ae ?_))
     refine FO (e_t eh) ?_
     refine AM ?_
     refine BQ ?_
     refine Ae (Af ?_)
     unfold C4
     refine Ab (e_t (Ai rfl (Ad rfl (Ac rfl (em rfl h3))))) ?_
     refine Ap (e_t eh) e_c (B4 ?_)
     refine Ab (e_t eh) (Aa (Ae ?_))
     exact ⟨m_0, _, Nat.lt_succ_self m_0, Ghost.refl _, (IntKind.wrap .i64 (v2 + (1 : Int))), (by rw [hrec_0]; exact hr), (Ai rfl (Ak rfl (Ac rfl h0))), eh, rfl⟩
   refine Aj eh (Ab (e_t (Ai rfl (Ac rfl h4))) (Aj (em rfl eh) ?_))
   refine Ap (e_t eh) e_c (Ad6 ?_)
   refine Aj (Ak rfl (Ad rfl eh)) (Am (e_t (Ac rfl eh)) (e_t eh) (Aj (Ai rfl (em rfl eh)) (An (e_t (Ak rfl (Ad rfl (em rfl eh)))) (e_t eh) (Am (e_t (Ai rfl (Ac rfl eh))) (e_t eh) (Aa ?_)))))
   refine Ae ?_
   refine AB (e_t eh) hr (fun hr => ?_) (fun hr => ?_)
   rotate_left
   · refine AM ?_
     refine BQ ?_
     refine Ae (Af ?_)
     unfold C4
     refine Ab (e_t (Ai rfl (Ad rfl (Ac rfl (em rfl h3))))) ?_
     refine Ap (e_t eh) e_c (B4 ?_)
     refine Ab (e_t eh) (Aa (Ae ?_))
     exact ⟨m_0, _, Nat.lt_succ_self m_0, Ghost.refl _, (IntKind.wrap .i64 (v2 + (1 : Int))), (by rw [hrec_0]; exact hr), (Ai rfl (Ak rfl (Ac rfl h0))), eh, rfl⟩
   refine Al (Af ?_)
   unfold E3
   refine Ab e_c (Aa (Ae (AH ?_)))
   refine Bw ?_
   refine Ay (Ay ?_)
   refine Bw ?_
   refine Ay ?_
   cases hr
   exact A5 (AE eh AG) (AK AF v_d) (As hwf) h
def JM (p0 : ByteArray) (q0 : Int → Option Bool) (v1 : Int) : Option Bool :=
 (bif (decide (v1 < (([(⟨#[97, 110, 100]⟩ : ByteArray), (⟨#[111, 114]⟩ : ByteArray), (⟨#[110, 111, 116]⟩ : ByteArray), (⟨#[116, 114, 117, 101]⟩ : ByteArray), (⟨#[102, 97, 108, 115, 101]⟩ : ByteArray), (⟨#[108, 101, 116]⟩ : ByteArray), (⟨#[115, 101, 116]⟩ : ByteArray), (⟨#[105, 110, 115, 101, 114, 116]⟩ : ByteArray), (⟨#[117, 112, 100, 97, 116, 101]⟩ : ByteArray), (⟨#[100, 101, 108, 101, 116, 101]⟩ : ByteArray), (⟨#[102, 111, 114]⟩ : ByteArray), (⟨#[105, 110]⟩ : ByteArray), (⟨#[119, 104, 101, 114, 101]⟩ : ByteArray), (⟨#[108, 105, 109, 105, 116]⟩ : ByteArray), (⟨#[105, 102]⟩ : ByteArray), (⟨#[101, 108, 115, 101]⟩ : ByteArray), (⟨#[101, 109, 105, 116]⟩ : ByteArray), (⟨#[97, 98, 111, 114, 116]⟩ : ByteArray), (⟨#[114, 101, 112, 108, 121]⟩ : ByteArray), (⟨#[99, 111, 117, 110, 116]⟩ : ByteArray), (⟨#[115, 117, 109]⟩ : ByteArray), (⟨#[109, 105, 110]⟩ : ByteArray), (⟨#[109, 97, 120]⟩ : ByteArray), (⟨#[105, 110, 116]⟩ : ByteArray), (⟨#[116, 101, 120, 116]⟩ : ByteArray), (⟨#[98, 111, 111, 108]⟩ : ByteArray), (⟨#[116, 97, 98, 108, 101]⟩ : ByteArray), (⟨#[115, 116, 114, 101, 97, 109]⟩ : ByteArray), (⟨#[119, 105, 110, 100, 111, 119]⟩ : ByteArray), (⟨#[115, 105, 110, 107]⟩ : ByteArray), (⟨#[112, 114, 111, 99]⟩ : ByteArray), (⟨#[107, 101, 121]⟩ : ByteArray), (⟨#[117, 110, 105, 113, 117, 101]⟩ : ByteArray), (⟨#[105, 110, 100, 101, 120]⟩ : ByteArray), (⟨#[112, 97, 114, 116, 115]⟩ : ByteArray), (⟨#[98, 121]⟩ : ByteArray), (⟨#[111, 110]⟩ : ByteArray), (⟨#[102, 114, 111, 109]⟩ : ByteArray), (⟨#[97, 116]⟩ : ByteArray), (⟨#[102, 117, 101, 108]⟩ : ByteArray), (⟨#[116, 117, 112, 108, 101, 115]⟩ : ByteArray), (⟨#[98, 97, 116, 99, 104, 101, 115]⟩ : ByteArray), (⟨#[115, 108, 105, 100, 101]⟩ : ByteArray)]).length : Int))) then ((Dw ([(⟨#[97, 110, 100]⟩ : ByteArray), (⟨#[111, 114]⟩ : ByteArray), (⟨#[110, 111, 116]⟩ : ByteArray), (⟨#[116, 114, 117, 101]⟩ : ByteArray), (⟨#[102, 97, 108, 115, 101]⟩ : ByteArray), (⟨#[108, 101, 116]⟩ : ByteArray), (⟨#[115, 101, 116]⟩ : ByteArray), (⟨#[105, 110, 115, 101, 114, 116]⟩ : ByteArray), (⟨#[117, 112, 100, 97, 116, 101]⟩ : ByteArray), (⟨#[100, 101, 108, 101, 116, 101]⟩ : ByteArray), (⟨#[102, 111, 114]⟩ : ByteArray), (⟨#[105, 110]⟩ : ByteArray), (⟨#[119, 104, 101, 114, 101]⟩ : ByteArray), (⟨#[108, 105, 109, 105, 116]⟩ : ByteArray), (⟨#[105, 102]⟩ : ByteArray), (⟨#[101, 108, 115, 101]⟩ : ByteArray), (⟨#[101, 109, 105, 116]⟩ : ByteArray), (⟨#[97, 98, 111, 114, 116]⟩ : ByteArray), (⟨#[114, 101, 112, 108, 121]⟩ : ByteArray), (⟨#[99, 111, 117, 110, 116]⟩ : ByteArray), (⟨#[115, 117, 109]⟩ : ByteArray), (⟨#[109, 105, 110]⟩ : ByteArray), (⟨#[109, 97, 120]⟩ : ByteArray), (⟨#[105, 110, 116]⟩ : ByteArray), (⟨#[116, 101, 120, 116]⟩ : ByteArray), (⟨#[98, 111, 111, 108]⟩ : ByteArray), (⟨#[116, 97, 98, 108, 101]⟩ : ByteArray), (⟨#[115, 116, 114, 101, 97, 109]⟩ : ByteArray), (⟨#[119, 105, 110, 100, 111, 119]⟩ : ByteArray), (⟨#[115, 105, 110, 107]⟩ : ByteArray), (⟨#[112, 114, 111, 99]⟩ : ByteArray), (⟨#[107, 101, 121]⟩ : ByteArray), (⟨#[117, 110, 105, 113, 117, 101]⟩ : ByteArray), (⟨#[105, 110, 100, 101, 120]⟩ : ByteArray), (⟨#[112, 97, 114, 116, 115]⟩ : ByteArray), (⟨#[98, 121]⟩ : ByteArray), (⟨#[111, 110]⟩ : ByteArray), (⟨#[102, 114, 111, 109]⟩ : ByteArray), (⟨#[97, 116]⟩ : ByteArray), (⟨#[102, 117, 101, 108]⟩ : ByteArray), (⟨#[116, 117, 112, 108, 101, 115]⟩ : ByteArray), (⟨#[98, 97, 116, 99, 104, 101, 115]⟩ : ByteArray), (⟨#[115, 108, 105, 100, 101]⟩ : ByteArray)]) v1).bind fun v2 => (bif (decide (v2 = p0)) then some true else q0 (IntKind.wrap .i64 (v1 + (1 : Int))))) else some false)
def Dk (p0 : ByteArray) : Nat → Int → Option Bool
 | 0, _ => none
 | m + 1, v1 => JM p0 (Dk p0 m) v1
def J8 (n : Nat) (p0 : ByteArray) : Option Bool :=
 (Dk p0 n (0 : Int))
theorem Bz6 (n : Nat) (p0 : ByteArray) {r : Bool} (hr : J8 n p0 = some r) {K : PV → List Content → Prop} (h : K (.d (.bool r)) st) : Aw PR M9 [(.d (.str p0))] st K := by
 refine Aw.of AS7 (Nat.le_of_ble_eq_true rfl) fun hwf => ?_
 rw [CE]
 refine AS ?_
 unfold Al6
 rw [J8] at hr
 refine Al (Af ?_)
 unfold Ag0
 refine Ab e_c (Aa (Ae (Al (Af ?_))))
 unfold Ak9
 refine DW (rows := List.map rS [(⟨#[97, 110, 100]⟩ : ByteArray), (⟨#[111, 114]⟩ : ByteArray), (⟨#[110, 111, 116]⟩ : ByteArray), (⟨#[116, 114, 117, 101]⟩ : ByteArray), (⟨#[102, 97, 108, 115, 101]⟩ : ByteArray), (⟨#[108, 101, 116]⟩ : ByteArray), (⟨#[115, 101, 116]⟩ : ByteArray), (⟨#[105, 110, 115, 101, 114, 116]⟩ : ByteArray), (⟨#[117, 112, 100, 97, 116, 101]⟩ : ByteArray), (⟨#[100, 101, 108, 101, 116, 101]⟩ : ByteArray), (⟨#[102, 111, 114]⟩ : ByteArray), (⟨#[105, 110]⟩ : ByteArray), (⟨#[119, 104, 101, 114, 101]⟩ : ByteArray), (⟨#[108, 105, 109, 105, 116]⟩ : ByteArray), (⟨#[105, 102]⟩ : ByteArray), (⟨#[101, 108, 115, 101]⟩ : ByteArray), (⟨#[101, 109, 105, 116]⟩ : ByteArray), (⟨#[97, 98, 111, 114, 116]⟩ : ByteArray), (⟨#[114, 101, 112, 108, 121]⟩ : ByteArray), (⟨#[99, 111, 117, 110, 116]⟩ : ByteArray), (⟨#[115, 117, 109]⟩ : ByteArray), (⟨#[109, 105, 110]⟩ : ByteArray), (⟨#[109, 97, 120]⟩ : ByteArray), (⟨#[105, 110, 116]⟩ : ByteArray), (⟨#[116, 101, 120, 116]⟩ : ByteArray), (⟨#[98, 111, 111, 108]⟩ : ByteArray), (⟨#[116, 97, 98, 108, 101]⟩ : ByteArray), (⟨#[115, 116, 114, 101, 97, 109]⟩ : ByteArray), (⟨#[119, 105, 110, 100, 111, 119]⟩ : ByteArray), (⟨#[115, 105, 110, 107]⟩ : ByteArray), (⟨#[112, 114, 111, 99]⟩ : ByteArray), (⟨#[107, 101, 121]⟩ : ByteArray), (⟨#[117, 110, 105, 113, 117, 101]⟩ : ByteArray), (⟨#[105, 110, 100, 101, 120]⟩ : ByteArray), (⟨#[112, 97, 114, 116, 115]⟩ : ByteArray), (⟨#[98, 121]⟩ : ByteArray), (⟨#[111, 110]⟩ : ByteArray), (⟨#[102, 114, 111, 109]⟩ : ByteArray), (⟨#[97, 116]⟩ : ByteArray), (⟨#[102, 117, 101, 108]⟩ : ByteArray), (⟨#[116, 117, 112, 108, 101, 115]⟩ : ByteArray), (⟨#[98, 97, 116, 99, 104, 101, 115]⟩ : ByteArray), (⟨#[115, 108, 105, 100, 101]⟩ : ByteArray)]) ((AC e_c A2 (Au f_d AJ) rfl (AC e_c A2 (Au f_d AJ) rfl (AC e_c A2 (Au f_d AJ) rfl (AC e_c A2 (Au f_d AJ) rfl (AC e_c A2 (Au f_d AJ) rfl (AC e_c A2 (Au f_d AJ) rfl (AC e_c A2 (Au f_d AJ) rfl (AC e_c A2 (Au f_d AJ) rfl (AC e_c A2 (Au f_d AJ) rfl (AC e_c A2 (Au f_d AJ) rfl (AC e_c A2 (Au f_d AJ) rfl (AC e_c A2 (Au f_d AJ) rfl (AC e_c A2 (Au f_d AJ) rfl (AC e_c A2 (Au f_d AJ) rfl (AC e_c A2 (Au f_d AJ) rfl (AC e_c A2 (Au f_d AJ) rfl (AC e_c A2 (Au f_d AJ) rfl (AC e_c A2 (Au f_d AJ) rfl (AC e_c A2 (Au f_d AJ) rfl (AC e_c A2 (Au f_d AJ) rfl (AC e_c A2 (Au f_d AJ) rfl (AC e_c A2 (Au f_d AJ) rfl (AC e_c A2 (Au f_d AJ) rfl (AC e_c A2 (Au f_d AJ) rfl (AC e_c A2 (Au f_d AJ) rfl (AC e_c A2 (Au f_d AJ) rfl (AC e_c A2 (Au f_d AJ) rfl (AC e_c A2 (Au f_d AJ) rfl (AC e_c A2 (Au f_d AJ) rfl (AC e_c A2 (Au f_d AJ) rfl (AC e_c A2 (Au f_d AJ) rfl (AC e_c A2 (Au f_d AJ) rfl (AC e_c A2 (Au f_d AJ) rfl (AC e_c A2 (Au f_d AJ) rfl (AC e_c A2 (Au f_d AJ) rfl (AC e_c A2 (Au f_d AJ) rfl (AC e_c A2 (Au f_d AJ) rfl (AC e_c A2 (Au f_d AJ) rfl (AC e_c A2 (Au f_d AJ) rfl (AC e_c A2 (Au f_d AJ) rfl (AC e_c A2 (Au f_d AJ) rfl (AC e_c A2 (Au f_d AJ) rfl (AC e_c A2 (Au f_d AJ) rfl FJ)))))))))))))))))))))))))))))))))))))))))))) ?_
 refine Ab (e_t eh) (Aa (Ae (Al (Al (Af ?_)))))
 unfold Aj0
 refine Ab e_c (Aa (Ae ?_))
 refine A3 ?_
 refine Cy (fun m f st' => ∃ (v1 : Int), Dk p0 m v1 = some r ∧ f 0 = (.d (.str p0)) ∧ f 3 = (.ex (List.map rS ([(⟨#[97, 110, 100]⟩ : ByteArray), (⟨#[111, 114]⟩ : ByteArray), (⟨#[110, 111, 116]⟩ : ByteArray), (⟨#[116, 114, 117, 101]⟩ : ByteArray), (⟨#[102, 97, 108, 115, 101]⟩ : ByteArray), (⟨#[108, 101, 116]⟩ : ByteArray), (⟨#[115, 101, 116]⟩ : ByteArray), (⟨#[105, 110, 115, 101, 114, 116]⟩ : ByteArray), (⟨#[117, 112, 100, 97, 116, 101]⟩ : ByteArray), (⟨#[100, 101, 108, 101, 116, 101]⟩ : ByteArray), (⟨#[102, 111, 114]⟩ : ByteArray), (⟨#[105, 110]⟩ : ByteArray), (⟨#[119, 104, 101, 114, 101]⟩ : ByteArray), (⟨#[108, 105, 109, 105, 116]⟩ : ByteArray), (⟨#[105, 102]⟩ : ByteArray), (⟨#[101, 108, 115, 101]⟩ : ByteArray), (⟨#[101, 109, 105, 116]⟩ : ByteArray), (⟨#[97, 98, 111, 114, 116]⟩ : ByteArray), (⟨#[114, 101, 112, 108, 121]⟩ : ByteArray), (⟨#[99, 111, 117, 110, 116]⟩ : ByteArray), (⟨#[115, 117, 109]⟩ : ByteArray), (⟨#[109, 105, 110]⟩ : ByteArray), (⟨#[109, 97, 120]⟩ : ByteArray), (⟨#[105, 110, 116]⟩ : ByteArray), (⟨#[116, 101, 120, 116]⟩ : ByteArray), (⟨#[98, 111, 111, 108]⟩ : ByteArray), (⟨#[116, 97, 98, 108, 101]⟩ : ByteArray), (⟨#[115, 116, 114, 101, 97, 109]⟩ : ByteArray), (⟨#[119, 105, 110, 100, 111, 119]⟩ : ByteArray), (⟨#[115, 105, 110, 107]⟩ : ByteArray), (⟨#[112, 114, 111, 99]⟩ : ByteArray), (⟨#[107, 101, 121]⟩ : ByteArray), (⟨#[117, 110, 105, 113, 117, 101]⟩ : ByteArray), (⟨#[105, 110, 100, 101, 120]⟩ : ByteArray), (⟨#[112, 97, 114, 116, 115]⟩ : ByteArray), (⟨#[98, 121]⟩ : ByteArray), (⟨#[111, 110]⟩ : ByteArray), (⟨#[102, 114, 111, 109]⟩ : ByteArray), (⟨#[97, 116]⟩ : ByteArray), (⟨#[102, 117, 101, 108]⟩ : ByteArray), (⟨#[116, 117, 112, 108, 101, 115]⟩ : ByteArray), (⟨#[98, 97, 116, 99, 104, 101, 115]⟩ : ByteArray), (⟨#[115, 108, 105, 100, 101]⟩ : ByteArray)]))) ∧ f 4 = (.d (.int .i64 v1)) ∧ st' = st ++ []) n (Ghost.refl _) ⟨(0 : Int), hr, (Ad rfl eh), (em rfl eh), eh, rfl⟩ ?_
 rintro m f st' ⟨v1, hr, h0, h3, h4, rfl⟩
 cases m with
 | zero => cases hr
 | succ m_0 =>
   rw [Dk] at hr
   generalize hrec_0 : Dk p0 m_0 = q0 at hr
   rw [JM] at hr
   unfold Ai5
   refine Al (Al (Af ?_))
   unfold Ag8
   refine Ab (e_t h4) (Ab (e_t (em rfl h3)) ?_)
   refine Bc (row := rS) (AN (e_t eh) S4) ?_
   refine Ap (e_t (Ac rfl eh)) (e_t eh) (Da ?_)
   refine Aa (Ae ?_)
   refine AB (e_t eh) hr (fun hr => ?_) (fun hr => ?_)
   rotate_left
   · refine Dj ?_
     refine A8 ?_
     refine A8 ?_
     refine Fo ?_
     refine Ae (Al (Af ?_))
     unfold Ae5
     refine Ab e_c (Aa (Ae (AH ?_)))
     cases hr
     exact A5 (AE eh AG) (AK AF v_d) (As hwf) h
   refine AM (Ae (Al ?_))
   refine A3 ?_
   refine Al (Af ?_)
   unfold Aj6
   refine Ab (e_t (Ad rfl h3)) (Ab (e_t (Ad rfl (em rfl h4))) ?_)
   refine Bt (row := rS) (AN (e_t (em rfl eh)) S4) (e_t eh) hr (fun _ => rfl) (fun _ => rfl) (fun v2 hr => ?_)
   refine BF (e_t eh) (by rfl) ?_
   refine Ab (e_t (Ad rfl (Ad rfl h0))) ?_
   refine Ap (e_t (em rfl eh)) (e_t eh) (Do ?_)
   refine Aa (Ae ?_)
   refine AB (e_t eh) hr (fun hr => ?_) (fun hr => ?_)
   rotate_left
   · refine AM ?_
     refine BQ ?_
     refine Ae (Af ?_)
     unfold Ae7
     refine Ab (e_t (Ak rfl (Ac rfl h4))) ?_
     refine Ap (e_t eh) e_c (B4 ?_)
     refine Ab (e_t eh) (Aa (Ae ?_))
     exact ⟨m_0, _, Nat.lt_succ_self m_0, Ghost.refl _, (IntKind.wrap .i64 (v1 + (1 : Int))), (by rw [hrec_0]; exact hr), (Ak rfl (Ad rfl (em rfl h0))), (Ak rfl (Ad rfl (em rfl h3))), eh, rfl⟩
   refine Al (Af ?_)
   unfold Ai3
   refine Ab e_c (Aa (Ae (AH ?_)))
   refine Bw ?_
   refine Ay (Ay ?_)
   refine Bw ?_
   refine Ay ?_
   cases hr
   exact A5 (AE eh AG) (AK AF v_d) (As hwf) h
def EE (n : Nat) (p0 : ByteArray) : Option Bool :=
 ((DL n p0).bind fun v1 => (bif v1 then ((J8 n p0).bind fun v2 => some (!v2)) else some false))
theorem MB (n : Nat) (p0 : ByteArray) {r : Bool} (hr : EE n p0 = some r) {K : PV → List Content → Prop} (h : K (.d (.bool r)) st) : Aw PR JJ [(.d (.str p0))] st K := by
 refine Aw.of BQ3 (Nat.le_of_ble_eq_true rfl) fun hwf => ?_
 rw [CE]
 refine AS ?_
 unfold Bt5
 rw [EE] at hr
 refine Al (Af ?_)
 unfold Be6
 refine Ab e_c (Aa (Ae (Al (Af ?_))))
 unfold Bg1
 refine Bh ?_
 unfold AI0
 refine Ab (e_t (em rfl eh)) ?_
 obtain ⟨v1, hc_v1, hr⟩ := bind_some hr
 refine AY (Az (e_t eh) AF A1) ?_
 refine Ao1 n p0 hc_v1 ?_
 refine Ab (e_t eh) ?_
 refine Ar eh hr (fun hr => ?_) (fun hr => ?_)
 rotate_left
 · refine Ah eh (Ah (em rfl eh) (Ah (Ac rfl eh) (An (e_t (Ac rfl (em rfl eh))) e_c (Aa ?_))))
   unfold Yx
   refine Ab (e_t eh) (Aa (Ae (AH ?_)))
   cases hr
   exact A5 (AE eh AG) (AK AF v_d) (As hwf) h
 refine Aj eh (Ab (e_t (Ad rfl (em rfl eh))) (Aj (em rfl eh) ?_))
 obtain ⟨v2, hc_v2, hr⟩ := bind_some hr
 refine AY (Az (e_t eh) AF A1) ?_
 refine Bz6 n p0 hc_v2 ?_
 refine Aj (Ac rfl eh) (CN (e_t eh) (Am (e_t (Ac rfl (em rfl eh))) (e_t eh) (Aa ?_)))
 unfold Yx
 refine Ab (e_t eh) (Aa (Ae (AH ?_)))
 cases hr
 exact A5 (AE eh AG) (AK AF v_d) (As hwf) h
end Go.Ax
