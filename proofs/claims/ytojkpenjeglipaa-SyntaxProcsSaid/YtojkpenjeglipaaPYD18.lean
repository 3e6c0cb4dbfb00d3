import Derived.Test.YtojkpenjeglipaaPYT
import Derived.Test.YtojkpenjeglipaaPCVX
import Derived.Test.YtojkpenjeglipaaPCPrim
import Derived.Test.YtojkpenjeglipaaPYD1
import Derived.Test.YtojkpenjeglipaaPYD7
import Derived.Test.YtojkpenjeglipaaPYD10
import Derived.Test.YtojkpenjeglipaaPYD17
set_option linter.unusedVariables false
set_option linter.unusedSimpArgs false
namespace Go.Ax
attribute [local irreducible] BQ EX FK Bg CQ FI B8 Le Ii upd ev u0 Dw frz A9 EK mmD bnd B2 FD Dq CR G3 HS Hg cutV JT Cy
variable {st : List Content}
def Lm (p0 : (List ByteArray)) (p1 : ByteArray) (v4 : Int) : Option (List ByteArray) :=
 ((Ar9 p0 (0 : Int) v4).bind fun v6 => ((Ib 16 ([] : List ByteArray) v6).bind fun v7 => ((Ib 16 v7 ([p1])).bind fun v8 => ((Ar9 p0 v4 (p0.length : Int)).bind fun v9 => ((Ib 16 v8 v9).bind fun v10 => some v10)))))
def Lr (p0 : (List ByteArray)) (p1 : ByteArray) (v4 : Int) : Option (List ByteArray) :=
 (bif (decide (v4 < (p0.length : Int))) then ((Dd p0 v4).bind fun v5 => (bif (decide (v5 = p1)) then some p0 else (Lm p0 p1 v4))) else (Lm p0 p1 v4))
def O4 (p0 : (List ByteArray)) (p1 : ByteArray) (q0 : Int → Option (List ByteArray)) (v2 : Int) : Option (List ByteArray) :=
 (bif (decide (v2 < (p0.length : Int))) then ((Dd p0 v2).bind fun v3 => (bif (ltS v3 p1) then q0 (IntKind.wrap .i64 (v2 + (1 : Int))) else (Lr p0 p1 v2))) else (Lr p0 p1 v2))
def Hk (p0 : (List ByteArray)) (p1 : ByteArray) : Nat → Int → Option (List ByteArray)
 | 0, _ => none
 | m + 1, v2 => O4 p0 p1 (Hk p0 p1 m) v2
def Wm (n : Nat) (p0 : (List ByteArray)) (p1 : ByteArray) : Option (List ByteArray) :=
 (Hk p0 p1 n (0 : Int))
set_option maxRecDepth 100000 in
set_option maxHeartbeats 4000000 in
theorem AM5 (n : Nat) (p0 : (List ByteArray)) (p1 : ByteArray) {r : (List ByteArray)} (hr : Wm n p0 p1 = some r) {K : PV → List Content → Prop} (h : K (.d (.sl (List.map rS r))) st) : Av PR Am8 [(.d (.sl (List.map rS p0))), (.d (.str p1))] st K := by
 refine Av.of AX9 (Nat.le_of_ble_eq_true rfl) fun hwf => ?_
 rw [Ed]
 refine AQ ?_
 unfold AP8
 rw [Wm] at hr
 refine Al (Af ?_)
 unfold Al2
 refine Ab e_c (Aa (Ae (Al (Af ?_))))
 unfold Aj3
 refine Ab e_c (Aa (Ae ?_))
 refine By (fun f st' => ∃ (v4 : Int), Lr p0 p1 v4 = some r ∧ f 0 = (.d (.sl (List.map rS p0))) ∧ f 1 = (.d (.str p1)) ∧ f 5 = (.d (.int .i64 v4)) ∧ st' = st ++ []) ?_ ?_
 · refine AT ?_
   refine BX (fun m f st' => ∃ (v2 : Int), Hk p0 p1 m v2 = some r ∧ f 0 = (.d (.sl (List.map rS p0))) ∧ f 1 = (.d (.str p1)) ∧ f 5 = (.d (.int .i64 v2)) ∧ st' = st ++ []) n (Ghost.refl _) ⟨(0 : Int), hr, (Ac rfl eh), (Ac rfl (em rfl eh)), eh, rfl⟩ ?_
   rintro m f st' ⟨v2, hr, h0, h1, h5, rfl⟩
   cases m with
   | zero => cases hr
   | succ m_0 =>
     rw [Hk] at hr
     generalize hrec_0 : Hk p0 p1 m_0 = q0 at hr
     rw [O4] at hr
     unfold Aj2
     refine Al (Al (Af ?_))
     unfold Am3
     refine Ab (e_t h5) (Ab (e_t (em rfl h0)) ?_)
     refine Bh (row := rS) (AP (e_t eh) Bt) ?_
     refine As (e_t (Ac rfl eh)) (e_t eh) (CM ?_)
     refine Ab (e_t eh) ?_
     refine Au eh hr (fun hr => ?_) (fun hr => ?_)
     rotate_left
     · refine Ag eh (Ag (em rfl eh) (Ag (Ac rfl eh) (Ag (Ac rfl (em rfl eh)) (Ag (Ad rfl eh) (Ag (Ad rfl (em rfl eh)) ?_)))))
       refine Ao (e_t (Ad rfl (Ac rfl eh))) e_c (Aa (Ae ?_))
       refine EZ (e_t eh) ?_
       refine CG ?_
       refine AW ?_
       refine AW ?_
       refine DF ?_
       refine Ae ?_
       exact ⟨v2, hr, (Ak rfl (Ad rfl (em rfl h0))), (Ak rfl (Ad rfl (em rfl h1))), (Ak rfl (Ad rfl (em rfl h5))), rfl⟩
     refine Ai eh (Ab (e_t (Ad rfl (Ac rfl h0))) (Ai (em rfl eh) (Ab (e_t (Ad rfl (Ac rfl (em rfl h5)))) (Ai (Ac rfl eh) ?_))))
     refine Br (row := rS) (AP (e_t (em rfl eh)) Bt) (e_t eh) hr (fun _ => rfl) (fun _ => rfl) (fun v3 hr => ?_)
     refine Ai (Ac rfl (em rfl eh)) ?_
     refine BI (e_t eh) (by exact rfl) ?_
     refine Ai (Ad rfl eh) (Ab (e_t (Ak rfl (Ac rfl h1))) (Ai (Ad rfl (em rfl eh)) ?_))
     refine As (e_t (em rfl eh)) (e_t eh) (AW7 ?_)
     refine An (e_t (Ad rfl (Ac rfl eh))) (e_t eh) (Aa (Ae ?_))
     refine AC (e_t eh) hr (fun hr => ?_) (fun hr => ?_)
     rotate_left
     · refine CG ?_
       refine AW ?_
       refine AW ?_
       refine DF ?_
       refine Ae ?_
       exact ⟨v2, hr, (Ak rfl (Ad rfl (em rfl h0))), (Ak rfl (Ad rfl (em rfl h1))), (Ak rfl (Ad rfl (em rfl h5))), rfl⟩
     refine AO (Ae ?_)
     refine AT ?_
     refine Af ?_
     unfold Al6
     refine Ab (e_t (Ak rfl (Ad rfl (em rfl h5)))) ?_
     refine As (e_t eh) e_c (BU ?_)
     refine Ab (e_t eh) (Aa ?_)
     refine BB ?_
     refine Ae ?_
     exact ⟨m_0, _, Nat.lt_succ_self m_0, Ghost.refl _, (IntKind.wrap .i64 (v2 + (1 : Int))), (by rw [hrec_0]; exact hr), (Ak rfl (Ad rfl (Ad rfl h0))), (Ak rfl (Ad rfl (Ad rfl h1))), eh, rfl⟩
 rintro f st' ⟨v4, hr, h0, h1, h5, rfl⟩
 rw [Lr] at hr
 refine By (fun f st' => Lm p0 p1 v4 = some r ∧ f 0 = (.d (.sl (List.map rS p0))) ∧ f 1 = (.d (.str p1)) ∧ f 5 = (.d (.int .i64 v4)) ∧ st' = st ++ []) ?_ ?_
 rotate_left
 · rintro f st' ⟨hr, h0, h1, h5, rfl⟩
   rw [Lm] at hr
   refine Al (Af ?_)
   unfold Ak3
   refine Ab e_c (Aa (Ae (Al (Af ?_))))
   unfold Al3
   refine Ab (e_t eh) (Ab (e_t (Ac rfl h0)) (Ab (e_t (Ac rfl (em rfl h5))) ?_))
   refine Au7 (row := rS) (AP (e_t (em rfl eh)) Bt) (fun _ => rfl) (fun _ => rfl) bd0 (bd1 (e_t eh)) hr (fun v6 hr => ?_)
   refine AT5 (k := 0) (row := rS) rfl rfl (AP (e_t eh) Bt) (fun _ => rfl) (fun _ => rfl) (e_t (Ac rfl (em rfl eh))) hr (fun v7 hr => ?_)
   refine Ab (e_t eh) (Aa (Ae (Al (Af ?_))))
   unfold Ak5
   refine Ab (e_t eh) (Ab (e_t (Ad rfl (Ad rfl h1))) ?_)
   refine Db (rows := List.map rS [p1]) ((AE (e_t eh) A0 (Aw f_d AL) rfl Eg)) ?_
   refine Hp (row := rS) (AP (e_t eh) K1) (fun _ => rfl) (fun _ => rfl) (e_t (Ac rfl eh)) ((Am rfl 0).trans rfl) (fun _ => (Bo rfl _ _)) hr (fun v8 hr => ?_)
   refine Ab (e_t eh) (Aa (Ae (Al (Af ?_))))
   unfold Zf
   refine Ab (e_t eh) (Ab (e_t (Ak rfl (Ad rfl (em rfl h0)))) (Ab (e_t (Ak rfl (Ad rfl (Ac rfl h5)))) ?_))
   refine Au7 (row := rS) (AP (e_t (em rfl eh)) Bt) (fun _ => rfl) (fun _ => rfl) (bd1 (e_t eh)) bd0 hr (fun v9 hr => ?_)
   refine Hp (row := rS) (AP (e_t eh) Bt) (fun _ => rfl) (fun _ => rfl) (e_t (Ac rfl (em rfl eh))) ((Am rfl 0).trans rfl) (fun _ => (Bo rfl _ _)) hr (fun v10 hr => ?_)
   refine Ab (e_t eh) (Aa (Ae (AI ?_)))
   cases hr
   exact A7 (AG eh AH) (AN (Z7 ((Am rfl 0).trans rfl)) v_d) (Ay hwf) h
 refine Al (Af ?_)
 unfold Ak2
 refine Ab (e_t h5) (Ab (e_t (em rfl h0)) ?_)
 refine Bh (row := rS) (AP (e_t eh) Bt) ?_
 refine As (e_t (Ac rfl eh)) (e_t eh) (CM ?_)
 refine Ab (e_t eh) ?_
 refine Au eh hr (fun hr => ?_) (fun hr => ?_)
 rotate_left
 · refine Ag eh (Ag (em rfl eh) (Ag (Ac rfl eh) (Ag (Ac rfl (em rfl eh)) (Ag (Ad rfl eh) (Ag (Ad rfl (em rfl eh)) ?_)))))
   refine Ao (e_t (Ad rfl (Ac rfl eh))) e_c (Aa (Ae ?_))
   refine EZ (e_t eh) ?_
   refine AO (Ae ?_)
   exact ⟨hr, (Ak rfl (Ad rfl (em rfl h0))), (Ak rfl (Ad rfl (em rfl h1))), (Ak rfl (Ad rfl (em rfl h5))), rfl⟩
 refine Ai eh (Ab (e_t (Ad rfl (Ac rfl h0))) (Ai (em rfl eh) (Ab (e_t (Ad rfl (Ac rfl (em rfl h5)))) (Ai (Ac rfl eh) ?_))))
 refine Br (row := rS) (AP (e_t (em rfl eh)) Bt) (e_t eh) hr (fun _ => rfl) (fun _ => rfl) (fun v5 hr => ?_)
 refine Ai (Ac rfl (em rfl eh)) ?_
 refine BI (e_t eh) (by exact rfl) ?_
 refine Ai (Ad rfl eh) (Ab (e_t (Ak rfl (Ac rfl h1))) (Ai (Ad rfl (em rfl eh)) ?_))
 refine As (e_t (em rfl eh)) (e_t eh) (Dg ?_)
 refine An (e_t (Ad rfl (Ac rfl eh))) (e_t eh) (Aa (Ae ?_))
 refine AC (e_t eh) hr (fun hr => ?_) (fun hr => ?_)
 rotate_left
 · refine AO (Ae ?_)
   exact ⟨hr, (Ak rfl (Ad rfl (em rfl h0))), (Ak rfl (Ad rfl (em rfl h1))), (Ak rfl (Ad rfl (em rfl h5))), rfl⟩
 refine Al (Af ?_)
 unfold Ak8
 refine Ab (e_t (Ak rfl (Ad rfl (em rfl h0)))) (Ab (e_t eh) (Aa (Ae (AI (AA ?_)))))
 cases hr
 exact A7 (AG eh AH) (AN AF v_d) (Ay hwf) h
end Go.Ax
