import Derived.Test.YtojkpenjeglipaaGreatTAxP
import Derived.Test.YtojkpenjeglipaaGreatTWT
import Derived.Test.YtojkpenjeglipaaGreatTWD0
import Derived.Test.YtojkpenjeglipaaGreatTWD1
import Derived.Test.YtojkpenjeglipaaGreatTWD2
import Derived.Test.YtojkpenjeglipaaGreatTWD3
import Derived.Test.YtojkpenjeglipaaGreatTWD4
import Derived.Test.YtojkpenjeglipaaGreatTWD5
import Derived.Test.YtojkpenjeglipaaGreatTWD6
import Derived.Test.YtojkpenjeglipaaGreatTWD7
import Derived.Test.YtojkpenjeglipaaGreatTWD8
import Derived.Test.YtojkpenjeglipaaGreatTWD9
import Derived.Test.YtojkpenjeglipaaGreatTWD10
import Derived.Test.YtojkpenjeglipaaGreatTWD11
import Derived.Test.YtojkpenjeglipaaGreatTWD12
import Derived.Test.YtojkpenjeglipaaGreatTWD13
import Derived.Test.YtojkpenjeglipaaGreatTWD14
import Derived.Test.YtojkpenjeglipaaGreatTWD15
set_option linter.unusedSimpArgs false
set_option linter.unusedVariables false
namespace Go.Ax
theorem Bi9 {p1 : (List TKnot)} {q0 q0' : Int → Option Bool} {v8 : Int} {q1 q1' : Int → Option Bool} {v14 : Int} (H_rec_l_0 : ∀ x0, LeO (q0 x0) (q0' x0)) (H_rec_l_1 : ∀ x0, LeO (q1 x0) (q1' x0)) : LeO (IK p1 q0 v8 q1 v14) (IK p1 q0' v8 q1' v14) := by
 unfold IK
 repeat' (first | apply H_rec_l_0 | apply H_rec_l_1 | assumption|with_reducible exact EZ _|with_reducible apply Pt|with_reducible refine Pj ?_ fun _ => ?_|exact EZ _|intro _)
theorem Ae9 {p1 : (List TKnot)} {q0 q0' : Int → Option Bool} {v8 : Int} (H_rec_l_0 : ∀ x0, LeO (q0 x0) (q0' x0)) : ∀ (m m' : Nat), m ≤ m' → ∀ v14, LeO (B9 p1 q0 v8 m v14) (B9 p1 q0' v8 m' v14)
 | 0, m', _, _ => (by rw [B9]; exact LeO.none _)
 | m + 1, 0, h, _ => absurd h (Nat.not_succ_le_zero _)
 | m + 1, m' + 1, h, v14 => (by rw [B9, B9]; exact Bi9 H_rec_l_0 (Ae9 H_rec_l_0 m m' (Nat.le_of_succ_le_succ h)))
theorem Bo6 {n n' : Nat} (hn : n ≤ n') {p1 : (List TKnot)} {q0 q0' : Int → Option Bool} {v8 : Int} (H_rec_l_0 : ∀ x0, LeO (q0 x0) (q0' x0)) {v14 : Int} : LeO (B9 p1 q0 v8 n v14) (B9 p1 q0' v8 n' v14) := Ae9 H_rec_l_0 n n' hn v14
theorem Bo7 {n n' : Nat} (hn : n ≤ n') {p1 : (List TKnot)} {q0 q0' : Int → Option Bool} {v8 : Int} {v13 : Bool} (H_rec_l_0 : ∀ x0, LeO (q0 x0) (q0' x0)) : LeO (GX p1 n q0 v8 v13) (GX p1 n' q0' v8 v13) := by
 unfold GX
 repeat' (first | apply H_rec_l_0 | apply Bo6 hn | assumption|with_reducible exact EZ _|with_reducible apply Pt|with_reducible refine Pj ?_ fun _ => ?_|exact EZ _|intro _)
theorem Bo2 {n n' : Nat} (hn : n ≤ n') {p1 : (List TKnot)} {q0 q0' : Int → Option Bool} {v8 : Int} {v11 : Bool} (H_rec_l_0 : ∀ x0, LeO (q0 x0) (q0' x0)) : LeO (GZ p1 n q0 v8 v11) (GZ p1 n' q0' v8 v11) := by
 unfold GZ
 repeat' (first | apply H_rec_l_0 | apply Bo7 hn | assumption|with_reducible exact EZ _|with_reducible apply Pt|with_reducible refine Pj ?_ fun _ => ?_|exact EZ _|intro _)
theorem Bk8 {n n' : Nat} (hn : n ≤ n') {p1 : (List TKnot)} {q0 q0' : Int → Option Bool} {v8 : Int} (H_rec_l_0 : ∀ x0, LeO (q0 x0) (q0' x0)) : LeO (II p1 n q0 v8) (II p1 n' q0' v8) := by
 unfold II
 repeat' (first | apply H_rec_l_0 | apply Bo2 hn | assumption|with_reducible exact EZ _|with_reducible apply Pt|with_reducible refine Pj ?_ fun _ => ?_|exact EZ _|intro _)
theorem Ag5 {n n' : Nat} (hn : n ≤ n') {p1 : (List TKnot)}  : ∀ (m m' : Nat), m ≤ m' → ∀ v8, LeO (Bq p1 n m v8) (Bq p1 n' m' v8)
 | 0, m', _, _ => (by rw [Bq]; exact LeO.none _)
 | m + 1, 0, h, _ => absurd h (Nat.not_succ_le_zero _)
 | m + 1, m' + 1, h, v8 => (by rw [Bq, Bq]; exact Bk8 hn  (Ag5 hn  m m' (Nat.le_of_succ_le_succ h)))
theorem Bn1 {n n' : Nat} (hn : n ≤ n') {p1 : (List TKnot)}  {v8 : Int} : LeO (Bq p1 n n v8) (Bq p1 n' n' v8) := Ag5 hn  n n' hn v8
theorem Bn9 {n n' : Nat} (hn : n ≤ n') {p1 : (List TKnot)}  : LeO (Ir p1 n) (Ir p1 n') := by
 unfold Ir
 repeat' (first | apply Bn1 hn | assumption|with_reducible exact EZ _|with_reducible apply Pt|with_reducible refine Pj ?_ fun _ => ?_|exact EZ _|intro _)
theorem Bp8 {p0 : (List TLeaf)} {v3 : Int} {q2 q2' : Int → Option Bool} {v6 : Bool} (H_rec_l_2 : ∀ x0, LeO (q2 x0) (q2' x0)) : LeO (GO p0 v3 q2 v6) (GO p0 v3 q2' v6) := by
 unfold GO
 repeat' (first | apply H_rec_l_2 | assumption|with_reducible exact EZ _|with_reducible apply Pt|with_reducible refine Pj ?_ fun _ => ?_|exact EZ _|intro _)
theorem Bf8 {n n' : Nat} (hn : n ≤ n') {p0 : (List TLeaf)} {p1 : (List TKnot)} {q2 q2' : Int → Option Bool} {v3 : Int} (H_rec_l_2 : ∀ x0, LeO (q2 x0) (q2' x0)) : LeO (IB p0 p1 n q2 v3) (IB p0 p1 n' q2' v3) := by
 unfold IB
 repeat' (first | apply H_rec_l_2 | apply Bp8 | apply Bn9 hn | assumption|with_reducible exact EZ _|with_reducible apply Pt|with_reducible refine Pj ?_ fun _ => ?_|exact EZ _|intro _)
theorem Ah1 {n n' : Nat} (hn : n ≤ n') {p0 : (List TLeaf)} {p1 : (List TKnot)}  : ∀ (m m' : Nat), m ≤ m' → ∀ v3, LeO (CG p0 p1 n m v3) (CG p0 p1 n' m' v3)
 | 0, m', _, _ => (by rw [CG]; exact LeO.none _)
 | m + 1, 0, h, _ => absurd h (Nat.not_succ_le_zero _)
 | m + 1, m' + 1, h, v3 => (by rw [CG, CG]; exact Bf8 hn  (Ah1 hn  m m' (Nat.le_of_succ_le_succ h)))
theorem Bp5 {n n' : Nat} (hn : n ≤ n') {p0 : (List TLeaf)} {p1 : (List TKnot)}  {v3 : Int} : LeO (CG p0 p1 n n v3) (CG p0 p1 n' n' v3) := Ah1 hn  n n' hn v3
theorem Bp4 {n n' : Nat} (hn : n ≤ n') {p0 : (List TLeaf)} {p1 : (List TKnot)} {v2 : Bool}  : LeO (Fc p0 p1 n v2) (Fc p0 p1 n' v2) := by
 unfold Fc
 repeat' (first | apply Bp5 hn | assumption|with_reducible exact EZ _|with_reducible apply Pt|with_reducible refine Pj ?_ fun _ => ?_|exact EZ _|intro _)
theorem JR {n n' : Nat} (hn : n ≤ n') {p0 : (List TLeaf)} {p1 : (List TKnot)}  : LeO (Nc n p0 p1) (Nc n' p0 p1) := by
 unfold Nc
 repeat' (first | apply Bp4 hn | assumption|with_reducible exact EZ _|with_reducible apply Pt|with_reducible refine Pj ?_ fun _ => ?_|exact EZ _|intro _)
theorem AP8 {p0 : Int} {p1 : Int}  : LeO (HT p0 p1) (HT p0 p1) := by
 unfold HT
 repeat' (first | assumption|with_reducible exact EZ _|with_reducible apply Pt|with_reducible refine Pj ?_ fun _ => ?_|exact EZ _|intro _)
theorem Bp0 {v3 : (List TE)} {v5 : (List Int)} {v7 : (List Int)} {v8 : Int} {q0 q0' : (List TE) → (List Int) → (List Int) → Int → Option TTree} {v10 : TLeaf} {v12 : (List TE)} {v13 : Int} {v14 : Int} (H_rec_l_0 : ∀ x0 x1 x2 x3, LeO (q0 x0 x1 x2 x3) (q0' x0 x1 x2 x3)) : LeO (GP v3 v5 v7 v8 q0 v10 v12 v13 v14) (GP v3 v5 v7 v8 q0' v10 v12 v13 v14) := by
 unfold GP
 repeat' (first | apply H_rec_l_0 | assumption|with_reducible exact EZ _|with_reducible apply Pt|with_reducible refine Pj ?_ fun _ => ?_|exact EZ _|intro _)
theorem Bn3 {v3 : (List TE)} {v5 : (List Int)} {v7 : (List Int)} {v8 : Int} {q0 q0' : (List TE) → (List Int) → (List Int) → Int → Option TTree} {v10 : TLeaf} {v12 : (List TE)} {v13 : Int} {v14 : Int} {v15 : Int} {q1 q1' : (List TE) → Int → Int → Int → Option TTree} {v16 : Bool} (H_rec_l_0 : ∀ x0 x1 x2 x3, LeO (q0 x0 x1 x2 x3) (q0' x0 x1 x2 x3)) (H_rec_l_1 : ∀ x0 x1 x2 x3, LeO (q1 x0 x1 x2 x3) (q1' x0 x1 x2 x3)) : LeO (Fe v3 v5 v7 v8 q0 v10 v12 v13 v14 v15 q1 v16) (Fe v3 v5 v7 v8 q0' v10 v12 v13 v14 v15 q1' v16) := by
 unfold Fe
 repeat' (first | apply H_rec_l_0 | apply H_rec_l_1 | apply AP8 | apply Bp0 | assumption|with_reducible exact EZ _|with_reducible apply Pt|with_reducible refine Pj ?_ fun _ => ?_|exact EZ _|intro _)
theorem Be3 {v3 : (List TE)} {v5 : (List Int)} {v7 : (List Int)} {v8 : Int} {q0 q0' : (List TE) → (List Int) → (List Int) → Int → Option TTree} {v10 : TLeaf} {q1 q1' : (List TE) → Int → Int → Int → Option TTree} {v12 : (List TE)} {v13 : Int} {v14 : Int} {v15 : Int} (H_rec_l_0 : ∀ x0 x1 x2 x3, LeO (q0 x0 x1 x2 x3) (q0' x0 x1 x2 x3)) (H_rec_l_1 : ∀ x0 x1 x2 x3, LeO (q1 x0 x1 x2 x3) (q1' x0 x1 x2 x3)) : LeO (IH v3 v5 v7 v8 q0 v10 q1 v12 v13 v14 v15) (IH v3 v5 v7 v8 q0' v10 q1' v12 v13 v14 v15) := by
 unfold IH
 repeat' (first | apply H_rec_l_0 | apply H_rec_l_1 | apply Bn3 | assumption|with_reducible exact EZ _|with_reducible apply Pt|with_reducible refine Pj ?_ fun _ => ?_|exact EZ _|intro _)
theorem Ak5 {v3 : (List TE)} {v5 : (List Int)} {v7 : (List Int)} {v8 : Int} {q0 q0' : (List TE) → (List Int) → (List Int) → Int → Option TTree} {v10 : TLeaf} (H_rec_l_0 : ∀ x0 x1 x2 x3, LeO (q0 x0 x1 x2 x3) (q0' x0 x1 x2 x3)) : ∀ (m m' : Nat), m ≤ m' → ∀ v12 v13 v14 v15, LeO (CH v3 v5 v7 v8 q0 v10 m v12 v13 v14 v15) (CH v3 v5 v7 v8 q0' v10 m' v12 v13 v14 v15)
 | 0, m', _, _, _, _, _ => (by rw [CH]; exact LeO.none _)
 | m + 1, 0, h, _, _, _, _ => absurd h (Nat.not_succ_le_zero _)
 | m + 1, m' + 1, h, v12, v13, v14, v15 => (by rw [CH, CH]; exact Be3 H_rec_l_0 (Ak5 H_rec_l_0 m m' (Nat.le_of_succ_le_succ h)))
theorem Bp3 {n n' : Nat} (hn : n ≤ n') {v3 : (List TE)} {v5 : (List Int)} {v7 : (List Int)} {v8 : Int} {q0 q0' : (List TE) → (List Int) → (List Int) → Int → Option TTree} {v10 : TLeaf} (H_rec_l_0 : ∀ x0 x1 x2 x3, LeO (q0 x0 x1 x2 x3) (q0' x0 x1 x2 x3)) {v12 : (List TE)} {v13 : Int} {v14 : Int} {v15 : Int} : LeO (CH v3 v5 v7 v8 q0 v10 n v12 v13 v14 v15) (CH v3 v5 v7 v8 q0' v10 n' v12 v13 v14 v15) := Ak5 H_rec_l_0 n n' hn v12 v13 v14 v15
theorem Bn7 {v27 : (List TS)} {v29 : (List Int)} {v31 : (List Int)} {v32 : Int} {q2 q2' : (List TS) → (List Int) → (List Int) → Int → Option TTree} {v34 : TKnot} {v36 : (List TE)} {v48 : (List TS)} {v50 : (List TS)} {v51 : Int} {v52 : Int} (H_rec_l_2 : ∀ x0 x1 x2 x3, LeO (q2 x0 x1 x2 x3) (q2' x0 x1 x2 x3)) : LeO (GW v27 v29 v31 v32 q2 v34 v36 v48 v50 v51 v52) (GW v27 v29 v31 v32 q2' v34 v36 v48 v50 v51 v52) := by
 unfold GW
 repeat' (first | apply H_rec_l_2 | assumption|with_reducible exact EZ _|with_reducible apply Pt|with_reducible refine Pj ?_ fun _ => ?_|exact EZ _|intro _)
theorem Bn4 {v27 : (List TS)} {v29 : (List Int)} {v31 : (List Int)} {v34 : TKnot} {q3 q3' : (List TS) → (List TS) → Int → Int → Int → Option TTree} {v48 : (List TS)} {v50 : (List TS)} {v51 : Int} {v52 : Int} {v53 : Int} {v59 : Int} (H_rec_l_3 : ∀ x0 x1 x2 x3 x4, LeO (q3 x0 x1 x2 x3 x4) (q3' x0 x1 x2 x3 x4)) : LeO (EL v27 v29 v31 v34 q3 v48 v50 v51 v52 v53 v59) (EL v27 v29 v31 v34 q3' v48 v50 v51 v52 v53 v59) := by
 unfold EL
 repeat' (first | apply H_rec_l_3 | assumption|with_reducible exact EZ _|with_reducible apply Pt|with_reducible refine Pj ?_ fun _ => ?_|exact EZ _|intro _)
theorem Bp6 {v27 : (List TS)} {v29 : (List Int)} {v31 : (List Int)} {v32 : Int} {q2 q2' : (List TS) → (List Int) → (List Int) → Int → Option TTree} {v34 : TKnot} {v36 : (List TE)} {q3 q3' : (List TS) → (List TS) → Int → Int → Int → Option TTree} {v48 : (List TS)} {v50 : (List TS)} {v51 : Int} {v52 : Int} {v53 : Int} {v54 : Bool} (H_rec_l_2 : ∀ x0 x1 x2 x3, LeO (q2 x0 x1 x2 x3) (q2' x0 x1 x2 x3)) (H_rec_l_3 : ∀ x0 x1 x2 x3 x4, LeO (q3 x0 x1 x2 x3 x4) (q3' x0 x1 x2 x3 x4)) : LeO (Fk v27 v29 v31 v32 q2 v34 v36 q3 v48 v50 v51 v52 v53 v54) (Fk v27 v29 v31 v32 q2' v34 v36 q3' v48 v50 v51 v52 v53 v54) := by
 unfold Fk
 repeat' (first | apply H_rec_l_2 | apply H_rec_l_3 | apply AP8 | apply Bn4 | apply Bn7 | assumption|with_reducible exact EZ _|with_reducible apply Pt|with_reducible refine Pj ?_ fun _ => ?_|exact EZ _|intro _)
theorem Bf4 {v27 : (List TS)} {v29 : (List Int)} {v31 : (List Int)} {v32 : Int} {q2 q2' : (List TS) → (List Int) → (List Int) → Int → Option TTree} {v34 : TKnot} {v36 : (List TE)} {q3 q3' : (List TS) → (List TS) → Int → Int → Int → Option TTree} {v48 : (List TS)} {v50 : (List TS)} {v51 : Int} {v52 : Int} {v53 : Int} (H_rec_l_2 : ∀ x0 x1 x2 x3, LeO (q2 x0 x1 x2 x3) (q2' x0 x1 x2 x3)) (H_rec_l_3 : ∀ x0 x1 x2 x3 x4, LeO (q3 x0 x1 x2 x3 x4) (q3' x0 x1 x2 x3 x4)) : LeO (IL v27 v29 v31 v32 q2 v34 v36 q3 v48 v50 v51 v52 v53) (IL v27 v29 v31 v32 q2' v34 v36 q3' v48 v50 v51 v52 v53) := by
 unfold IL
 repeat' (first | apply H_rec_l_2 | apply H_rec_l_3 | apply Bp6 | assumption|with_reducible exact EZ _|with_reducible apply Pt|with_reducible refine Pj ?_ fun _ => ?_|exact EZ _|intro _)
theorem Ai0 {v27 : (List TS)} {v29 : (List Int)} {v31 : (List Int)} {v32 : Int} {q2 q2' : (List TS) → (List Int) → (List Int) → Int → Option TTree} {v34 : TKnot} {v36 : (List TE)} (H_rec_l_2 : ∀ x0 x1 x2 x3, LeO (q2 x0 x1 x2 x3) (q2' x0 x1 x2 x3)) : ∀ (m m' : Nat), m ≤ m' → ∀ v48 v50 v51 v52 v53, LeO (BY v27 v29 v31 v32 q2 v34 v36 m v48 v50 v51 v52 v53) (BY v27 v29 v31 v32 q2' v34 v36 m' v48 v50 v51 v52 v53)
 | 0, m', _, _, _, _, _, _ => (by rw [BY]; exact LeO.none _)
 | m + 1, 0, h, _, _, _, _, _ => absurd h (Nat.not_succ_le_zero _)
 | m + 1, m' + 1, h, v48, v50, v51, v52, v53 => (by rw [BY, BY]; exact Bf4 H_rec_l_2 (Ai0 H_rec_l_2 m m' (Nat.le_of_succ_le_succ h)))
theorem Bn2 {n n' : Nat} (hn : n ≤ n') {v27 : (List TS)} {v29 : (List Int)} {v31 : (List Int)} {v32 : Int} {q2 q2' : (List TS) → (List Int) → (List Int) → Int → Option TTree} {v34 : TKnot} {v36 : (List TE)} (H_rec_l_2 : ∀ x0 x1 x2 x3, LeO (q2 x0 x1 x2 x3) (q2' x0 x1 x2 x3)) {v48 : (List TS)} {v50 : (List TS)} {v51 : Int} {v52 : Int} {v53 : Int} : LeO (BY v27 v29 v31 v32 q2 v34 v36 n v48 v50 v51 v52 v53) (BY v27 v29 v31 v32 q2' v34 v36 n' v48 v50 v51 v52 v53) := Ai0 H_rec_l_2 n n' hn v48 v50 v51 v52 v53
theorem Bn0 {n n' : Nat} (hn : n ≤ n') {v27 : (List TS)} {v29 : (List Int)} {v31 : (List Int)} {v32 : Int} {q2 q2' : (List TS) → (List Int) → (List Int) → Int → Option TTree} {v34 : TKnot} {v36 : (List TE)} {v37 : Int} {v38 : Int} (H_rec_l_2 : ∀ x0 x1 x2 x3, LeO (q2 x0 x1 x2 x3) (q2' x0 x1 x2 x3)) : LeO (GR n v27 v29 v31 v32 q2 v34 v36 v37 v38) (GR n' v27 v29 v31 v32 q2' v34 v36 v37 v38) := by
 unfold GR
 repeat' (first | apply H_rec_l_2 | apply Bn2 hn | assumption|with_reducible exact EZ _|with_reducible apply Pt|with_reducible refine Pj ?_ fun _ => ?_|exact EZ _|intro _)
theorem Bm8 {n n' : Nat} (hn : n ≤ n') {v3 : (List TE)} {v5 : (List Int)} {v7 : (List Int)} {v27 : (List TS)} {v29 : (List Int)} {v31 : (List Int)} {v32 : Int} {q2 q2' : (List TS) → (List Int) → (List Int) → Int → Option TTree} {v34 : TKnot} {v36 : (List TE)} {v37 : Int} {v38 : Int} {v39 : Int} {q4 q4' : (List TE) → Int → Int → Int → Option TTree} {v40 : Bool} (H_rec_l_2 : ∀ x0 x1 x2 x3, LeO (q2 x0 x1 x2 x3) (q2' x0 x1 x2 x3)) (H_rec_l_4 : ∀ x0 x1 x2 x3, LeO (q4 x0 x1 x2 x3) (q4' x0 x1 x2 x3)) : LeO (E8 n v3 v5 v7 v27 v29 v31 v32 q2 v34 v36 v37 v38 v39 q4 v40) (E8 n' v3 v5 v7 v27 v29 v31 v32 q2' v34 v36 v37 v38 v39 q4' v40) := by
 unfold E8
 repeat' (first | apply H_rec_l_2 | apply H_rec_l_4 | apply AP8 | apply Bn0 hn | assumption|with_reducible exact EZ _|with_reducible apply Pt|with_reducible refine Pj ?_ fun _ => ?_|exact EZ _|intro _)
theorem Bl6 {n n' : Nat} (hn : n ≤ n') {v3 : (List TE)} {v5 : (List Int)} {v7 : (List Int)} {v27 : (List TS)} {v29 : (List Int)} {v31 : (List Int)} {v32 : Int} {q2 q2' : (List TS) → (List Int) → (List Int) → Int → Option TTree} {v34 : TKnot} {q4 q4' : (List TE) → Int → Int → Int → Option TTree} {v36 : (List TE)} {v37 : Int} {v38 : Int} {v39 : Int} (H_rec_l_2 : ∀ x0 x1 x2 x3, LeO (q2 x0 x1 x2 x3) (q2' x0 x1 x2 x3)) (H_rec_l_4 : ∀ x0 x1 x2 x3, LeO (q4 x0 x1 x2 x3) (q4' x0 x1 x2 x3)) : LeO (IJ n v3 v5 v7 v27 v29 v31 v32 q2 v34 q4 v36 v37 v38 v39) (IJ n' v3 v5 v7 v27 v29 v31 v32 q2' v34 q4' v36 v37 v38 v39) := by
 unfold IJ
 repeat' (first | apply H_rec_l_2 | apply H_rec_l_4 | apply Bm8 hn | assumption|with_reducible exact EZ _|with_reducible apply Pt|with_reducible refine Pj ?_ fun _ => ?_|exact EZ _|intro _)
theorem Ae0 {n n' : Nat} (hn : n ≤ n') {v3 : (List TE)} {v5 : (List Int)} {v7 : (List Int)} {v27 : (List TS)} {v29 : (List Int)} {v31 : (List Int)} {v32 : Int} {q2 q2' : (List TS) → (List Int) → (List Int) → Int → Option TTree} {v34 : TKnot} (H_rec_l_2 : ∀ x0 x1 x2 x3, LeO (q2 x0 x1 x2 x3) (q2' x0 x1 x2 x3)) : ∀ (m m' : Nat), m ≤ m' → ∀ v36 v37 v38 v39, LeO (Co n v3 v5 v7 v27 v29 v31 v32 q2 v34 m v36 v37 v38 v39) (Co n' v3 v5 v7 v27 v29 v31 v32 q2' v34 m' v36 v37 v38 v39)
 | 0, m', _, _, _, _, _ => (by rw [Co]; exact LeO.none _)
 | m + 1, 0, h, _, _, _, _ => absurd h (Nat.not_succ_le_zero _)
 | m + 1, m' + 1, h, v36, v37, v38, v39 => (by rw [Co, Co]; exact Bl6 hn H_rec_l_2 (Ae0 hn H_rec_l_2 m m' (Nat.le_of_succ_le_succ h)))
theorem Bn6 {n n' : Nat} (hn : n ≤ n') {v3 : (List TE)} {v5 : (List Int)} {v7 : (List Int)} {v27 : (List TS)} {v29 : (List Int)} {v31 : (List Int)} {v32 : Int} {q2 q2' : (List TS) → (List Int) → (List Int) → Int → Option TTree} {v34 : TKnot} (H_rec_l_2 : ∀ x0 x1 x2 x3, LeO (q2 x0 x1 x2 x3) (q2' x0 x1 x2 x3)) {v36 : (List TE)} {v37 : Int} {v38 : Int} {v39 : Int} : LeO (Co n v3 v5 v7 v27 v29 v31 v32 q2 v34 n v36 v37 v38 v39) (Co n' v3 v5 v7 v27 v29 v31 v32 q2' v34 n' v36 v37 v38 v39) := Ae0 hn H_rec_l_2 n n' hn v36 v37 v38 v39
theorem Bo0 {n n' : Nat} (hn : n ≤ n') {p1 : (List TKnot)} {v3 : (List TE)} {v5 : (List Int)} {v7 : (List Int)} {v27 : (List TS)} {v29 : (List Int)} {v31 : (List Int)} {v32 : Int} {q2 q2' : (List TS) → (List Int) → (List Int) → Int → Option TTree} {v33 : Bool} (H_rec_l_2 : ∀ x0 x1 x2 x3, LeO (q2 x0 x1 x2 x3) (q2' x0 x1 x2 x3)) : LeO (FW p1 n v3 v5 v7 v27 v29 v31 v32 q2 v33) (FW p1 n' v3 v5 v7 v27 v29 v31 v32 q2' v33) := by
 unfold FW
 repeat' (first | apply H_rec_l_2 | apply Bn6 hn | assumption|with_reducible exact EZ _|with_reducible apply Pt|with_reducible refine Pj ?_ fun _ => ?_|exact EZ _|intro _)
theorem Bf2 {n n' : Nat} (hn : n ≤ n') {p1 : (List TKnot)} {v3 : (List TE)} {v5 : (List Int)} {v7 : (List Int)} {q2 q2' : (List TS) → (List Int) → (List Int) → Int → Option TTree} {v27 : (List TS)} {v29 : (List Int)} {v31 : (List Int)} {v32 : Int} (H_rec_l_2 : ∀ x0 x1 x2 x3, LeO (q2 x0 x1 x2 x3) (q2' x0 x1 x2 x3)) : LeO (IE p1 n v3 v5 v7 q2 v27 v29 v31 v32) (IE p1 n' v3 v5 v7 q2' v27 v29 v31 v32) := by
 unfold IE
 repeat' (first | apply H_rec_l_2 | apply Bo0 hn | assumption|with_reducible exact EZ _|with_reducible apply Pt|with_reducible refine Pj ?_ fun _ => ?_|exact EZ _|intro _)
theorem Ad9 {n n' : Nat} (hn : n ≤ n') {p1 : (List TKnot)} {v3 : (List TE)} {v5 : (List Int)} {v7 : (List Int)}  : ∀ (m m' : Nat), m ≤ m' → ∀ v27 v29 v31 v32, LeO (B7 p1 n v3 v5 v7 m v27 v29 v31 v32) (B7 p1 n' v3 v5 v7 m' v27 v29 v31 v32)
 | 0, m', _, _, _, _, _ => (by rw [B7]; exact LeO.none _)
 | m + 1, 0, h, _, _, _, _ => absurd h (Nat.not_succ_le_zero _)
 | m + 1, m' + 1, h, v27, v29, v31, v32 => (by rw [B7, B7]; exact Bf2 hn  (Ad9 hn  m m' (Nat.le_of_succ_le_succ h)))
theorem Bp7 {n n' : Nat} (hn : n ≤ n') {p1 : (List TKnot)} {v3 : (List TE)} {v5 : (List Int)} {v7 : (List Int)}  {v27 : (List TS)} {v29 : (List Int)} {v31 : (List Int)} {v32 : Int} : LeO (B7 p1 n v3 v5 v7 n v27 v29 v31 v32) (B7 p1 n' v3 v5 v7 n' v27 v29 v31 v32) := Ad9 hn  n n' hn v27 v29 v31 v32
theorem Bo1 {n n' : Nat} (hn : n ≤ n') {p0 : (List TLeaf)} {p1 : (List TKnot)} {v3 : (List TE)} {v5 : (List Int)} {v7 : (List Int)} {v8 : Int} {q0 q0' : (List TE) → (List Int) → (List Int) → Int → Option TTree} {v9 : Bool} (H_rec_l_0 : ∀ x0 x1 x2 x3, LeO (q0 x0 x1 x2 x3) (q0' x0 x1 x2 x3)) : LeO (FR p0 p1 n v3 v5 v7 v8 q0 v9) (FR p0 p1 n' v3 v5 v7 v8 q0' v9) := by
 unfold FR
 repeat' (first | apply H_rec_l_0 | apply Bp3 hn | apply Bp7 hn | assumption|with_reducible exact EZ _|with_reducible apply Pt|with_reducible refine Pj ?_ fun _ => ?_|exact EZ _|intro _)
theorem Bg0 {n n' : Nat} (hn : n ≤ n') {p0 : (List TLeaf)} {p1 : (List TKnot)} {q0 q0' : (List TE) → (List Int) → (List Int) → Int → Option TTree} {v3 : (List TE)} {v5 : (List Int)} {v7 : (List Int)} {v8 : Int} (H_rec_l_0 : ∀ x0 x1 x2 x3, LeO (q0 x0 x1 x2 x3) (q0' x0 x1 x2 x3)) : LeO (IC p0 p1 n q0 v3 v5 v7 v8) (IC p0 p1 n' q0' v3 v5 v7 v8) := by
 unfold IC
 repeat' (first | apply H_rec_l_0 | apply Bo1 hn | assumption|with_reducible exact EZ _|with_reducible apply Pt|with_reducible refine Pj ?_ fun _ => ?_|exact EZ _|intro _)
theorem Ah3 {n n' : Nat} (hn : n ≤ n') {p0 : (List TLeaf)} {p1 : (List TKnot)}  : ∀ (m m' : Nat), m ≤ m' → ∀ v3 v5 v7 v8, LeO (Cp p0 p1 n m v3 v5 v7 v8) (Cp p0 p1 n' m' v3 v5 v7 v8)
 | 0, m', _, _, _, _, _ => (by rw [Cp]; exact LeO.none _)
 | m + 1, 0, h, _, _, _, _ => absurd h (Nat.not_succ_le_zero _)
 | m + 1, m' + 1, h, v3, v5, v7, v8 => (by rw [Cp, Cp]; exact Bg0 hn  (Ah3 hn  m m' (Nat.le_of_succ_le_succ h)))
theorem Bo3 {n n' : Nat} (hn : n ≤ n') {p0 : (List TLeaf)} {p1 : (List TKnot)}  {v3 : (List TE)} {v5 : (List Int)} {v7 : (List Int)} {v8 : Int} : LeO (Cp p0 p1 n n v3 v5 v7 v8) (Cp p0 p1 n' n' v3 v5 v7 v8) := Ah3 hn  n n' hn v3 v5 v7 v8
theorem BJ4 {n n' : Nat} (hn : n ≤ n') {p0 : (List TLeaf)} {p1 : (List TKnot)}  : LeO (MU n p0 p1) (MU n' p0 p1) := by
 unfold MU
 repeat' (first | apply Bo3 hn | assumption|with_reducible exact EZ _|with_reducible apply Pt|with_reducible refine Pj ?_ fun _ => ?_|exact EZ _|intro _)
end Go.Ax
