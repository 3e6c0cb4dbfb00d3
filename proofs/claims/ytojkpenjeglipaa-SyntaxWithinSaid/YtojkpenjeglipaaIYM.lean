import Derived.Test.YtojkpenjeglipaaIAxP
import Derived.Test.YtojkpenjeglipaaIYT
import Derived.Test.YtojkpenjeglipaaIYD0
import Derived.Test.YtojkpenjeglipaaIYD1
import Derived.Test.YtojkpenjeglipaaIYD2
import Derived.Test.YtojkpenjeglipaaIYD3
import Derived.Test.YtojkpenjeglipaaIYD4
import Derived.Test.YtojkpenjeglipaaIYD5
import Derived.Test.YtojkpenjeglipaaIYD6
import Derived.Test.YtojkpenjeglipaaIYD7
import Derived.Test.YtojkpenjeglipaaIYD8
import Derived.Test.YtojkpenjeglipaaIYD9
import Derived.Test.YtojkpenjeglipaaIYD10
import Derived.Test.YtojkpenjeglipaaIYD11
import Derived.Test.YtojkpenjeglipaaIYD12
import Derived.Test.YtojkpenjeglipaaIYD13
import Derived.Test.YtojkpenjeglipaaIYD14
import Derived.Test.YtojkpenjeglipaaIYD15
import Derived.Test.YtojkpenjeglipaaIYD16
import Derived.Test.YtojkpenjeglipaaIYD17
import Derived.Test.YtojkpenjeglipaaIYD18
import Derived.Test.YtojkpenjeglipaaIYD19
import Derived.Test.YtojkpenjeglipaaIYD20
set_option linter.unusedVariables false
set_option linter.unusedSimpArgs false
namespace Go.Ax
theorem TF {p0 : ByteArray} {q0 q0' : Int → Option Bool} {v1 : Int} (H_rec_l_0 : ∀ x0, LeO (q0 x0) (q0' x0)) : LeO (EI p0 q0 v1) (EI p0 q0' v1) := by
 unfold EI
 repeat' (first | apply H_rec_l_0 | assumption|with_reducible exact Be _|with_reducible apply CK|with_reducible refine CJ ?_ fun _ => ?_|exact Be _|intro _)
theorem Mr {p0 : ByteArray}  : ∀ (m m' : Nat), m ≤ m' → ∀ v1, LeO (BB p0 m v1) (BB p0 m' v1)
 | 0, m', _, _ => (by rw [BB]; exact LeO.none _)
 | m + 1, 0, h, _ => absurd h (Nat.not_succ_le_zero _)
 | m + 1, m' + 1, h, v1 => (by rw [BB, BB]; exact TF  (Mr  m m' (Nat.le_of_succ_le_succ h)))
theorem VJ {n n' : Nat} (hn : n ≤ n') {p0 : ByteArray}  {v1 : Int} : LeO (BB p0 n v1) (BB p0 n' v1) := Mr  n n' hn v1
theorem Z4 {n n' : Nat} (hn : n ≤ n') {p0 : ByteArray}  : LeO (FO n p0) (FO n' p0) := by
 unfold FO
 repeat' (first | apply VJ hn | assumption|with_reducible exact Be _|with_reducible apply CK|with_reducible refine CJ ?_ fun _ => ?_|exact Be _|intro _)
theorem Nb {v2 : Int} {q0 q0' : Int → Option Bool} {v3 : Int} {v4 : Bool} (H_rec_l_0 : ∀ x0, LeO (q0 x0) (q0' x0)) : LeO (Ce v2 q0 v3 v4) (Ce v2 q0' v3 v4) := by
 unfold Ce
 repeat' (first | apply H_rec_l_0 | assumption|with_reducible exact Be _|with_reducible apply CK|with_reducible refine CJ ?_ fun _ => ?_|exact Be _|intro _)
theorem Ml {p0 : ByteArray} {q0 q0' : Int → Option Bool} {v2 : Int} (H_rec_l_0 : ∀ x0, LeO (q0 x0) (q0' x0)) : LeO (Cu p0 q0 v2) (Cu p0 q0' v2) := by
 unfold Cu
 repeat' (first | apply H_rec_l_0 | apply Nb | assumption|with_reducible exact Be _|with_reducible apply CK|with_reducible refine CJ ?_ fun _ => ?_|exact Be _|intro _)
theorem HW {p0 : ByteArray}  : ∀ (m m' : Nat), m ≤ m' → ∀ v2, LeO (A4 p0 m v2) (A4 p0 m' v2)
 | 0, m', _, _ => (by rw [A4]; exact LeO.none _)
 | m + 1, 0, h, _ => absurd h (Nat.not_succ_le_zero _)
 | m + 1, m' + 1, h, v2 => (by rw [A4, A4]; exact Ml  (HW  m m' (Nat.le_of_succ_le_succ h)))
theorem Nk {n n' : Nat} (hn : n ≤ n') {p0 : ByteArray}  {v2 : Int} : LeO (A4 p0 n v2) (A4 p0 n' v2) := HW  n n' hn v2
theorem Nl {n n' : Nat} (hn : n ≤ n') {p0 : ByteArray} {v1 : Bool}  : LeO (B8 p0 n v1) (B8 p0 n' v1) := by
 unfold B8
 repeat' (first | apply Nk hn | assumption|with_reducible exact Be _|with_reducible apply CK|with_reducible refine CJ ?_ fun _ => ?_|exact Be _|intro _)
theorem PM {n n' : Nat} (hn : n ≤ n') {p0 : ByteArray}  : LeO (Cr n p0) (Cr n' p0) := by
 unfold Cr
 repeat' (first | apply Nl hn | assumption|with_reducible exact Be _|with_reducible apply CK|with_reducible refine CJ ?_ fun _ => ?_|exact Be _|intro _)
theorem JJ {n n' : Nat} (hn : n ≤ n') {p0 : ByteArray}  : LeO (Dr n p0) (Dr n' p0) := by
 unfold Dr
 repeat' (first | apply PM hn | apply Z4 hn | assumption|with_reducible exact Be _|with_reducible apply CK|with_reducible refine CJ ?_ fun _ => ?_|exact Be _|intro _)
theorem Zj {p1 : (List TKnot)} {q0 q0' : Int → Option Bool} {v8 : Int} {q1 q1' : Int → Option Bool} {v14 : Int} (H_rec_l_0 : ∀ x0, LeO (q0 x0) (q0' x0)) (H_rec_l_1 : ∀ x0, LeO (q1 x0) (q1' x0)) : LeO (HR p1 q0 v8 q1 v14) (HR p1 q0' v8 q1' v14) := by
 unfold HR
 repeat' (first | apply H_rec_l_0 | apply H_rec_l_1 | assumption|with_reducible exact Be _|with_reducible apply CK|with_reducible refine CJ ?_ fun _ => ?_|exact Be _|intro _)
theorem PS {p1 : (List TKnot)} {q0 q0' : Int → Option Bool} {v8 : Int} (H_rec_l_0 : ∀ x0, LeO (q0 x0) (q0' x0)) : ∀ (m m' : Nat), m ≤ m' → ∀ v14, LeO (Cp p1 q0 v8 m v14) (Cp p1 q0' v8 m' v14)
 | 0, m', _, _ => (by rw [Cp]; exact LeO.none _)
 | m + 1, 0, h, _ => absurd h (Nat.not_succ_le_zero _)
 | m + 1, m' + 1, h, v14 => (by rw [Cp, Cp]; exact Zj H_rec_l_0 (PS H_rec_l_0 m m' (Nat.le_of_succ_le_succ h)))
theorem Zz {n n' : Nat} (hn : n ≤ n') {p1 : (List TKnot)} {q0 q0' : Int → Option Bool} {v8 : Int} (H_rec_l_0 : ∀ x0, LeO (q0 x0) (q0' x0)) {v14 : Int} : LeO (Cp p1 q0 v8 n v14) (Cp p1 q0' v8 n' v14) := PS H_rec_l_0 n n' hn v14
theorem ZT {n n' : Nat} (hn : n ≤ n') {p1 : (List TKnot)} {q0 q0' : Int → Option Bool} {v8 : Int} {v13 : Bool} (H_rec_l_0 : ∀ x0, LeO (q0 x0) (q0' x0)) : LeO (Gz p1 n q0 v8 v13) (Gz p1 n' q0' v8 v13) := by
 unfold Gz
 repeat' (first | apply H_rec_l_0 | apply Zz hn | assumption|with_reducible exact Be _|with_reducible apply CK|with_reducible refine CJ ?_ fun _ => ?_|exact Be _|intro _)
theorem ZD {n n' : Nat} (hn : n ≤ n') {p1 : (List TKnot)} {q0 q0' : Int → Option Bool} {v8 : Int} {v11 : Bool} (H_rec_l_0 : ∀ x0, LeO (q0 x0) (q0' x0)) : LeO (GD p1 n q0 v8 v11) (GD p1 n' q0' v8 v11) := by
 unfold GD
 repeat' (first | apply H_rec_l_0 | apply ZT hn | assumption|with_reducible exact Be _|with_reducible apply CK|with_reducible refine CJ ?_ fun _ => ?_|exact Be _|intro _)
theorem Yj {n n' : Nat} (hn : n ≤ n') {p1 : (List TKnot)} {q0 q0' : Int → Option Bool} {v8 : Int} (H_rec_l_0 : ∀ x0, LeO (q0 x0) (q0' x0)) : LeO (HS p1 n q0 v8) (HS p1 n' q0' v8) := by
 unfold HS
 repeat' (first | apply H_rec_l_0 | apply ZD hn | assumption|with_reducible exact Be _|with_reducible apply CK|with_reducible refine CJ ?_ fun _ => ?_|exact Be _|intro _)
theorem Qd {n n' : Nat} (hn : n ≤ n') {p1 : (List TKnot)}  : ∀ (m m' : Nat), m ≤ m' → ∀ v8, LeO (Bv p1 n m v8) (Bv p1 n' m' v8)
 | 0, m', _, _ => (by rw [Bv]; exact LeO.none _)
 | m + 1, 0, h, _ => absurd h (Nat.not_succ_le_zero _)
 | m + 1, m' + 1, h, v8 => (by rw [Bv, Bv]; exact Yj hn  (Qd hn  m m' (Nat.le_of_succ_le_succ h)))
theorem Aa8 {n n' : Nat} (hn : n ≤ n') {p1 : (List TKnot)}  {v8 : Int} : LeO (Bv p1 n n v8) (Bv p1 n' n' v8) := Qd hn  n n' hn v8
theorem Ab3 {n n' : Nat} (hn : n ≤ n') {p1 : (List TKnot)}  : LeO (Hr p1 n) (Hr p1 n') := by
 unfold Hr
 repeat' (first | apply Aa8 hn | assumption|with_reducible exact Be _|with_reducible apply CK|with_reducible refine CJ ?_ fun _ => ?_|exact Be _|intro _)
theorem Ab1 {p0 : (List TLeaf)} {v3 : Int} {q2 q2' : Int → Option Bool} {v6 : Bool} (H_rec_l_2 : ∀ x0, LeO (q2 x0) (q2' x0)) : LeO (Gu p0 v3 q2 v6) (Gu p0 v3 q2' v6) := by
 unfold Gu
 repeat' (first | apply H_rec_l_2 | assumption|with_reducible exact Be _|with_reducible apply CK|with_reducible refine CJ ?_ fun _ => ?_|exact Be _|intro _)
theorem YP {n n' : Nat} (hn : n ≤ n') {p0 : (List TLeaf)} {p1 : (List TKnot)} {q2 q2' : Int → Option Bool} {v3 : Int} (H_rec_l_2 : ∀ x0, LeO (q2 x0) (q2' x0)) : LeO (HN p0 p1 n q2 v3) (HN p0 p1 n' q2' v3) := by
 unfold HN
 repeat' (first | apply H_rec_l_2 | apply Ab1 | apply Ab3 hn | assumption|with_reducible exact Be _|with_reducible apply CK|with_reducible refine CJ ?_ fun _ => ?_|exact Be _|intro _)
theorem Qv {n n' : Nat} (hn : n ≤ n') {p0 : (List TLeaf)} {p1 : (List TKnot)}  : ∀ (m m' : Nat), m ≤ m' → ∀ v3, LeO (CN p0 p1 n m v3) (CN p0 p1 n' m' v3)
 | 0, m', _, _ => (by rw [CN]; exact LeO.none _)
 | m + 1, 0, h, _ => absurd h (Nat.not_succ_le_zero _)
 | m + 1, m' + 1, h, v3 => (by rw [CN, CN]; exact YP hn  (Qv hn  m m' (Nat.le_of_succ_le_succ h)))
theorem Ab7 {n n' : Nat} (hn : n ≤ n') {p0 : (List TLeaf)} {p1 : (List TKnot)}  {v3 : Int} : LeO (CN p0 p1 n n v3) (CN p0 p1 n' n' v3) := Qv hn  n n' hn v3
theorem ZL {n n' : Nat} (hn : n ≤ n') {p0 : (List TLeaf)} {p1 : (List TKnot)} {v2 : Bool}  : LeO (Ff p0 p1 n v2) (Ff p0 p1 n' v2) := by
 unfold Ff
 repeat' (first | apply Ab7 hn | assumption|with_reducible exact Be _|with_reducible apply CK|with_reducible refine CJ ?_ fun _ => ?_|exact Be _|intro _)
theorem Y7 {n n' : Nat} (hn : n ≤ n') {p0 : (List TLeaf)} {p1 : (List TKnot)}  : LeO (Ke n p0 p1) (Ke n' p0 p1) := by
 unfold Ke
 repeat' (first | apply ZL hn | assumption|with_reducible exact Be _|with_reducible apply CK|with_reducible refine CJ ?_ fun _ => ?_|exact Be _|intro _)
theorem Vr {p0 : Int} {p1 : Int}  : LeO (Hi p0 p1) (Hi p0 p1) := by
 unfold Hi
 repeat' (first | assumption|with_reducible exact Be _|with_reducible apply CK|with_reducible refine CJ ?_ fun _ => ?_|exact Be _|intro _)
theorem ZN {v3 : (List TE)} {v5 : (List Int)} {v7 : (List Int)} {v8 : Int} {q0 q0' : (List TE) → (List Int) → (List Int) → Int → Option TTree} {v10 : TLeaf} {v12 : (List TE)} {v13 : Int} {v14 : Int} (H_rec_l_0 : ∀ x0 x1 x2 x3, LeO (q0 x0 x1 x2 x3) (q0' x0 x1 x2 x3)) : LeO (Gr v3 v5 v7 v8 q0 v10 v12 v13 v14) (Gr v3 v5 v7 v8 q0' v10 v12 v13 v14) := by
 unfold Gr
 repeat' (first | apply H_rec_l_0 | assumption|with_reducible exact Be _|with_reducible apply CK|with_reducible refine CJ ?_ fun _ => ?_|exact Be _|intro _)
theorem Aa4 {v3 : (List TE)} {v5 : (List Int)} {v7 : (List Int)} {v8 : Int} {q0 q0' : (List TE) → (List Int) → (List Int) → Int → Option TTree} {v10 : TLeaf} {v12 : (List TE)} {v13 : Int} {v14 : Int} {v15 : Int} {q1 q1' : (List TE) → Int → Int → Int → Option TTree} {v16 : Bool} (H_rec_l_0 : ∀ x0 x1 x2 x3, LeO (q0 x0 x1 x2 x3) (q0' x0 x1 x2 x3)) (H_rec_l_1 : ∀ x0 x1 x2 x3, LeO (q1 x0 x1 x2 x3) (q1' x0 x1 x2 x3)) : LeO (Fd v3 v5 v7 v8 q0 v10 v12 v13 v14 v15 q1 v16) (Fd v3 v5 v7 v8 q0' v10 v12 v13 v14 v15 q1' v16) := by
 unfold Fd
 repeat' (first | apply H_rec_l_0 | apply H_rec_l_1 | apply Vr | apply ZN | assumption|with_reducible exact Be _|with_reducible apply CK|with_reducible refine CJ ?_ fun _ => ?_|exact Be _|intro _)
theorem YI {v3 : (List TE)} {v5 : (List Int)} {v7 : (List Int)} {v8 : Int} {q0 q0' : (List TE) → (List Int) → (List Int) → Int → Option TTree} {v10 : TLeaf} {q1 q1' : (List TE) → Int → Int → Int → Option TTree} {v12 : (List TE)} {v13 : Int} {v14 : Int} {v15 : Int} (H_rec_l_0 : ∀ x0 x1 x2 x3, LeO (q0 x0 x1 x2 x3) (q0' x0 x1 x2 x3)) (H_rec_l_1 : ∀ x0 x1 x2 x3, LeO (q1 x0 x1 x2 x3) (q1' x0 x1 x2 x3)) : LeO (HH v3 v5 v7 v8 q0 v10 q1 v12 v13 v14 v15) (HH v3 v5 v7 v8 q0' v10 q1' v12 v13 v14 v15) := by
 unfold HH
 repeat' (first | apply H_rec_l_0 | apply H_rec_l_1 | apply Aa4 | assumption|with_reducible exact Be _|with_reducible apply CK|with_reducible refine CJ ?_ fun _ => ?_|exact Be _|intro _)
theorem QC {v3 : (List TE)} {v5 : (List Int)} {v7 : (List Int)} {v8 : Int} {q0 q0' : (List TE) → (List Int) → (List Int) → Int → Option TTree} {v10 : TLeaf} (H_rec_l_0 : ∀ x0 x1 x2 x3, LeO (q0 x0 x1 x2 x3) (q0' x0 x1 x2 x3)) : ∀ (m m' : Nat), m ≤ m' → ∀ v12 v13 v14 v15, LeO (CM v3 v5 v7 v8 q0 v10 m v12 v13 v14 v15) (CM v3 v5 v7 v8 q0' v10 m' v12 v13 v14 v15)
 | 0, m', _, _, _, _, _ => (by rw [CM]; exact LeO.none _)
 | m + 1, 0, h, _, _, _, _ => absurd h (Nat.not_succ_le_zero _)
 | m + 1, m' + 1, h, v12, v13, v14, v15 => (by rw [CM, CM]; exact YI H_rec_l_0 (QC H_rec_l_0 m m' (Nat.le_of_succ_le_succ h)))
theorem ZG {n n' : Nat} (hn : n ≤ n') {v3 : (List TE)} {v5 : (List Int)} {v7 : (List Int)} {v8 : Int} {q0 q0' : (List TE) → (List Int) → (List Int) → Int → Option TTree} {v10 : TLeaf} (H_rec_l_0 : ∀ x0 x1 x2 x3, LeO (q0 x0 x1 x2 x3) (q0' x0 x1 x2 x3)) {v12 : (List TE)} {v13 : Int} {v14 : Int} {v15 : Int} : LeO (CM v3 v5 v7 v8 q0 v10 n v12 v13 v14 v15) (CM v3 v5 v7 v8 q0' v10 n' v12 v13 v14 v15) := QC H_rec_l_0 n n' hn v12 v13 v14 v15
theorem Ab4 {v27 : (List TS)} {v29 : (List Int)} {v31 : (List Int)} {v32 : Int} {q2 q2' : (List TS) → (List Int) → (List Int) → Int → Option TTree} {v34 : TKnot} {v36 : (List TE)} {v48 : (List TS)} {v50 : (List TS)} {v51 : Int} {v52 : Int} (H_rec_l_2 : ∀ x0 x1 x2 x3, LeO (q2 x0 x1 x2 x3) (q2' x0 x1 x2 x3)) : LeO (Gs v27 v29 v31 v32 q2 v34 v36 v48 v50 v51 v52) (Gs v27 v29 v31 v32 q2' v34 v36 v48 v50 v51 v52) := by
 unfold Gs
 repeat' (first | apply H_rec_l_2 | assumption|with_reducible exact Be _|with_reducible apply CK|with_reducible refine CJ ?_ fun _ => ?_|exact Be _|intro _)
theorem Z1 {v27 : (List TS)} {v29 : (List Int)} {v31 : (List Int)} {v34 : TKnot} {q3 q3' : (List TS) → (List TS) → Int → Int → Int → Option TTree} {v48 : (List TS)} {v50 : (List TS)} {v51 : Int} {v52 : Int} {v53 : Int} {v59 : Int} (H_rec_l_3 : ∀ x0 x1 x2 x3 x4, LeO (q3 x0 x1 x2 x3 x4) (q3' x0 x1 x2 x3 x4)) : LeO (ED v27 v29 v31 v34 q3 v48 v50 v51 v52 v53 v59) (ED v27 v29 v31 v34 q3' v48 v50 v51 v52 v53 v59) := by
 unfold ED
 repeat' (first | apply H_rec_l_3 | assumption|with_reducible exact Be _|with_reducible apply CK|with_reducible refine CJ ?_ fun _ => ?_|exact Be _|intro _)
theorem Aa2 {v27 : (List TS)} {v29 : (List Int)} {v31 : (List Int)} {v32 : Int} {q2 q2' : (List TS) → (List Int) → (List Int) → Int → Option TTree} {v34 : TKnot} {v36 : (List TE)} {q3 q3' : (List TS) → (List TS) → Int → Int → Int → Option TTree} {v48 : (List TS)} {v50 : (List TS)} {v51 : Int} {v52 : Int} {v53 : Int} {v54 : Bool} (H_rec_l_2 : ∀ x0 x1 x2 x3, LeO (q2 x0 x1 x2 x3) (q2' x0 x1 x2 x3)) (H_rec_l_3 : ∀ x0 x1 x2 x3 x4, LeO (q3 x0 x1 x2 x3 x4) (q3' x0 x1 x2 x3 x4)) : LeO (EY v27 v29 v31 v32 q2 v34 v36 q3 v48 v50 v51 v52 v53 v54) (EY v27 v29 v31 v32 q2' v34 v36 q3' v48 v50 v51 v52 v53 v54) := by
 unfold EY
 repeat' (first | apply H_rec_l_2 | apply H_rec_l_3 | apply Vr | apply Z1 | apply Ab4 | assumption|with_reducible exact Be _|with_reducible apply CK|with_reducible refine CJ ?_ fun _ => ?_|exact Be _|intro _)
theorem Xy {v27 : (List TS)} {v29 : (List Int)} {v31 : (List Int)} {v32 : Int} {q2 q2' : (List TS) → (List Int) → (List Int) → Int → Option TTree} {v34 : TKnot} {v36 : (List TE)} {q3 q3' : (List TS) → (List TS) → Int → Int → Int → Option TTree} {v48 : (List TS)} {v50 : (List TS)} {v51 : Int} {v52 : Int} {v53 : Int} (H_rec_l_2 : ∀ x0 x1 x2 x3, LeO (q2 x0 x1 x2 x3) (q2' x0 x1 x2 x3)) (H_rec_l_3 : ∀ x0 x1 x2 x3 x4, LeO (q3 x0 x1 x2 x3 x4) (q3' x0 x1 x2 x3 x4)) : LeO (HP v27 v29 v31 v32 q2 v34 v36 q3 v48 v50 v51 v52 v53) (HP v27 v29 v31 v32 q2' v34 v36 q3' v48 v50 v51 v52 v53) := by
 unfold HP
 repeat' (first | apply H_rec_l_2 | apply H_rec_l_3 | apply Aa2 | assumption|with_reducible exact Be _|with_reducible apply CK|with_reducible refine CJ ?_ fun _ => ?_|exact Be _|intro _)
theorem QS {v27 : (List TS)} {v29 : (List Int)} {v31 : (List Int)} {v32 : Int} {q2 q2' : (List TS) → (List Int) → (List Int) → Int → Option TTree} {v34 : TKnot} {v36 : (List TE)} (H_rec_l_2 : ∀ x0 x1 x2 x3, LeO (q2 x0 x1 x2 x3) (q2' x0 x1 x2 x3)) : ∀ (m m' : Nat), m ≤ m' → ∀ v48 v50 v51 v52 v53, LeO (Cd v27 v29 v31 v32 q2 v34 v36 m v48 v50 v51 v52 v53) (Cd v27 v29 v31 v32 q2' v34 v36 m' v48 v50 v51 v52 v53)
 | 0, m', _, _, _, _, _, _ => (by rw [Cd]; exact LeO.none _)
 | m + 1, 0, h, _, _, _, _, _ => absurd h (Nat.not_succ_le_zero _)
 | m + 1, m' + 1, h, v48, v50, v51, v52, v53 => (by rw [Cd, Cd]; exact Xy H_rec_l_2 (QS H_rec_l_2 m m' (Nat.le_of_succ_le_succ h)))
theorem ZZ {n n' : Nat} (hn : n ≤ n') {v27 : (List TS)} {v29 : (List Int)} {v31 : (List Int)} {v32 : Int} {q2 q2' : (List TS) → (List Int) → (List Int) → Int → Option TTree} {v34 : TKnot} {v36 : (List TE)} (H_rec_l_2 : ∀ x0 x1 x2 x3, LeO (q2 x0 x1 x2 x3) (q2' x0 x1 x2 x3)) {v48 : (List TS)} {v50 : (List TS)} {v51 : Int} {v52 : Int} {v53 : Int} : LeO (Cd v27 v29 v31 v32 q2 v34 v36 n v48 v50 v51 v52 v53) (Cd v27 v29 v31 v32 q2' v34 v36 n' v48 v50 v51 v52 v53) := QS H_rec_l_2 n n' hn v48 v50 v51 v52 v53
theorem ZP {n n' : Nat} (hn : n ≤ n') {v27 : (List TS)} {v29 : (List Int)} {v31 : (List Int)} {v32 : Int} {q2 q2' : (List TS) → (List Int) → (List Int) → Int → Option TTree} {v34 : TKnot} {v36 : (List TE)} {v37 : Int} {v38 : Int} (H_rec_l_2 : ∀ x0 x1 x2 x3, LeO (q2 x0 x1 x2 x3) (q2' x0 x1 x2 x3)) : LeO (GF n v27 v29 v31 v32 q2 v34 v36 v37 v38) (GF n' v27 v29 v31 v32 q2' v34 v36 v37 v38) := by
 unfold GF
 repeat' (first | apply H_rec_l_2 | apply ZZ hn | assumption|with_reducible exact Be _|with_reducible apply CK|with_reducible refine CJ ?_ fun _ => ?_|exact Be _|intro _)
theorem Z8 {n n' : Nat} (hn : n ≤ n') {v3 : (List TE)} {v5 : (List Int)} {v7 : (List Int)} {v27 : (List TS)} {v29 : (List Int)} {v31 : (List Int)} {v32 : Int} {q2 q2' : (List TS) → (List Int) → (List Int) → Int → Option TTree} {v34 : TKnot} {v36 : (List TE)} {v37 : Int} {v38 : Int} {v39 : Int} {q4 q4' : (List TE) → Int → Int → Int → Option TTree} {v40 : Bool} (H_rec_l_2 : ∀ x0 x1 x2 x3, LeO (q2 x0 x1 x2 x3) (q2' x0 x1 x2 x3)) (H_rec_l_4 : ∀ x0 x1 x2 x3, LeO (q4 x0 x1 x2 x3) (q4' x0 x1 x2 x3)) : LeO (E9 n v3 v5 v7 v27 v29 v31 v32 q2 v34 v36 v37 v38 v39 q4 v40) (E9 n' v3 v5 v7 v27 v29 v31 v32 q2' v34 v36 v37 v38 v39 q4' v40) := by
 unfold E9
 repeat' (first | apply H_rec_l_2 | apply H_rec_l_4 | apply Vr | apply ZP hn | assumption|with_reducible exact Be _|with_reducible apply CK|with_reducible refine CJ ?_ fun _ => ?_|exact Be _|intro _)
theorem XJ {n n' : Nat} (hn : n ≤ n') {v3 : (List TE)} {v5 : (List Int)} {v7 : (List Int)} {v27 : (List TS)} {v29 : (List Int)} {v31 : (List Int)} {v32 : Int} {q2 q2' : (List TS) → (List Int) → (List Int) → Int → Option TTree} {v34 : TKnot} {q4 q4' : (List TE) → Int → Int → Int → Option TTree} {v36 : (List TE)} {v37 : Int} {v38 : Int} {v39 : Int} (H_rec_l_2 : ∀ x0 x1 x2 x3, LeO (q2 x0 x1 x2 x3) (q2' x0 x1 x2 x3)) (H_rec_l_4 : ∀ x0 x1 x2 x3, LeO (q4 x0 x1 x2 x3) (q4' x0 x1 x2 x3)) : LeO (HJ n v3 v5 v7 v27 v29 v31 v32 q2 v34 q4 v36 v37 v38 v39) (HJ n' v3 v5 v7 v27 v29 v31 v32 q2' v34 q4' v36 v37 v38 v39) := by
 unfold HJ
 repeat' (first | apply H_rec_l_2 | apply H_rec_l_4 | apply Z8 hn | assumption|with_reducible exact Be _|with_reducible apply CK|with_reducible refine CJ ?_ fun _ => ?_|exact Be _|intro _)
theorem PT {n n' : Nat} (hn : n ≤ n') {v3 : (List TE)} {v5 : (List Int)} {v7 : (List Int)} {v27 : (List TS)} {v29 : (List Int)} {v31 : (List Int)} {v32 : Int} {q2 q2' : (List TS) → (List Int) → (List Int) → Int → Option TTree} {v34 : TKnot} (H_rec_l_2 : ∀ x0 x1 x2 x3, LeO (q2 x0 x1 x2 x3) (q2' x0 x1 x2 x3)) : ∀ (m m' : Nat), m ≤ m' → ∀ v36 v37 v38 v39, LeO (CE n v3 v5 v7 v27 v29 v31 v32 q2 v34 m v36 v37 v38 v39) (CE n' v3 v5 v7 v27 v29 v31 v32 q2' v34 m' v36 v37 v38 v39)
 | 0, m', _, _, _, _, _ => (by rw [CE]; exact LeO.none _)
 | m + 1, 0, h, _, _, _, _ => absurd h (Nat.not_succ_le_zero _)
 | m + 1, m' + 1, h, v36, v37, v38, v39 => (by rw [CE, CE]; exact XJ hn H_rec_l_2 (PT hn H_rec_l_2 m m' (Nat.le_of_succ_le_succ h)))
theorem ZM {n n' : Nat} (hn : n ≤ n') {v3 : (List TE)} {v5 : (List Int)} {v7 : (List Int)} {v27 : (List TS)} {v29 : (List Int)} {v31 : (List Int)} {v32 : Int} {q2 q2' : (List TS) → (List Int) → (List Int) → Int → Option TTree} {v34 : TKnot} (H_rec_l_2 : ∀ x0 x1 x2 x3, LeO (q2 x0 x1 x2 x3) (q2' x0 x1 x2 x3)) {v36 : (List TE)} {v37 : Int} {v38 : Int} {v39 : Int} : LeO (CE n v3 v5 v7 v27 v29 v31 v32 q2 v34 n v36 v37 v38 v39) (CE n' v3 v5 v7 v27 v29 v31 v32 q2' v34 n' v36 v37 v38 v39) := PT hn H_rec_l_2 n n' hn v36 v37 v38 v39
theorem ZC {n n' : Nat} (hn : n ≤ n') {p1 : (List TKnot)} {v3 : (List TE)} {v5 : (List Int)} {v7 : (List Int)} {v27 : (List TS)} {v29 : (List Int)} {v31 : (List Int)} {v32 : Int} {q2 q2' : (List TS) → (List Int) → (List Int) → Int → Option TTree} {v33 : Bool} (H_rec_l_2 : ∀ x0 x1 x2 x3, LeO (q2 x0 x1 x2 x3) (q2' x0 x1 x2 x3)) : LeO (FQ p1 n v3 v5 v7 v27 v29 v31 v32 q2 v33) (FQ p1 n' v3 v5 v7 v27 v29 v31 v32 q2' v33) := by
 unfold FQ
 repeat' (first | apply H_rec_l_2 | apply ZM hn | assumption|with_reducible exact Be _|with_reducible apply CK|with_reducible refine CJ ?_ fun _ => ?_|exact Be _|intro _)
theorem Zd {n n' : Nat} (hn : n ≤ n') {p1 : (List TKnot)} {v3 : (List TE)} {v5 : (List Int)} {v7 : (List Int)} {q2 q2' : (List TS) → (List Int) → (List Int) → Int → Option TTree} {v27 : (List TS)} {v29 : (List Int)} {v31 : (List Int)} {v32 : Int} (H_rec_l_2 : ∀ x0 x1 x2 x3, LeO (q2 x0 x1 x2 x3) (q2' x0 x1 x2 x3)) : LeO (HV p1 n v3 v5 v7 q2 v27 v29 v31 v32) (HV p1 n' v3 v5 v7 q2' v27 v29 v31 v32) := by
 unfold HV
 repeat' (first | apply H_rec_l_2 | apply ZC hn | assumption|with_reducible exact Be _|with_reducible apply CK|with_reducible refine CJ ?_ fun _ => ?_|exact Be _|intro _)
theorem Qs {n n' : Nat} (hn : n ≤ n') {p1 : (List TKnot)} {v3 : (List TE)} {v5 : (List Int)} {v7 : (List Int)}  : ∀ (m m' : Nat), m ≤ m' → ∀ v27 v29 v31 v32, LeO (Cq p1 n v3 v5 v7 m v27 v29 v31 v32) (Cq p1 n' v3 v5 v7 m' v27 v29 v31 v32)
 | 0, m', _, _, _, _, _ => (by rw [Cq]; exact LeO.none _)
 | m + 1, 0, h, _, _, _, _ => absurd h (Nat.not_succ_le_zero _)
 | m + 1, m' + 1, h, v27, v29, v31, v32 => (by rw [Cq, Cq]; exact Zd hn  (Qs hn  m m' (Nat.le_of_succ_le_succ h)))
theorem ZB {n n' : Nat} (hn : n ≤ n') {p1 : (List TKnot)} {v3 : (List TE)} {v5 : (List Int)} {v7 : (List Int)}  {v27 : (List TS)} {v29 : (List Int)} {v31 : (List Int)} {v32 : Int} : LeO (Cq p1 n v3 v5 v7 n v27 v29 v31 v32) (Cq p1 n' v3 v5 v7 n' v27 v29 v31 v32) := Qs hn  n n' hn v27 v29 v31 v32
theorem ZE {n n' : Nat} (hn : n ≤ n') {p0 : (List TLeaf)} {p1 : (List TKnot)} {v3 : (List TE)} {v5 : (List Int)} {v7 : (List Int)} {v8 : Int} {q0 q0' : (List TE) → (List Int) → (List Int) → Int → Option TTree} {v9 : Bool} (H_rec_l_0 : ∀ x0 x1 x2 x3, LeO (q0 x0 x1 x2 x3) (q0' x0 x1 x2 x3)) : LeO (FK p0 p1 n v3 v5 v7 v8 q0 v9) (FK p0 p1 n' v3 v5 v7 v8 q0' v9) := by
 unfold FK
 repeat' (first | apply H_rec_l_0 | apply ZG hn | apply ZB hn | assumption|with_reducible exact Be _|with_reducible apply CK|with_reducible refine CJ ?_ fun _ => ?_|exact Be _|intro _)
theorem Y4 {n n' : Nat} (hn : n ≤ n') {p0 : (List TLeaf)} {p1 : (List TKnot)} {q0 q0' : (List TE) → (List Int) → (List Int) → Int → Option TTree} {v3 : (List TE)} {v5 : (List Int)} {v7 : (List Int)} {v8 : Int} (H_rec_l_0 : ∀ x0 x1 x2 x3, LeO (q0 x0 x1 x2 x3) (q0' x0 x1 x2 x3)) : LeO (HI p0 p1 n q0 v3 v5 v7 v8) (HI p0 p1 n' q0' v3 v5 v7 v8) := by
 unfold HI
 repeat' (first | apply H_rec_l_0 | apply ZE hn | assumption|with_reducible exact Be _|with_reducible apply CK|with_reducible refine CJ ?_ fun _ => ?_|exact Be _|intro _)
theorem QT {n n' : Nat} (hn : n ≤ n') {p0 : (List TLeaf)} {p1 : (List TKnot)}  : ∀ (m m' : Nat), m ≤ m' → ∀ v3 v5 v7 v8, LeO (CD p0 p1 n m v3 v5 v7 v8) (CD p0 p1 n' m' v3 v5 v7 v8)
 | 0, m', _, _, _, _, _ => (by rw [CD]; exact LeO.none _)
 | m + 1, 0, h, _, _, _, _ => absurd h (Nat.not_succ_le_zero _)
 | m + 1, m' + 1, h, v3, v5, v7, v8 => (by rw [CD, CD]; exact Y4 hn  (QT hn  m m' (Nat.le_of_succ_le_succ h)))
theorem Aa5 {n n' : Nat} (hn : n ≤ n') {p0 : (List TLeaf)} {p1 : (List TKnot)}  {v3 : (List TE)} {v5 : (List Int)} {v7 : (List Int)} {v8 : Int} : LeO (CD p0 p1 n n v3 v5 v7 v8) (CD p0 p1 n' n' v3 v5 v7 v8) := QT hn  n n' hn v3 v5 v7 v8
theorem XD {n n' : Nat} (hn : n ≤ n') {p0 : (List TLeaf)} {p1 : (List TKnot)}  : LeO (Kj n p0 p1) (Kj n' p0 p1) := by
 unfold Kj
 repeat' (first | apply Aa5 hn | assumption|with_reducible exact Be _|with_reducible apply CK|with_reducible refine CJ ?_ fun _ => ?_|exact Be _|intro _)
theorem ZA {p0 : TP} {v18 : Bool}  : LeO (GB p0 v18) (GB p0 v18) := by
 unfold GB
 repeat' (first | assumption|with_reducible exact Be _|with_reducible apply CK|with_reducible refine CJ ?_ fun _ => ?_|exact Be _|intro _)
theorem ZQ {p0 : TP} {v14 : Bool} {v17 : Bool}  : LeO (Gt p0 v14 v17) (Gt p0 v14 v17) := by
 unfold Gt
 repeat' (first | apply ZA | assumption|with_reducible exact Be _|with_reducible apply CK|with_reducible refine CJ ?_ fun _ => ?_|exact Be _|intro _)
theorem Aa6 {n n' : Nat} (hn : n ≤ n') {p0 : TP} {v14 : Bool}  : LeO (GA p0 n v14) (GA p0 n' v14) := by
 unfold GA
 repeat' (first | apply JJ hn | apply ZQ | assumption|with_reducible exact Be _|with_reducible apply CK|with_reducible refine CJ ?_ fun _ => ?_|exact Be _|intro _)
theorem Aa0 {n n' : Nat} (hn : n ≤ n') {p0 : TP} {v14 : Bool}  : LeO (Gv p0 n v14) (Gv p0 n' v14) := by
 unfold Gv
 repeat' (first | apply JJ hn | apply Aa6 hn | assumption|with_reducible exact Be _|with_reducible apply CK|with_reducible refine CJ ?_ fun _ => ?_|exact Be _|intro _)
theorem Ye {p0 : TP} {v2 : Int} {q0 q0' : Bool → Int → Option Bool} {v10 : Bool} {q1 q1' : Int → Option Bool} {v11 : Int} (H_rec_l_0 : ∀ x0 x1, LeO (q0 x0 x1) (q0' x0 x1)) (H_rec_l_1 : ∀ x0, LeO (q1 x0) (q1' x0)) : LeO (GT p0 v2 q0 v10 q1 v11) (GT p0 v2 q0' v10 q1' v11) := by
 unfold GT
 repeat' (first | apply H_rec_l_0 | apply H_rec_l_1 | assumption|with_reducible exact Be _|with_reducible apply CK|with_reducible refine CJ ?_ fun _ => ?_|exact Be _|intro _)
theorem Ql {p0 : TP} {v2 : Int} {q0 q0' : Bool → Int → Option Bool} {v10 : Bool} (H_rec_l_0 : ∀ x0 x1, LeO (q0 x0 x1) (q0' x0 x1)) : ∀ (m m' : Nat), m ≤ m' → ∀ v11, LeO (Co p0 v2 q0 v10 m v11) (Co p0 v2 q0' v10 m' v11)
 | 0, m', _, _ => (by rw [Co]; exact LeO.none _)
 | m + 1, 0, h, _ => absurd h (Nat.not_succ_le_zero _)
 | m + 1, m' + 1, h, v11 => (by rw [Co, Co]; exact Ye H_rec_l_0 (Ql H_rec_l_0 m m' (Nat.le_of_succ_le_succ h)))
theorem Ab6 {n n' : Nat} (hn : n ≤ n') {p0 : TP} {v2 : Int} {q0 q0' : Bool → Int → Option Bool} {v10 : Bool} (H_rec_l_0 : ∀ x0 x1, LeO (q0 x0 x1) (q0' x0 x1)) {v11 : Int} : LeO (Co p0 v2 q0 v10 n v11) (Co p0 v2 q0' v10 n' v11) := Ql H_rec_l_0 n n' hn v11
theorem Z2 {n n' : Nat} (hn : n ≤ n') {p0 : TP} {v2 : Int} {q0 q0' : Bool → Int → Option Bool} {v10 : Bool} (H_rec_l_0 : ∀ x0 x1, LeO (q0 x0 x1) (q0' x0 x1)) : LeO (Gx p0 n v2 q0 v10) (Gx p0 n' v2 q0' v10) := by
 unfold Gx
 repeat' (first | apply H_rec_l_0 | apply Ab6 hn | assumption|with_reducible exact Be _|with_reducible apply CK|with_reducible refine CJ ?_ fun _ => ?_|exact Be _|intro _)
theorem Aa9 {n n' : Nat} (hn : n ≤ n') {p0 : TP} {v1 : Bool} {v2 : Int} {q0 q0' : Bool → Int → Option Bool} {v8 : Bool} (H_rec_l_0 : ∀ x0 x1, LeO (q0 x0 x1) (q0' x0 x1)) : LeO (GC p0 n v1 v2 q0 v8) (GC p0 n' v1 v2 q0' v8) := by
 unfold GC
 repeat' (first | apply H_rec_l_0 | apply Z2 hn | assumption|with_reducible exact Be _|with_reducible apply CK|with_reducible refine CJ ?_ fun _ => ?_|exact Be _|intro _)
theorem ZO {n n' : Nat} (hn : n ≤ n') {p0 : TP} {v1 : Bool} {v2 : Int} {q0 q0' : Bool → Int → Option Bool} {v6 : Bool} (H_rec_l_0 : ∀ x0 x1, LeO (q0 x0 x1) (q0' x0 x1)) : LeO (GG p0 n v1 v2 q0 v6) (GG p0 n' v1 v2 q0' v6) := by
 unfold GG
 repeat' (first | apply H_rec_l_0 | apply Aa9 hn | assumption|with_reducible exact Be _|with_reducible apply CK|with_reducible refine CJ ?_ fun _ => ?_|exact Be _|intro _)
theorem Yg {n n' : Nat} (hn : n ≤ n') {p0 : TP} {q0 q0' : Bool → Int → Option Bool} {v1 : Bool} {v2 : Int} (H_rec_l_0 : ∀ x0 x1, LeO (q0 x0 x1) (q0' x0 x1)) : LeO (GY p0 n q0 v1 v2) (GY p0 n' q0' v1 v2) := by
 unfold GY
 repeat' (first | apply H_rec_l_0 | apply JJ hn | apply ZO hn | apply Aa0 hn | assumption|with_reducible exact Be _|with_reducible apply CK|with_reducible refine CJ ?_ fun _ => ?_|exact Be _|intro _)
theorem QK {n n' : Nat} (hn : n ≤ n') {p0 : TP}  : ∀ (m m' : Nat), m ≤ m' → ∀ v1 v2, LeO (Cz p0 n m v1 v2) (Cz p0 n' m' v1 v2)
 | 0, m', _, _, _ => (by rw [Cz]; exact LeO.none _)
 | m + 1, 0, h, _, _ => absurd h (Nat.not_succ_le_zero _)
 | m + 1, m' + 1, h, v1, v2 => (by rw [Cz, Cz]; exact Yg hn  (QK hn  m m' (Nat.le_of_succ_le_succ h)))
theorem Z6 {n n' : Nat} (hn : n ≤ n') {p0 : TP}  {v1 : Bool} {v2 : Int} : LeO (Cz p0 n n v1 v2) (Cz p0 n' n' v1 v2) := QK hn  n n' hn v1 v2
theorem Aw4 {n n' : Nat} (hn : n ≤ n') {p0 : TP}  : LeO (Jw n p0) (Jw n' p0) := by
 unfold Jw
 repeat' (first | apply Z6 hn | assumption|with_reducible exact Be _|with_reducible apply CK|with_reducible refine CJ ?_ fun _ => ?_|exact Be _|intro _)
theorem Ar3 {p0 : ByteArray} {p1 : Int} {q0 q0' : Int → Option Bool} {v2 : Int} (H_rec_l_0 : ∀ x0, LeO (q0 x0) (q0' x0)) : LeO (JP p0 p1 q0 v2) (JP p0 p1 q0' v2) := by
 unfold JP
 repeat' (first | apply H_rec_l_0 | assumption|with_reducible exact Be _|with_reducible apply CK|with_reducible refine CJ ?_ fun _ => ?_|exact Be _|intro _)
theorem WD {p0 : ByteArray} {p1 : Int}  : ∀ (m m' : Nat), m ≤ m' → ∀ v2, LeO (EG p0 p1 m v2) (EG p0 p1 m' v2)
 | 0, m', _, _ => (by rw [EG]; exact LeO.none _)
 | m + 1, 0, h, _ => absurd h (Nat.not_succ_le_zero _)
 | m + 1, m' + 1, h, v2 => (by rw [EG, EG]; exact Ar3  (WD  m m' (Nat.le_of_succ_le_succ h)))
theorem Av6 {n n' : Nat} (hn : n ≤ n') {p0 : ByteArray} {p1 : Int}  {v2 : Int} : LeO (EG p0 p1 n v2) (EG p0 p1 n' v2) := WD  n n' hn v2
theorem Ay0 {n n' : Nat} (hn : n ≤ n') {p0 : ByteArray} {p1 : Int}  : LeO (FP n p0 p1) (FP n' p0 p1) := by
 unfold FP
 repeat' (first | apply Av6 hn | assumption|with_reducible exact Be _|with_reducible apply CK|with_reducible refine CJ ?_ fun _ => ?_|exact Be _|intro _)
theorem Sg {p0 : TE} {s_RBuiltExpr s_RBuiltExpr' : TE → Option Bool} {v13 : Int} {q0 q0' : Int → Option Bool} {v18 : Int} (H_s_RBuiltExpr : ∀ x0, LeO (s_RBuiltExpr x0) (s_RBuiltExpr' x0)) (H_rec_l_0 : ∀ x0, LeO (q0 x0) (q0' x0)) : LeO (Eb p0 s_RBuiltExpr v13 q0 v18) (Eb p0 s_RBuiltExpr' v13 q0' v18) := by
 unfold Eb
 repeat' (first | apply H_s_RBuiltExpr | apply H_rec_l_0 | assumption|with_reducible exact Be _|with_reducible apply CK|with_reducible refine CJ ?_ fun _ => ?_|exact Be _|intro _)
theorem Ls {p0 : TE} {s_RBuiltExpr s_RBuiltExpr' : TE → Option Bool} {v13 : Int} (H_s_RBuiltExpr : ∀ x0, LeO (s_RBuiltExpr x0) (s_RBuiltExpr' x0)) : ∀ (m m' : Nat), m ≤ m' → ∀ v18, LeO (Bu p0 s_RBuiltExpr v13 m v18) (Bu p0 s_RBuiltExpr' v13 m' v18)
 | 0, m', _, _ => (by rw [Bu]; exact LeO.none _)
 | m + 1, 0, h, _ => absurd h (Nat.not_succ_le_zero _)
 | m + 1, m' + 1, h, v18 => (by rw [Bu, Bu]; exact Sg H_s_RBuiltExpr (Ls H_s_RBuiltExpr m m' (Nat.le_of_succ_le_succ h)))
theorem TN {n n' : Nat} (hn : n ≤ n') {p0 : TE} {s_RBuiltExpr s_RBuiltExpr' : TE → Option Bool} {v13 : Int} (H_s_RBuiltExpr : ∀ x0, LeO (s_RBuiltExpr x0) (s_RBuiltExpr' x0)) {v18 : Int} : LeO (Bu p0 s_RBuiltExpr v13 n v18) (Bu p0 s_RBuiltExpr' v13 n' v18) := Ls H_s_RBuiltExpr n n' hn v18
theorem Un {n n' : Nat} (hn : n ≤ n') {p0 : TE} {s_RBuiltExpr s_RBuiltExpr' : TE → Option Bool} {v13 : Int} {v17 : Bool} (H_s_RBuiltExpr : ∀ x0, LeO (s_RBuiltExpr x0) (s_RBuiltExpr' x0)) : LeO (DU p0 s_RBuiltExpr n v13 v17) (DU p0 s_RBuiltExpr' n' v13 v17) := by
 unfold DU
 repeat' (first | apply H_s_RBuiltExpr | apply TN hn | assumption|with_reducible exact Be _|with_reducible apply CK|with_reducible refine CJ ?_ fun _ => ?_|exact Be _|intro _)
theorem S0 {n n' : Nat} (hn : n ≤ n') {p0 : TE} {s_RBuiltExpr s_RBuiltExpr' : TE → Option Bool} {v13 : Int} {v16 : Bool} (H_s_RBuiltExpr : ∀ x0, LeO (s_RBuiltExpr x0) (s_RBuiltExpr' x0)) : LeO (DL p0 s_RBuiltExpr n v13 v16) (DL p0 s_RBuiltExpr' n' v13 v16) := by
 unfold DL
 repeat' (first | apply H_s_RBuiltExpr | apply Un hn | assumption|with_reducible exact Be _|with_reducible apply CK|with_reducible refine CJ ?_ fun _ => ?_|exact Be _|intro _)
theorem UP {n n' : Nat} (hn : n ≤ n') {p0 : TE} {s_RBuiltExpr s_RBuiltExpr' : TE → Option Bool} {v12 : ByteArray} {v13 : Int} {v15 : Bool} (H_s_RBuiltExpr : ∀ x0, LeO (s_RBuiltExpr x0) (s_RBuiltExpr' x0)) : LeO (DS p0 s_RBuiltExpr n v12 v13 v15) (DS p0 s_RBuiltExpr' n' v12 v13 v15) := by
 unfold DS
 repeat' (first | apply H_s_RBuiltExpr | apply S0 hn | assumption|with_reducible exact Be _|with_reducible apply CK|with_reducible refine CJ ?_ fun _ => ?_|exact Be _|intro _)
theorem UM {n n' : Nat} (hn : n ≤ n') {p0 : TE} {s_RBuiltExpr s_RBuiltExpr' : TE → Option Bool} {v11 : ByteArray} {v12 : ByteArray} {v13 : Int} {v14 : Bool} (H_s_RBuiltExpr : ∀ x0, LeO (s_RBuiltExpr x0) (s_RBuiltExpr' x0)) : LeO (DR p0 s_RBuiltExpr n v11 v12 v13 v14) (DR p0 s_RBuiltExpr' n' v11 v12 v13 v14) := by
 unfold DR
 repeat' (first | apply H_s_RBuiltExpr | apply UP hn | assumption|with_reducible exact Be _|with_reducible apply CK|with_reducible refine CJ ?_ fun _ => ?_|exact Be _|intro _)
theorem Hk {n n' : Nat} (hn : n ≤ n') {p0 : TE} {s_RBuiltExpr s_RBuiltExpr' : TE → Option Bool} {v9 : Int} {v10 : ByteArray} {v11 : ByteArray} {v12 : ByteArray} {v13 : Int} (H_s_RBuiltExpr : ∀ x0, LeO (s_RBuiltExpr x0) (s_RBuiltExpr' x0)) : LeO (BJ p0 s_RBuiltExpr n v9 v10 v11 v12 v13) (BJ p0 s_RBuiltExpr' n' v9 v10 v11 v12 v13) := by
 unfold BJ
 repeat' (first | apply H_s_RBuiltExpr | apply UM hn | assumption|with_reducible exact Be _|with_reducible apply CK|with_reducible refine CJ ?_ fun _ => ?_|exact Be _|intro _)
theorem Vn {n n' : Nat} (hn : n ≤ n') {p0 : TE} {s_RBuiltExpr s_RBuiltExpr' : TE → Option Bool} {v5 : ByteArray} {v6 : Int} (H_s_RBuiltExpr : ∀ x0, LeO (s_RBuiltExpr x0) (s_RBuiltExpr' x0)) : LeO (DK p0 s_RBuiltExpr n v5 v6) (DK p0 s_RBuiltExpr' n' v5 v6) := by
 unfold DK
 repeat' (first | apply H_s_RBuiltExpr | apply JJ hn | apply Hk hn | assumption|with_reducible exact Be _|with_reducible apply CK|with_reducible refine CJ ?_ fun _ => ?_|exact Be _|intro _)
theorem Tm {n n' : Nat} (hn : n ≤ n') {p0 : TE} {s_RBuiltExpr s_RBuiltExpr' : TE → Option Bool} {v5 : ByteArray} (H_s_RBuiltExpr : ∀ x0, LeO (s_RBuiltExpr x0) (s_RBuiltExpr' x0)) : LeO (DN p0 s_RBuiltExpr n v5) (DN p0 s_RBuiltExpr' n' v5) := by
 unfold DN
 repeat' (first | apply H_s_RBuiltExpr | apply Vn hn | apply Hk hn | assumption|with_reducible exact Be _|with_reducible apply CK|with_reducible refine CJ ?_ fun _ => ?_|exact Be _|intro _)
theorem Vb {n n' : Nat} (hn : n ≤ n') {p0 : TE} {s_RBuiltExpr s_RBuiltExpr' : TE → Option Bool} {v8 : Bool} (H_s_RBuiltExpr : ∀ x0, LeO (s_RBuiltExpr x0) (s_RBuiltExpr' x0)) : LeO (DO p0 s_RBuiltExpr n v8) (DO p0 s_RBuiltExpr' n' v8) := by
 unfold DO
 repeat' (first | apply H_s_RBuiltExpr | apply Hk hn | assumption|with_reducible exact Be _|with_reducible apply CK|with_reducible refine CJ ?_ fun _ => ?_|exact Be _|intro _)
theorem T6 {n n' : Nat} (hn : n ≤ n') {p0 : TE} {s_RBuiltExpr s_RBuiltExpr' : TE → Option Bool} {v2 : Bool} (H_s_RBuiltExpr : ∀ x0, LeO (s_RBuiltExpr x0) (s_RBuiltExpr' x0)) : LeO (Dl p0 s_RBuiltExpr n v2) (Dl p0 s_RBuiltExpr' n' v2) := by
 unfold Dl
 repeat' (first | apply H_s_RBuiltExpr | apply JJ hn | apply Tm hn | apply Vb hn | assumption|with_reducible exact Be _|with_reducible apply CK|with_reducible refine CJ ?_ fun _ => ?_|exact Be _|intro _)
theorem Ue {n n' : Nat} (hn : n ≤ n') {p0 : TE} {s_RBuiltExpr s_RBuiltExpr' : TE → Option Bool} {v1 : Bool} (H_s_RBuiltExpr : ∀ x0, LeO (s_RBuiltExpr x0) (s_RBuiltExpr' x0)) : LeO (DQ p0 s_RBuiltExpr n v1) (DQ p0 s_RBuiltExpr' n' v1) := by
 unfold DQ
 repeat' (first | apply H_s_RBuiltExpr | apply T6 hn | assumption|with_reducible exact Be _|with_reducible apply CK|with_reducible refine CJ ?_ fun _ => ?_|exact Be _|intro _)
theorem Vt {n n' : Nat} (hn : n ≤ n') {s_RBuiltExpr s_RBuiltExpr' : TE → Option Bool} {p0 : TE} (H_s_RBuiltExpr : ∀ x0, LeO (s_RBuiltExpr x0) (s_RBuiltExpr' x0)) : LeO (Fp s_RBuiltExpr n p0) (Fp s_RBuiltExpr' n' p0) := by
 unfold Fp
 repeat' (first | apply H_s_RBuiltExpr | apply Hk hn | apply Ue hn | assumption|with_reducible exact Be _|with_reducible apply CK|with_reducible refine CJ ?_ fun _ => ?_|exact Be _|intro _)
theorem RJ : ∀ (n n' : Nat), n ≤ n' → (∀ (p0 : TE), LeO (By n p0) (By n' p0))
 | 0, n', _ => fun _ => (by rw [By]; exact LeO.none _)
 | n + 1, 0, h => absurd h (Nat.not_succ_le_zero _)
 | n + 1, n' + 1, h => fun p0 => (by rw [By, By]; exact Vt (Nat.le_of_succ_le_succ h) (RJ n n' (Nat.le_of_succ_le_succ h)))
theorem Ya {n n' : Nat} (hn : n ≤ n') {p0 : TE} : LeO (By n p0) (By n' p0) := (RJ n n' hn) p0
theorem ZK {p0 : TS} {s_RBlocks s_RBlocks' : (List TS) → Option Bool} (H_s_RBlocks : ∀ x0, LeO (s_RBlocks x0) (s_RBlocks' x0)) : LeO (GI p0 s_RBlocks) (GI p0 s_RBlocks') := by
 unfold GI
 repeat' (first | apply H_s_RBlocks | assumption|with_reducible exact Be _|with_reducible apply CK|with_reducible refine CJ ?_ fun _ => ?_|exact Be _|intro _)
theorem Zl {n n' : Nat} (hn : n ≤ n') {p0 : TS} {s_RBlocks s_RBlocks' : (List TS) → Option Bool} {q0 q0' : Int → Option Bool} {v27 : Int} (H_s_RBlocks : ∀ x0, LeO (s_RBlocks x0) (s_RBlocks' x0)) (H_rec_l_0 : ∀ x0, LeO (q0 x0) (q0' x0)) : LeO (GQ p0 s_RBlocks n q0 v27) (GQ p0 s_RBlocks' n' q0' v27) := by
 unfold GQ
 repeat' (first | apply H_s_RBlocks | apply H_rec_l_0 | apply Ya hn | apply ZK | assumption|with_reducible exact Be _|with_reducible apply CK|with_reducible refine CJ ?_ fun _ => ?_|exact Be _|intro _)
theorem Qc {n n' : Nat} (hn : n ≤ n') {p0 : TS} {s_RBlocks s_RBlocks' : (List TS) → Option Bool} (H_s_RBlocks : ∀ x0, LeO (s_RBlocks x0) (s_RBlocks' x0)) : ∀ (m m' : Nat), m ≤ m' → ∀ v27, LeO (CC p0 s_RBlocks n m v27) (CC p0 s_RBlocks' n' m' v27)
 | 0, m', _, _ => (by rw [CC]; exact LeO.none _)
 | m + 1, 0, h, _ => absurd h (Nat.not_succ_le_zero _)
 | m + 1, m' + 1, h, v27 => (by rw [CC, CC]; exact Zl hn H_s_RBlocks (Qc hn H_s_RBlocks m m' (Nat.le_of_succ_le_succ h)))
theorem ZX {n n' : Nat} (hn : n ≤ n') {p0 : TS} {s_RBlocks s_RBlocks' : (List TS) → Option Bool} (H_s_RBlocks : ∀ x0, LeO (s_RBlocks x0) (s_RBlocks' x0)) {v27 : Int} : LeO (CC p0 s_RBlocks n n v27) (CC p0 s_RBlocks' n' n' v27) := Qc hn H_s_RBlocks n n' hn v27
theorem ZR {n n' : Nat} (hn : n ≤ n') {p0 : TS} {s_RBlocks s_RBlocks' : (List TS) → Option Bool} (H_s_RBlocks : ∀ x0, LeO (s_RBlocks x0) (s_RBlocks' x0)) : LeO (Fj p0 s_RBlocks n) (Fj p0 s_RBlocks' n') := by
 unfold Fj
 repeat' (first | apply H_s_RBlocks | apply ZX hn | assumption|with_reducible exact Be _|with_reducible apply CK|with_reducible refine CJ ?_ fun _ => ?_|exact Be _|intro _)
theorem Ab2 {n n' : Nat} (hn : n ≤ n') {p0 : TS} {s_RBlocks s_RBlocks' : (List TS) → Option Bool} {v25 : Bool} {v26 : Bool} (H_s_RBlocks : ∀ x0, LeO (s_RBlocks x0) (s_RBlocks' x0)) : LeO (FJ p0 s_RBlocks n v25 v26) (FJ p0 s_RBlocks' n' v25 v26) := by
 unfold FJ
 repeat' (first | apply H_s_RBlocks | apply ZR hn | assumption|with_reducible exact Be _|with_reducible apply CK|with_reducible refine CJ ?_ fun _ => ?_|exact Be _|intro _)
theorem ZU {n n' : Nat} (hn : n ≤ n') {p0 : TS} {s_RBlocks s_RBlocks' : (List TS) → Option Bool} {v25 : Bool} (H_s_RBlocks : ∀ x0, LeO (s_RBlocks x0) (s_RBlocks' x0)) : LeO (Fe p0 s_RBlocks n v25) (Fe p0 s_RBlocks' n' v25) := by
 unfold Fe
 repeat' (first | apply H_s_RBlocks | apply Ab2 hn | assumption|with_reducible exact Be _|with_reducible apply CK|with_reducible refine CJ ?_ fun _ => ?_|exact Be _|intro _)
theorem Z5 {n n' : Nat} (hn : n ≤ n') {p0 : TS} {s_RBlocks s_RBlocks' : (List TS) → Option Bool} (H_s_RBlocks : ∀ x0, LeO (s_RBlocks x0) (s_RBlocks' x0)) : LeO (FI p0 s_RBlocks n) (FI p0 s_RBlocks' n') := by
 unfold FI
 repeat' (first | apply H_s_RBlocks | apply ZU hn | assumption|with_reducible exact Be _|with_reducible apply CK|with_reducible refine CJ ?_ fun _ => ?_|exact Be _|intro _)
theorem YJ {p0 : TS} {v19 : Int} {q1 q1' : Int → Option Bool} {q2 q2' : Int → Option Bool} {v22 : Int} (H_rec_l_1 : ∀ x0, LeO (q1 x0) (q1' x0)) (H_rec_l_2 : ∀ x0, LeO (q2 x0) (q2' x0)) : LeO (GV p0 v19 q1 q2 v22) (GV p0 v19 q1' q2' v22) := by
 unfold GV
 repeat' (first | apply H_rec_l_1 | apply H_rec_l_2 | assumption|with_reducible exact Be _|with_reducible apply CK|with_reducible refine CJ ?_ fun _ => ?_|exact Be _|intro _)
theorem Qf {p0 : TS} {v19 : Int} {q1 q1' : Int → Option Bool} (H_rec_l_1 : ∀ x0, LeO (q1 x0) (q1' x0)) : ∀ (m m' : Nat), m ≤ m' → ∀ v22, LeO (Cn p0 v19 q1 m v22) (Cn p0 v19 q1' m' v22)
 | 0, m', _, _ => (by rw [Cn]; exact LeO.none _)
 | m + 1, 0, h, _ => absurd h (Nat.not_succ_le_zero _)
 | m + 1, m' + 1, h, v22 => (by rw [Cn, Cn]; exact YJ H_rec_l_1 (Qf H_rec_l_1 m m' (Nat.le_of_succ_le_succ h)))
theorem Ab0 {n n' : Nat} (hn : n ≤ n') {p0 : TS} {v19 : Int} {q1 q1' : Int → Option Bool} (H_rec_l_1 : ∀ x0, LeO (q1 x0) (q1' x0)) {v22 : Int} : LeO (Cn p0 v19 q1 n v22) (Cn p0 v19 q1' n' v22) := Qf H_rec_l_1 n n' hn v22
theorem Zy {n n' : Nat} (hn : n ≤ n') {p0 : TS} {s_RBlocks s_RBlocks' : (List TS) → Option Bool} {q1 q1' : Int → Option Bool} {v19 : Int} (H_s_RBlocks : ∀ x0, LeO (s_RBlocks x0) (s_RBlocks' x0)) (H_rec_l_1 : ∀ x0, LeO (q1 x0) (q1' x0)) : LeO (GJ p0 s_RBlocks n q1 v19) (GJ p0 s_RBlocks' n' q1' v19) := by
 unfold GJ
 repeat' (first | apply H_s_RBlocks | apply H_rec_l_1 | apply JJ hn | apply Ab0 hn | apply Z5 hn | assumption|with_reducible exact Be _|with_reducible apply CK|with_reducible refine CJ ?_ fun _ => ?_|exact Be _|intro _)
theorem Rh {n n' : Nat} (hn : n ≤ n') {p0 : TS} {s_RBlocks s_RBlocks' : (List TS) → Option Bool} (H_s_RBlocks : ∀ x0, LeO (s_RBlocks x0) (s_RBlocks' x0)) : ∀ (m m' : Nat), m ≤ m' → ∀ v19, LeO (CB p0 s_RBlocks n m v19) (CB p0 s_RBlocks' n' m' v19)
 | 0, m', _, _ => (by rw [CB]; exact LeO.none _)
 | m + 1, 0, h, _ => absurd h (Nat.not_succ_le_zero _)
 | m + 1, m' + 1, h, v19 => (by rw [CB, CB]; exact Zy hn H_s_RBlocks (Rh hn H_s_RBlocks m m' (Nat.le_of_succ_le_succ h)))
theorem Z7 {n n' : Nat} (hn : n ≤ n') {p0 : TS} {s_RBlocks s_RBlocks' : (List TS) → Option Bool} (H_s_RBlocks : ∀ x0, LeO (s_RBlocks x0) (s_RBlocks' x0)) {v19 : Int} : LeO (CB p0 s_RBlocks n n v19) (CB p0 s_RBlocks' n' n' v19) := Rh hn H_s_RBlocks n n' hn v19
theorem Z9 {n n' : Nat} (hn : n ≤ n') {p0 : TS} {s_RBlocks s_RBlocks' : (List TS) → Option Bool} (H_s_RBlocks : ∀ x0, LeO (s_RBlocks x0) (s_RBlocks' x0)) : LeO (CA p0 s_RBlocks n) (CA p0 s_RBlocks' n') := by
 unfold CA
 repeat' (first | apply H_s_RBlocks | apply Z7 hn | assumption|with_reducible exact Be _|with_reducible apply CK|with_reducible refine CJ ?_ fun _ => ?_|exact Be _|intro _)
theorem ZF {n n' : Nat} (hn : n ≤ n') {p0 : TS} {s_RBlocks s_RBlocks' : (List TS) → Option Bool} {v2 : ByteArray} (H_s_RBlocks : ∀ x0, LeO (s_RBlocks x0) (s_RBlocks' x0)) : LeO (CY p0 s_RBlocks n v2) (CY p0 s_RBlocks' n' v2) := by
 unfold CY
 repeat' (first | apply H_s_RBlocks | apply Ay0 hn | apply Z9 hn | assumption|with_reducible exact Be _|with_reducible apply CK|with_reducible refine CJ ?_ fun _ => ?_|exact Be _|intro _)
theorem ZV {n n' : Nat} (hn : n ≤ n') {p0 : TS} {s_RBlocks s_RBlocks' : (List TS) → Option Bool} {v1 : Bool} (H_s_RBlocks : ∀ x0, LeO (s_RBlocks x0) (s_RBlocks' x0)) : LeO (EX p0 s_RBlocks n v1) (EX p0 s_RBlocks' n' v1) := by
 unfold EX
 repeat' (first | apply H_s_RBlocks | apply Ay0 hn | apply JJ hn | apply ZF hn | assumption|with_reducible exact Be _|with_reducible apply CK|with_reducible refine CJ ?_ fun _ => ?_|exact Be _|intro _)
theorem Aj0 {n n' : Nat} (hn : n ≤ n') {s_RBuilt s_RBuilt' : TS → Option Bool} {s_RBlocks s_RBlocks' : (List TS) → Option Bool} {p0 : TS} (H_s_RBuilt : ∀ x0, LeO (s_RBuilt x0) (s_RBuilt' x0)) (H_s_RBlocks : ∀ x0, LeO (s_RBlocks x0) (s_RBlocks' x0)) : LeO (IA s_RBuilt s_RBlocks n p0) (IA s_RBuilt' s_RBlocks' n' p0) := by
 unfold IA
 repeat' (first | apply H_s_RBuilt | apply H_s_RBlocks | apply ZV hn | assumption|with_reducible exact Be _|with_reducible apply CK|with_reducible refine CJ ?_ fun _ => ?_|exact Be _|intro _)
theorem Xn {p0 : (List TS)} {s_RBuilt s_RBuilt' : TS → Option Bool} {q0 q0' : Int → Option Bool} {v1 : Int} (H_s_RBuilt : ∀ x0, LeO (s_RBuilt x0) (s_RBuilt' x0)) (H_rec_l_0 : ∀ x0, LeO (q0 x0) (q0' x0)) : LeO (FZ p0 s_RBuilt q0 v1) (FZ p0 s_RBuilt' q0' v1) := by
 unfold FZ
 repeat' (first | apply H_s_RBuilt | apply H_rec_l_0 | assumption|with_reducible exact Be _|with_reducible apply CK|with_reducible refine CJ ?_ fun _ => ?_|exact Be _|intro _)
theorem PI {p0 : (List TS)} {s_RBuilt s_RBuilt' : TS → Option Bool} (H_s_RBuilt : ∀ x0, LeO (s_RBuilt x0) (s_RBuilt' x0)) : ∀ (m m' : Nat), m ≤ m' → ∀ v1, LeO (B7 p0 s_RBuilt m v1) (B7 p0 s_RBuilt' m' v1)
 | 0, m', _, _ => (by rw [B7]; exact LeO.none _)
 | m + 1, 0, h, _ => absurd h (Nat.not_succ_le_zero _)
 | m + 1, m' + 1, h, v1 => (by rw [B7, B7]; exact Xn H_s_RBuilt (PI H_s_RBuilt m m' (Nat.le_of_succ_le_succ h)))
theorem Y9 {n n' : Nat} (hn : n ≤ n') {p0 : (List TS)} {s_RBuilt s_RBuilt' : TS → Option Bool} (H_s_RBuilt : ∀ x0, LeO (s_RBuilt x0) (s_RBuilt' x0)) {v1 : Int} : LeO (B7 p0 s_RBuilt n v1) (B7 p0 s_RBuilt' n' v1) := PI H_s_RBuilt n n' hn v1
theorem Z0 {n n' : Nat} (hn : n ≤ n') {s_RBuilt s_RBuilt' : TS → Option Bool} {s_RBlocks s_RBlocks' : (List TS) → Option Bool} {p0 : (List TS)} (H_s_RBuilt : ∀ x0, LeO (s_RBuilt x0) (s_RBuilt' x0)) (H_s_RBlocks : ∀ x0, LeO (s_RBlocks x0) (s_RBlocks' x0)) : LeO (HF s_RBuilt s_RBlocks n p0) (HF s_RBuilt' s_RBlocks' n' p0) := by
 unfold HF
 repeat' (first | apply H_s_RBuilt | apply H_s_RBlocks | apply Y9 hn | assumption|with_reducible exact Be _|with_reducible apply CK|with_reducible refine CJ ?_ fun _ => ?_|exact Be _|intro _)
theorem Ny : ∀ (n n' : Nat), n ≤ n' → (∀ (p0 : TS), LeO (Dp n p0) (Dp n' p0)) ∧ (∀ (p0 : (List TS)), LeO (B3 n p0) (B3 n' p0))
 | 0, n', _ => ⟨fun _ => (by rw [Dp]; exact LeO.none _), fun _ => (by rw [B3]; exact LeO.none _)⟩
 | n + 1, 0, h => absurd h (Nat.not_succ_le_zero _)
 | n + 1, n' + 1, h => ⟨fun p0 => (by rw [Dp, Dp]; exact Aj0 (Nat.le_of_succ_le_succ h) (Ny n n' (Nat.le_of_succ_le_succ h)).1 (Ny n n' (Nat.le_of_succ_le_succ h)).2), fun p0 => (by rw [B3, B3]; exact Z0 (Nat.le_of_succ_le_succ h) (Ny n n' (Nat.le_of_succ_le_succ h)).1 (Ny n n' (Nat.le_of_succ_le_succ h)).2)⟩
theorem Ap1 {n n' : Nat} (hn : n ≤ n') {p0 : (List TS)} : LeO (B3 n p0) (B3 n' p0) := (Ny n n' hn).2 p0
theorem Au0 {n n' : Nat} (hn : n ≤ n') {p0 : LSay} {v6 : TTree} {v8 : (List TS)} {v9 : Int} {v10 : Int} {v11 : Int} {q0 q0' : (List TS) → Int → Int → Int → Option (TP × Int × Int × Bool × Bool)} {v12 : Bool} (H_rec_l_0 : ∀ x0 x1 x2 x3, LeO (q0 x0 x1 x2 x3) (q0' x0 x1 x2 x3)) : LeO (H8 p0 n v6 v8 v9 v10 v11 q0 v12) (H8 p0 n' v6 v8 v9 v10 v11 q0' v12) := by
 unfold H8
 repeat' (first | apply H_rec_l_0 | apply Aw4 hn | apply Ap1 hn | assumption|with_reducible exact Be _|with_reducible apply CK|with_reducible refine CJ ?_ fun _ => ?_|exact Be _|intro _)
theorem An8 {n n' : Nat} (hn : n ≤ n') {p0 : LSay} {v6 : TTree} {q0 q0' : (List TS) → Int → Int → Int → Option (TP × Int × Int × Bool × Bool)} {v8 : (List TS)} {v9 : Int} {v10 : Int} {v11 : Int} (H_rec_l_0 : ∀ x0 x1 x2 x3, LeO (q0 x0 x1 x2 x3) (q0' x0 x1 x2 x3)) : LeO (IP p0 n v6 q0 v8 v9 v10 v11) (IP p0 n' v6 q0' v8 v9 v10 v11) := by
 unfold IP
 repeat' (first | apply H_rec_l_0 | apply Au0 hn | assumption|with_reducible exact Be _|with_reducible apply CK|with_reducible refine CJ ?_ fun _ => ?_|exact Be _|intro _)
theorem WV {n n' : Nat} (hn : n ≤ n') {p0 : LSay} {v6 : TTree}  : ∀ (m m' : Nat), m ≤ m' → ∀ v8 v9 v10 v11, LeO (DB p0 n v6 m v8 v9 v10 v11) (DB p0 n' v6 m' v8 v9 v10 v11)
 | 0, m', _, _, _, _, _ => (by rw [DB]; exact LeO.none _)
 | m + 1, 0, h, _, _, _, _ => absurd h (Nat.not_succ_le_zero _)
 | m + 1, m' + 1, h, v8, v9, v10, v11 => (by rw [DB, DB]; exact An8 hn  (WV hn  m m' (Nat.le_of_succ_le_succ h)))
theorem Au3 {n n' : Nat} (hn : n ≤ n') {p0 : LSay} {v6 : TTree}  {v8 : (List TS)} {v9 : Int} {v10 : Int} {v11 : Int} : LeO (DB p0 n v6 n v8 v9 v10 v11) (DB p0 n' v6 n' v8 v9 v10 v11) := WV hn  n n' hn v8 v9 v10 v11
theorem Aw0 {n n' : Nat} (hn : n ≤ n') {p0 : LSay} {v5 : Bool}  : LeO (H5 p0 n v5) (H5 p0 n' v5) := by
 unfold H5
 repeat' (first | apply XD hn | apply Au3 hn | assumption|with_reducible exact Be _|with_reducible apply CK|with_reducible refine CJ ?_ fun _ => ?_|exact Be _|intro _)
theorem At5 {n n' : Nat} (hn : n ≤ n') {p0 : LSay} {v4 : Bool}  : LeO (FX p0 n v4) (FX p0 n' v4) := by
 unfold FX
 repeat' (first | apply Aw0 hn | assumption|with_reducible exact Be _|with_reducible apply CK|with_reducible refine CJ ?_ fun _ => ?_|exact Be _|intro _)
theorem Aw1 {n n' : Nat} (hn : n ≤ n') {p0 : LSay} {v3 : Bool}  : LeO (FY p0 n v3) (FY p0 n' v3) := by
 unfold FY
 repeat' (first | apply At5 hn | assumption|with_reducible exact Be _|with_reducible apply CK|with_reducible refine CJ ?_ fun _ => ?_|exact Be _|intro _)
theorem Av5 {n n' : Nat} (hn : n ≤ n') {p0 : LSay} {v2 : Bool}  : LeO (FN p0 n v2) (FN p0 n' v2) := by
 unfold FN
 repeat' (first | apply Aw1 hn | assumption|with_reducible exact Be _|with_reducible apply CK|with_reducible refine CJ ?_ fun _ => ?_|exact Be _|intro _)
theorem AM9 {n n' : Nat} (hn : n ≤ n') {p0 : LSay}  : LeO (Md n p0) (Md n' p0) := by
 unfold Md
 repeat' (first | apply Y7 hn | apply Av5 hn | assumption|with_reducible exact Be _|with_reducible apply CK|with_reducible refine CJ ?_ fun _ => ?_|exact Be _|intro _)
end Go.Ax
