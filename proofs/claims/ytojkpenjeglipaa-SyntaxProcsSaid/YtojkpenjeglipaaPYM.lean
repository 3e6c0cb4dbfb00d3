import Derived.Test.YtojkpenjeglipaaPAxP
import Derived.Test.YtojkpenjeglipaaPYT
import Derived.Test.YtojkpenjeglipaaPYD0
import Derived.Test.YtojkpenjeglipaaPYD1
import Derived.Test.YtojkpenjeglipaaPYD2
import Derived.Test.YtojkpenjeglipaaPYD3
import Derived.Test.YtojkpenjeglipaaPYD4
import Derived.Test.YtojkpenjeglipaaPYD5
import Derived.Test.YtojkpenjeglipaaPYD6
import Derived.Test.YtojkpenjeglipaaPYD7
import Derived.Test.YtojkpenjeglipaaPYD8
import Derived.Test.YtojkpenjeglipaaPYD9
import Derived.Test.YtojkpenjeglipaaPYD10
import Derived.Test.YtojkpenjeglipaaPYD11
import Derived.Test.YtojkpenjeglipaaPYD12
import Derived.Test.YtojkpenjeglipaaPYD13
import Derived.Test.YtojkpenjeglipaaPYD14
import Derived.Test.YtojkpenjeglipaaPYD15
import Derived.Test.YtojkpenjeglipaaPYD16
import Derived.Test.YtojkpenjeglipaaPYD17
import Derived.Test.YtojkpenjeglipaaPYD18
import Derived.Test.YtojkpenjeglipaaPYD19
import Derived.Test.YtojkpenjeglipaaPYD20
set_option linter.unusedVariables false
set_option linter.unusedSimpArgs false
namespace Go.Ax
theorem TW {p0 : ByteArray} {q0 q0' : Int → Option Bool} {v1 : Int} (H_rec_l_0 : ∀ x0, LeO (q0 x0) (q0' x0)) : LeO (ES p0 q0 v1) (ES p0 q0' v1) := by
 unfold ES
 repeat' (first | apply H_rec_l_0 | assumption|with_reducible exact Be _|with_reducible apply CL|with_reducible refine CJ ?_ fun _ => ?_|exact Be _|intro _)
theorem MP {p0 : ByteArray}  : ∀ (m m' : Nat), m ≤ m' → ∀ v1, LeO (BF p0 m v1) (BF p0 m' v1)
 | 0, m', _, _ => (by rw [BF]; exact LeO.none _)
 | m + 1, 0, h, _ => absurd h (Nat.not_succ_le_zero _)
 | m + 1, m' + 1, h, v1 => (by rw [BF, BF]; exact TW  (MP  m m' (Nat.le_of_succ_le_succ h)))
theorem Ws {n n' : Nat} (hn : n ≤ n') {p0 : ByteArray}  {v1 : Int} : LeO (BF p0 n v1) (BF p0 n' v1) := MP  n n' hn v1
theorem Ag6 {n n' : Nat} (hn : n ≤ n') {p0 : ByteArray}  : LeO (F4 n p0) (F4 n' p0) := by
 unfold F4
 repeat' (first | apply Ws hn | assumption|with_reducible exact Be _|with_reducible apply CL|with_reducible refine CJ ?_ fun _ => ?_|exact Be _|intro _)
theorem Nz {v2 : Int} {q0 q0' : Int → Option Bool} {v3 : Int} {v4 : Bool} (H_rec_l_0 : ∀ x0, LeO (q0 x0) (q0' x0)) : LeO (Ch v2 q0 v3 v4) (Ch v2 q0' v3 v4) := by
 unfold Ch
 repeat' (first | apply H_rec_l_0 | assumption|with_reducible exact Be _|with_reducible apply CL|with_reducible refine CJ ?_ fun _ => ?_|exact Be _|intro _)
theorem Mx {p0 : ByteArray} {q0 q0' : Int → Option Bool} {v2 : Int} (H_rec_l_0 : ∀ x0, LeO (q0 x0) (q0' x0)) : LeO (Cw p0 q0 v2) (Cw p0 q0' v2) := by
 unfold Cw
 repeat' (first | apply H_rec_l_0 | apply Nz | assumption|with_reducible exact Be _|with_reducible apply CL|with_reducible refine CJ ?_ fun _ => ?_|exact Be _|intro _)
theorem Ih {p0 : ByteArray}  : ∀ (m m' : Nat), m ≤ m' → ∀ v2, LeO (A6 p0 m v2) (A6 p0 m' v2)
 | 0, m', _, _ => (by rw [A6]; exact LeO.none _)
 | m + 1, 0, h, _ => absurd h (Nat.not_succ_le_zero _)
 | m + 1, m' + 1, h, v2 => (by rw [A6, A6]; exact Mx  (Ih  m m' (Nat.le_of_succ_le_succ h)))
theorem NJ {n n' : Nat} (hn : n ≤ n') {p0 : ByteArray}  {v2 : Int} : LeO (A6 p0 n v2) (A6 p0 n' v2) := Ih  n n' hn v2
theorem NG {n n' : Nat} (hn : n ≤ n') {p0 : ByteArray} {v1 : Bool}  : LeO (Cb p0 n v1) (Cb p0 n' v1) := by
 unfold Cb
 repeat' (first | apply NJ hn | assumption|with_reducible exact Be _|with_reducible apply CL|with_reducible refine CJ ?_ fun _ => ?_|exact Be _|intro _)
theorem Qn {n n' : Nat} (hn : n ≤ n') {p0 : ByteArray}  : LeO (Ct n p0) (Ct n' p0) := by
 unfold Ct
 repeat' (first | apply NG hn | assumption|with_reducible exact Be _|with_reducible apply CL|with_reducible refine CJ ?_ fun _ => ?_|exact Be _|intro _)
theorem Kl {n n' : Nat} (hn : n ≤ n') {p0 : ByteArray}  : LeO (Du n p0) (Du n' p0) := by
 unfold Du
 repeat' (first | apply Qn hn | apply Ag6 hn | assumption|with_reducible exact Be _|with_reducible apply CL|with_reducible refine CJ ?_ fun _ => ?_|exact Be _|intro _)
theorem Zk {p1 : (List TKnot)} {q0 q0' : Int → Option Bool} {v8 : Int} {q1 q1' : Int → Option Bool} {v14 : Int} (H_rec_l_0 : ∀ x0, LeO (q0 x0) (q0' x0)) (H_rec_l_1 : ∀ x0, LeO (q1 x0) (q1' x0)) : LeO (H6 p1 q0 v8 q1 v14) (H6 p1 q0' v8 q1' v14) := by
 unfold H6
 repeat' (first | apply H_rec_l_0 | apply H_rec_l_1 | assumption|with_reducible exact Be _|with_reducible apply CL|with_reducible refine CJ ?_ fun _ => ?_|exact Be _|intro _)
theorem QT {p1 : (List TKnot)} {q0 q0' : Int → Option Bool} {v8 : Int} (H_rec_l_0 : ∀ x0, LeO (q0 x0) (q0' x0)) : ∀ (m m' : Nat), m ≤ m' → ∀ v14, LeO (Cp p1 q0 v8 m v14) (Cp p1 q0' v8 m' v14)
 | 0, m', _, _ => (by rw [Cp]; exact LeO.none _)
 | m + 1, 0, h, _ => absurd h (Nat.not_succ_le_zero _)
 | m + 1, m' + 1, h, v14 => (by rw [Cp, Cp]; exact Zk H_rec_l_0 (QT H_rec_l_0 m m' (Nat.le_of_succ_le_succ h)))
theorem Ag1 {n n' : Nat} (hn : n ≤ n') {p1 : (List TKnot)} {q0 q0' : Int → Option Bool} {v8 : Int} (H_rec_l_0 : ∀ x0, LeO (q0 x0) (q0' x0)) {v14 : Int} : LeO (Cp p1 q0 v8 n v14) (Cp p1 q0' v8 n' v14) := QT H_rec_l_0 n n' hn v14
theorem Af9 {n n' : Nat} (hn : n ≤ n') {p1 : (List TKnot)} {q0 q0' : Int → Option Bool} {v8 : Int} {v13 : Bool} (H_rec_l_0 : ∀ x0, LeO (q0 x0) (q0' x0)) : LeO (GT p1 n q0 v8 v13) (GT p1 n' q0' v8 v13) := by
 unfold GT
 repeat' (first | apply H_rec_l_0 | apply Ag1 hn | assumption|with_reducible exact Be _|with_reducible apply CL|with_reducible refine CJ ?_ fun _ => ?_|exact Be _|intro _)
theorem Ag5 {n n' : Nat} (hn : n ≤ n') {p1 : (List TKnot)} {q0 q0' : Int → Option Bool} {v8 : Int} {v11 : Bool} (H_rec_l_0 : ∀ x0, LeO (q0 x0) (q0' x0)) : LeO (GP p1 n q0 v8 v11) (GP p1 n' q0' v8 v11) := by
 unfold GP
 repeat' (first | apply H_rec_l_0 | apply Af9 hn | assumption|with_reducible exact Be _|with_reducible apply CL|with_reducible refine CJ ?_ fun _ => ?_|exact Be _|intro _)
theorem Ac3 {n n' : Nat} (hn : n ≤ n') {p1 : (List TKnot)} {q0 q0' : Int → Option Bool} {v8 : Int} (H_rec_l_0 : ∀ x0, LeO (q0 x0) (q0' x0)) : LeO (H2 p1 n q0 v8) (H2 p1 n' q0' v8) := by
 unfold H2
 repeat' (first | apply H_rec_l_0 | apply Ag5 hn | assumption|with_reducible exact Be _|with_reducible apply CL|with_reducible refine CJ ?_ fun _ => ?_|exact Be _|intro _)
theorem Ra {n n' : Nat} (hn : n ≤ n') {p1 : (List TKnot)}  : ∀ (m m' : Nat), m ≤ m' → ∀ v8, LeO (BA p1 n m v8) (BA p1 n' m' v8)
 | 0, m', _, _ => (by rw [BA]; exact LeO.none _)
 | m + 1, 0, h, _ => absurd h (Nat.not_succ_le_zero _)
 | m + 1, m' + 1, h, v8 => (by rw [BA, BA]; exact Ac3 hn  (Ra hn  m m' (Nat.le_of_succ_le_succ h)))
theorem Ae0 {n n' : Nat} (hn : n ≤ n') {p1 : (List TKnot)}  {v8 : Int} : LeO (BA p1 n n v8) (BA p1 n' n' v8) := Ra hn  n n' hn v8
theorem Ae2 {n n' : Nat} (hn : n ≤ n') {p1 : (List TKnot)}  : LeO (HI p1 n) (HI p1 n') := by
 unfold HI
 repeat' (first | apply Ae0 hn | assumption|with_reducible exact Be _|with_reducible apply CL|with_reducible refine CJ ?_ fun _ => ?_|exact Be _|intro _)
theorem Ag2 {p0 : (List TLeaf)} {v3 : Int} {q2 q2' : Int → Option Bool} {v6 : Bool} (H_rec_l_2 : ∀ x0, LeO (q2 x0) (q2' x0)) : LeO (GJ p0 v3 q2 v6) (GJ p0 v3 q2' v6) := by
 unfold GJ
 repeat' (first | apply H_rec_l_2 | assumption|with_reducible exact Be _|with_reducible apply CL|with_reducible refine CJ ?_ fun _ => ?_|exact Be _|intro _)
theorem ZU {n n' : Nat} (hn : n ≤ n') {p0 : (List TLeaf)} {p1 : (List TKnot)} {q2 q2' : Int → Option Bool} {v3 : Int} (H_rec_l_2 : ∀ x0, LeO (q2 x0) (q2' x0)) : LeO (HY p0 p1 n q2 v3) (HY p0 p1 n' q2' v3) := by
 unfold HY
 repeat' (first | apply H_rec_l_2 | apply Ag2 | apply Ae2 hn | assumption|with_reducible exact Be _|with_reducible apply CL|with_reducible refine CJ ?_ fun _ => ?_|exact Be _|intro _)
theorem QY {n n' : Nat} (hn : n ≤ n') {p0 : (List TLeaf)} {p1 : (List TKnot)}  : ∀ (m m' : Nat), m ≤ m' → ∀ v3, LeO (CN p0 p1 n m v3) (CN p0 p1 n' m' v3)
 | 0, m', _, _ => (by rw [CN]; exact LeO.none _)
 | m + 1, 0, h, _ => absurd h (Nat.not_succ_le_zero _)
 | m + 1, m' + 1, h, v3 => (by rw [CN, CN]; exact ZU hn  (QY hn  m m' (Nat.le_of_succ_le_succ h)))
theorem Ah5 {n n' : Nat} (hn : n ≤ n') {p0 : (List TLeaf)} {p1 : (List TKnot)}  {v3 : Int} : LeO (CN p0 p1 n n v3) (CN p0 p1 n' n' v3) := QY hn  n n' hn v3
theorem Ae7 {n n' : Nat} (hn : n ≤ n') {p0 : (List TLeaf)} {p1 : (List TKnot)} {v2 : Bool}  : LeO (Fo p0 p1 n v2) (Fo p0 p1 n' v2) := by
 unfold Fo
 repeat' (first | apply Ah5 hn | assumption|with_reducible exact Be _|with_reducible apply CL|with_reducible refine CJ ?_ fun _ => ?_|exact Be _|intro _)
theorem Y5 {n n' : Nat} (hn : n ≤ n') {p0 : (List TLeaf)} {p1 : (List TKnot)}  : LeO (Ky n p0 p1) (Ky n' p0 p1) := by
 unfold Ky
 repeat' (first | apply Ae7 hn | assumption|with_reducible exact Be _|with_reducible apply CL|with_reducible refine CJ ?_ fun _ => ?_|exact Be _|intro _)
theorem Wo {p0 : Int} {p1 : Int}  : LeO (Ht p0 p1) (Ht p0 p1) := by
 unfold Ht
 repeat' (first | assumption|with_reducible exact Be _|with_reducible apply CL|with_reducible refine CJ ?_ fun _ => ?_|exact Be _|intro _)
theorem Ag3 {v3 : (List TE)} {v5 : (List Int)} {v7 : (List Int)} {v8 : Int} {q0 q0' : (List TE) → (List Int) → (List Int) → Int → Option TTree} {v10 : TLeaf} {v12 : (List TE)} {v13 : Int} {v14 : Int} (H_rec_l_0 : ∀ x0 x1 x2 x3, LeO (q0 x0 x1 x2 x3) (q0' x0 x1 x2 x3)) : LeO (GK v3 v5 v7 v8 q0 v10 v12 v13 v14) (GK v3 v5 v7 v8 q0' v10 v12 v13 v14) := by
 unfold GK
 repeat' (first | apply H_rec_l_0 | assumption|with_reducible exact Be _|with_reducible apply CL|with_reducible refine CJ ?_ fun _ => ?_|exact Be _|intro _)
theorem Ag0 {v3 : (List TE)} {v5 : (List Int)} {v7 : (List Int)} {v8 : Int} {q0 q0' : (List TE) → (List Int) → (List Int) → Int → Option TTree} {v10 : TLeaf} {v12 : (List TE)} {v13 : Int} {v14 : Int} {v15 : Int} {q1 q1' : (List TE) → Int → Int → Int → Option TTree} {v16 : Bool} (H_rec_l_0 : ∀ x0 x1 x2 x3, LeO (q0 x0 x1 x2 x3) (q0' x0 x1 x2 x3)) (H_rec_l_1 : ∀ x0 x1 x2 x3, LeO (q1 x0 x1 x2 x3) (q1' x0 x1 x2 x3)) : LeO (Fd v3 v5 v7 v8 q0 v10 v12 v13 v14 v15 q1 v16) (Fd v3 v5 v7 v8 q0' v10 v12 v13 v14 v15 q1' v16) := by
 unfold Fd
 repeat' (first | apply H_rec_l_0 | apply H_rec_l_1 | apply Wo | apply Ag3 | assumption|with_reducible exact Be _|with_reducible apply CL|with_reducible refine CJ ?_ fun _ => ?_|exact Be _|intro _)
theorem YA {v3 : (List TE)} {v5 : (List Int)} {v7 : (List Int)} {v8 : Int} {q0 q0' : (List TE) → (List Int) → (List Int) → Int → Option TTree} {v10 : TLeaf} {q1 q1' : (List TE) → Int → Int → Int → Option TTree} {v12 : (List TE)} {v13 : Int} {v14 : Int} {v15 : Int} (H_rec_l_0 : ∀ x0 x1 x2 x3, LeO (q0 x0 x1 x2 x3) (q0' x0 x1 x2 x3)) (H_rec_l_1 : ∀ x0 x1 x2 x3, LeO (q1 x0 x1 x2 x3) (q1' x0 x1 x2 x3)) : LeO (H3 v3 v5 v7 v8 q0 v10 q1 v12 v13 v14 v15) (H3 v3 v5 v7 v8 q0' v10 q1' v12 v13 v14 v15) := by
 unfold H3
 repeat' (first | apply H_rec_l_0 | apply H_rec_l_1 | apply Ag0 | assumption|with_reducible exact Be _|with_reducible apply CL|with_reducible refine CJ ?_ fun _ => ?_|exact Be _|intro _)
theorem Rx {v3 : (List TE)} {v5 : (List Int)} {v7 : (List Int)} {v8 : Int} {q0 q0' : (List TE) → (List Int) → (List Int) → Int → Option TTree} {v10 : TLeaf} (H_rec_l_0 : ∀ x0 x1 x2 x3, LeO (q0 x0 x1 x2 x3) (q0' x0 x1 x2 x3)) : ∀ (m m' : Nat), m ≤ m' → ∀ v12 v13 v14 v15, LeO (CO v3 v5 v7 v8 q0 v10 m v12 v13 v14 v15) (CO v3 v5 v7 v8 q0' v10 m' v12 v13 v14 v15)
 | 0, m', _, _, _, _, _ => (by rw [CO]; exact LeO.none _)
 | m + 1, 0, h, _, _, _, _ => absurd h (Nat.not_succ_le_zero _)
 | m + 1, m' + 1, h, v12, v13, v14, v15 => (by rw [CO, CO]; exact YA H_rec_l_0 (Rx H_rec_l_0 m m' (Nat.le_of_succ_le_succ h)))
theorem Af7 {n n' : Nat} (hn : n ≤ n') {v3 : (List TE)} {v5 : (List Int)} {v7 : (List Int)} {v8 : Int} {q0 q0' : (List TE) → (List Int) → (List Int) → Int → Option TTree} {v10 : TLeaf} (H_rec_l_0 : ∀ x0 x1 x2 x3, LeO (q0 x0 x1 x2 x3) (q0' x0 x1 x2 x3)) {v12 : (List TE)} {v13 : Int} {v14 : Int} {v15 : Int} : LeO (CO v3 v5 v7 v8 q0 v10 n v12 v13 v14 v15) (CO v3 v5 v7 v8 q0' v10 n' v12 v13 v14 v15) := Rx H_rec_l_0 n n' hn v12 v13 v14 v15
theorem Ah4 {v27 : (List TS)} {v29 : (List Int)} {v31 : (List Int)} {v32 : Int} {q2 q2' : (List TS) → (List Int) → (List Int) → Int → Option TTree} {v34 : TKnot} {v36 : (List TE)} {v48 : (List TS)} {v50 : (List TS)} {v51 : Int} {v52 : Int} (H_rec_l_2 : ∀ x0 x1 x2 x3, LeO (q2 x0 x1 x2 x3) (q2' x0 x1 x2 x3)) : LeO (GU v27 v29 v31 v32 q2 v34 v36 v48 v50 v51 v52) (GU v27 v29 v31 v32 q2' v34 v36 v48 v50 v51 v52) := by
 unfold GU
 repeat' (first | apply H_rec_l_2 | assumption|with_reducible exact Be _|with_reducible apply CL|with_reducible refine CJ ?_ fun _ => ?_|exact Be _|intro _)
theorem Ad8 {v27 : (List TS)} {v29 : (List Int)} {v31 : (List Int)} {v34 : TKnot} {q3 q3' : (List TS) → (List TS) → Int → Int → Int → Option TTree} {v48 : (List TS)} {v50 : (List TS)} {v51 : Int} {v52 : Int} {v53 : Int} {v59 : Int} (H_rec_l_3 : ∀ x0 x1 x2 x3 x4, LeO (q3 x0 x1 x2 x3 x4) (q3' x0 x1 x2 x3 x4)) : LeO (EP v27 v29 v31 v34 q3 v48 v50 v51 v52 v53 v59) (EP v27 v29 v31 v34 q3' v48 v50 v51 v52 v53 v59) := by
 unfold EP
 repeat' (first | apply H_rec_l_3 | assumption|with_reducible exact Be _|with_reducible apply CL|with_reducible refine CJ ?_ fun _ => ?_|exact Be _|intro _)
theorem Af2 {v27 : (List TS)} {v29 : (List Int)} {v31 : (List Int)} {v32 : Int} {q2 q2' : (List TS) → (List Int) → (List Int) → Int → Option TTree} {v34 : TKnot} {v36 : (List TE)} {q3 q3' : (List TS) → (List TS) → Int → Int → Int → Option TTree} {v48 : (List TS)} {v50 : (List TS)} {v51 : Int} {v52 : Int} {v53 : Int} {v54 : Bool} (H_rec_l_2 : ∀ x0 x1 x2 x3, LeO (q2 x0 x1 x2 x3) (q2' x0 x1 x2 x3)) (H_rec_l_3 : ∀ x0 x1 x2 x3 x4, LeO (q3 x0 x1 x2 x3 x4) (q3' x0 x1 x2 x3 x4)) : LeO (Ff v27 v29 v31 v32 q2 v34 v36 q3 v48 v50 v51 v52 v53 v54) (Ff v27 v29 v31 v32 q2' v34 v36 q3' v48 v50 v51 v52 v53 v54) := by
 unfold Ff
 repeat' (first | apply H_rec_l_2 | apply H_rec_l_3 | apply Wo | apply Ad8 | apply Ah4 | assumption|with_reducible exact Be _|with_reducible apply CL|with_reducible refine CJ ?_ fun _ => ?_|exact Be _|intro _)
theorem Ac7 {v27 : (List TS)} {v29 : (List Int)} {v31 : (List Int)} {v32 : Int} {q2 q2' : (List TS) → (List Int) → (List Int) → Int → Option TTree} {v34 : TKnot} {v36 : (List TE)} {q3 q3' : (List TS) → (List TS) → Int → Int → Int → Option TTree} {v48 : (List TS)} {v50 : (List TS)} {v51 : Int} {v52 : Int} {v53 : Int} (H_rec_l_2 : ∀ x0 x1 x2 x3, LeO (q2 x0 x1 x2 x3) (q2' x0 x1 x2 x3)) (H_rec_l_3 : ∀ x0 x1 x2 x3 x4, LeO (q3 x0 x1 x2 x3 x4) (q3' x0 x1 x2 x3 x4)) : LeO (Ig v27 v29 v31 v32 q2 v34 v36 q3 v48 v50 v51 v52 v53) (Ig v27 v29 v31 v32 q2' v34 v36 q3' v48 v50 v51 v52 v53) := by
 unfold Ig
 repeat' (first | apply H_rec_l_2 | apply H_rec_l_3 | apply Af2 | assumption|with_reducible exact Be _|with_reducible apply CL|with_reducible refine CJ ?_ fun _ => ?_|exact Be _|intro _)
theorem Qy {v27 : (List TS)} {v29 : (List Int)} {v31 : (List Int)} {v32 : Int} {q2 q2' : (List TS) → (List Int) → (List Int) → Int → Option TTree} {v34 : TKnot} {v36 : (List TE)} (H_rec_l_2 : ∀ x0 x1 x2 x3, LeO (q2 x0 x1 x2 x3) (q2' x0 x1 x2 x3)) : ∀ (m m' : Nat), m ≤ m' → ∀ v48 v50 v51 v52 v53, LeO (B9 v27 v29 v31 v32 q2 v34 v36 m v48 v50 v51 v52 v53) (B9 v27 v29 v31 v32 q2' v34 v36 m' v48 v50 v51 v52 v53)
 | 0, m', _, _, _, _, _, _ => (by rw [B9]; exact LeO.none _)
 | m + 1, 0, h, _, _, _, _, _ => absurd h (Nat.not_succ_le_zero _)
 | m + 1, m' + 1, h, v48, v50, v51, v52, v53 => (by rw [B9, B9]; exact Ac7 H_rec_l_2 (Qy H_rec_l_2 m m' (Nat.le_of_succ_le_succ h)))
theorem Af1 {n n' : Nat} (hn : n ≤ n') {v27 : (List TS)} {v29 : (List Int)} {v31 : (List Int)} {v32 : Int} {q2 q2' : (List TS) → (List Int) → (List Int) → Int → Option TTree} {v34 : TKnot} {v36 : (List TE)} (H_rec_l_2 : ∀ x0 x1 x2 x3, LeO (q2 x0 x1 x2 x3) (q2' x0 x1 x2 x3)) {v48 : (List TS)} {v50 : (List TS)} {v51 : Int} {v52 : Int} {v53 : Int} : LeO (B9 v27 v29 v31 v32 q2 v34 v36 n v48 v50 v51 v52 v53) (B9 v27 v29 v31 v32 q2' v34 v36 n' v48 v50 v51 v52 v53) := Qy H_rec_l_2 n n' hn v48 v50 v51 v52 v53
theorem Ad3 {n n' : Nat} (hn : n ≤ n') {v27 : (List TS)} {v29 : (List Int)} {v31 : (List Int)} {v32 : Int} {q2 q2' : (List TS) → (List Int) → (List Int) → Int → Option TTree} {v34 : TKnot} {v36 : (List TE)} {v37 : Int} {v38 : Int} (H_rec_l_2 : ∀ x0 x1 x2 x3, LeO (q2 x0 x1 x2 x3) (q2' x0 x1 x2 x3)) : LeO (GS n v27 v29 v31 v32 q2 v34 v36 v37 v38) (GS n' v27 v29 v31 v32 q2' v34 v36 v37 v38) := by
 unfold GS
 repeat' (first | apply H_rec_l_2 | apply Af1 hn | assumption|with_reducible exact Be _|with_reducible apply CL|with_reducible refine CJ ?_ fun _ => ?_|exact Be _|intro _)
theorem Ad7 {n n' : Nat} (hn : n ≤ n') {v3 : (List TE)} {v5 : (List Int)} {v7 : (List Int)} {v27 : (List TS)} {v29 : (List Int)} {v31 : (List Int)} {v32 : Int} {q2 q2' : (List TS) → (List Int) → (List Int) → Int → Option TTree} {v34 : TKnot} {v36 : (List TE)} {v37 : Int} {v38 : Int} {v39 : Int} {q4 q4' : (List TE) → Int → Int → Int → Option TTree} {v40 : Bool} (H_rec_l_2 : ∀ x0 x1 x2 x3, LeO (q2 x0 x1 x2 x3) (q2' x0 x1 x2 x3)) (H_rec_l_4 : ∀ x0 x1 x2 x3, LeO (q4 x0 x1 x2 x3) (q4' x0 x1 x2 x3)) : LeO (E9 n v3 v5 v7 v27 v29 v31 v32 q2 v34 v36 v37 v38 v39 q4 v40) (E9 n' v3 v5 v7 v27 v29 v31 v32 q2' v34 v36 v37 v38 v39 q4' v40) := by
 unfold E9
 repeat' (first | apply H_rec_l_2 | apply H_rec_l_4 | apply Wo | apply Ad3 hn | assumption|with_reducible exact Be _|with_reducible apply CL|with_reducible refine CJ ?_ fun _ => ?_|exact Be _|intro _)
theorem Zh {n n' : Nat} (hn : n ≤ n') {v3 : (List TE)} {v5 : (List Int)} {v7 : (List Int)} {v27 : (List TS)} {v29 : (List Int)} {v31 : (List Int)} {v32 : Int} {q2 q2' : (List TS) → (List Int) → (List Int) → Int → Option TTree} {v34 : TKnot} {q4 q4' : (List TE) → Int → Int → Int → Option TTree} {v36 : (List TE)} {v37 : Int} {v38 : Int} {v39 : Int} (H_rec_l_2 : ∀ x0 x1 x2 x3, LeO (q2 x0 x1 x2 x3) (q2' x0 x1 x2 x3)) (H_rec_l_4 : ∀ x0 x1 x2 x3, LeO (q4 x0 x1 x2 x3) (q4' x0 x1 x2 x3)) : LeO (H7 n v3 v5 v7 v27 v29 v31 v32 q2 v34 q4 v36 v37 v38 v39) (H7 n' v3 v5 v7 v27 v29 v31 v32 q2' v34 q4' v36 v37 v38 v39) := by
 unfold H7
 repeat' (first | apply H_rec_l_2 | apply H_rec_l_4 | apply Ad7 hn | assumption|with_reducible exact Be _|with_reducible apply CL|with_reducible refine CJ ?_ fun _ => ?_|exact Be _|intro _)
theorem Q3 {n n' : Nat} (hn : n ≤ n') {v3 : (List TE)} {v5 : (List Int)} {v7 : (List Int)} {v27 : (List TS)} {v29 : (List Int)} {v31 : (List Int)} {v32 : Int} {q2 q2' : (List TS) → (List Int) → (List Int) → Int → Option TTree} {v34 : TKnot} (H_rec_l_2 : ∀ x0 x1 x2 x3, LeO (q2 x0 x1 x2 x3) (q2' x0 x1 x2 x3)) : ∀ (m m' : Nat), m ≤ m' → ∀ v36 v37 v38 v39, LeO (CE n v3 v5 v7 v27 v29 v31 v32 q2 v34 m v36 v37 v38 v39) (CE n' v3 v5 v7 v27 v29 v31 v32 q2' v34 m' v36 v37 v38 v39)
 | 0, m', _, _, _, _, _ => (by rw [CE]; exact LeO.none _)
 | m + 1, 0, h, _, _, _, _ => absurd h (Nat.not_succ_le_zero _)
 | m + 1, m' + 1, h, v36, v37, v38, v39 => (by rw [CE, CE]; exact Zh hn H_rec_l_2 (Q3 hn H_rec_l_2 m m' (Nat.le_of_succ_le_succ h)))
theorem Af4 {n n' : Nat} (hn : n ≤ n') {v3 : (List TE)} {v5 : (List Int)} {v7 : (List Int)} {v27 : (List TS)} {v29 : (List Int)} {v31 : (List Int)} {v32 : Int} {q2 q2' : (List TS) → (List Int) → (List Int) → Int → Option TTree} {v34 : TKnot} (H_rec_l_2 : ∀ x0 x1 x2 x3, LeO (q2 x0 x1 x2 x3) (q2' x0 x1 x2 x3)) {v36 : (List TE)} {v37 : Int} {v38 : Int} {v39 : Int} : LeO (CE n v3 v5 v7 v27 v29 v31 v32 q2 v34 n v36 v37 v38 v39) (CE n' v3 v5 v7 v27 v29 v31 v32 q2' v34 n' v36 v37 v38 v39) := Q3 hn H_rec_l_2 n n' hn v36 v37 v38 v39
theorem Ad5 {n n' : Nat} (hn : n ≤ n') {p1 : (List TKnot)} {v3 : (List TE)} {v5 : (List Int)} {v7 : (List Int)} {v27 : (List TS)} {v29 : (List Int)} {v31 : (List Int)} {v32 : Int} {q2 q2' : (List TS) → (List Int) → (List Int) → Int → Option TTree} {v33 : Bool} (H_rec_l_2 : ∀ x0 x1 x2 x3, LeO (q2 x0 x1 x2 x3) (q2' x0 x1 x2 x3)) : LeO (FR p1 n v3 v5 v7 v27 v29 v31 v32 q2 v33) (FR p1 n' v3 v5 v7 v27 v29 v31 v32 q2' v33) := by
 unfold FR
 repeat' (first | apply H_rec_l_2 | apply Af4 hn | assumption|with_reducible exact Be _|with_reducible apply CL|with_reducible refine CJ ?_ fun _ => ?_|exact Be _|intro _)
theorem Aa9 {n n' : Nat} (hn : n ≤ n') {p1 : (List TKnot)} {v3 : (List TE)} {v5 : (List Int)} {v7 : (List Int)} {q2 q2' : (List TS) → (List Int) → (List Int) → Int → Option TTree} {v27 : (List TS)} {v29 : (List Int)} {v31 : (List Int)} {v32 : Int} (H_rec_l_2 : ∀ x0 x1 x2 x3, LeO (q2 x0 x1 x2 x3) (q2' x0 x1 x2 x3)) : LeO (H0 p1 n v3 v5 v7 q2 v27 v29 v31 v32) (H0 p1 n' v3 v5 v7 q2' v27 v29 v31 v32) := by
 unfold H0
 repeat' (first | apply H_rec_l_2 | apply Ad5 hn | assumption|with_reducible exact Be _|with_reducible apply CL|with_reducible refine CJ ?_ fun _ => ?_|exact Be _|intro _)
theorem QM {n n' : Nat} (hn : n ≤ n') {p1 : (List TKnot)} {v3 : (List TE)} {v5 : (List Int)} {v7 : (List Int)}  : ∀ (m m' : Nat), m ≤ m' → ∀ v27 v29 v31 v32, LeO (Cs p1 n v3 v5 v7 m v27 v29 v31 v32) (Cs p1 n' v3 v5 v7 m' v27 v29 v31 v32)
 | 0, m', _, _, _, _, _ => (by rw [Cs]; exact LeO.none _)
 | m + 1, 0, h, _, _, _, _ => absurd h (Nat.not_succ_le_zero _)
 | m + 1, m' + 1, h, v27, v29, v31, v32 => (by rw [Cs, Cs]; exact Aa9 hn  (QM hn  m m' (Nat.le_of_succ_le_succ h)))
theorem Ah0 {n n' : Nat} (hn : n ≤ n') {p1 : (List TKnot)} {v3 : (List TE)} {v5 : (List Int)} {v7 : (List Int)}  {v27 : (List TS)} {v29 : (List Int)} {v31 : (List Int)} {v32 : Int} : LeO (Cs p1 n v3 v5 v7 n v27 v29 v31 v32) (Cs p1 n' v3 v5 v7 n' v27 v29 v31 v32) := QM hn  n n' hn v27 v29 v31 v32
theorem Ad1 {n n' : Nat} (hn : n ≤ n') {p0 : (List TLeaf)} {p1 : (List TKnot)} {v3 : (List TE)} {v5 : (List Int)} {v7 : (List Int)} {v8 : Int} {q0 q0' : (List TE) → (List Int) → (List Int) → Int → Option TTree} {v9 : Bool} (H_rec_l_0 : ∀ x0 x1 x2 x3, LeO (q0 x0 x1 x2 x3) (q0' x0 x1 x2 x3)) : LeO (F2 p0 p1 n v3 v5 v7 v8 q0 v9) (F2 p0 p1 n' v3 v5 v7 v8 q0' v9) := by
 unfold F2
 repeat' (first | apply H_rec_l_0 | apply Af7 hn | apply Ah0 hn | assumption|with_reducible exact Be _|with_reducible apply CL|with_reducible refine CJ ?_ fun _ => ?_|exact Be _|intro _)
theorem Y3 {n n' : Nat} (hn : n ≤ n') {p0 : (List TLeaf)} {p1 : (List TKnot)} {q0 q0' : (List TE) → (List Int) → (List Int) → Int → Option TTree} {v3 : (List TE)} {v5 : (List Int)} {v7 : (List Int)} {v8 : Int} (H_rec_l_0 : ∀ x0 x1 x2 x3, LeO (q0 x0 x1 x2 x3) (q0' x0 x1 x2 x3)) : LeO (Ia p0 p1 n q0 v3 v5 v7 v8) (Ia p0 p1 n' q0' v3 v5 v7 v8) := by
 unfold Ia
 repeat' (first | apply H_rec_l_0 | apply Ad1 hn | assumption|with_reducible exact Be _|with_reducible apply CL|with_reducible refine CJ ?_ fun _ => ?_|exact Be _|intro _)
theorem Q7 {n n' : Nat} (hn : n ≤ n') {p0 : (List TLeaf)} {p1 : (List TKnot)}  : ∀ (m m' : Nat), m ≤ m' → ∀ v3 v5 v7 v8, LeO (CD p0 p1 n m v3 v5 v7 v8) (CD p0 p1 n' m' v3 v5 v7 v8)
 | 0, m', _, _, _, _, _ => (by rw [CD]; exact LeO.none _)
 | m + 1, 0, h, _, _, _, _ => absurd h (Nat.not_succ_le_zero _)
 | m + 1, m' + 1, h, v3, v5, v7, v8 => (by rw [CD, CD]; exact Y3 hn  (Q7 hn  m m' (Nat.le_of_succ_le_succ h)))
theorem Ai3 {n n' : Nat} (hn : n ≤ n') {p0 : (List TLeaf)} {p1 : (List TKnot)}  {v3 : (List TE)} {v5 : (List Int)} {v7 : (List Int)} {v8 : Int} : LeO (CD p0 p1 n n v3 v5 v7 v8) (CD p0 p1 n' n' v3 v5 v7 v8) := Q7 hn  n n' hn v3 v5 v7 v8
theorem Z4 {n n' : Nat} (hn : n ≤ n') {p0 : (List TLeaf)} {p1 : (List TKnot)}  : LeO (KF n p0 p1) (KF n' p0 p1) := by
 unfold KF
 repeat' (first | apply Ai3 hn | assumption|with_reducible exact Be _|with_reducible apply CL|with_reducible refine CJ ?_ fun _ => ?_|exact Be _|intro _)
theorem Ah6 {p0 : TP} {v18 : Bool}  : LeO (GM p0 v18) (GM p0 v18) := by
 unfold GM
 repeat' (first | assumption|with_reducible exact Be _|with_reducible apply CL|with_reducible refine CJ ?_ fun _ => ?_|exact Be _|intro _)
theorem Ah8 {p0 : TP} {v14 : Bool} {v17 : Bool}  : LeO (GG p0 v14 v17) (GG p0 v14 v17) := by
 unfold GG
 repeat' (first | apply Ah6 | assumption|with_reducible exact Be _|with_reducible apply CL|with_reducible refine CJ ?_ fun _ => ?_|exact Be _|intro _)
theorem Ad4 {n n' : Nat} (hn : n ≤ n') {p0 : TP} {v14 : Bool}  : LeO (GF p0 n v14) (GF p0 n' v14) := by
 unfold GF
 repeat' (first | apply Kl hn | apply Ah8 | assumption|with_reducible exact Be _|with_reducible apply CL|with_reducible refine CJ ?_ fun _ => ?_|exact Be _|intro _)
theorem Ae1 {n n' : Nat} (hn : n ≤ n') {p0 : TP} {v14 : Bool}  : LeO (GN p0 n v14) (GN p0 n' v14) := by
 unfold GN
 repeat' (first | apply Kl hn | apply Ad4 hn | assumption|with_reducible exact Be _|with_reducible apply CL|with_reducible refine CJ ?_ fun _ => ?_|exact Be _|intro _)
theorem Ac8 {p0 : TP} {v2 : Int} {q0 q0' : Bool → Int → Option Bool} {v10 : Bool} {q1 q1' : Int → Option Bool} {v11 : Int} (H_rec_l_0 : ∀ x0 x1, LeO (q0 x0 x1) (q0' x0 x1)) (H_rec_l_1 : ∀ x0, LeO (q1 x0) (q1' x0)) : LeO (G7 p0 v2 q0 v10 q1 v11) (G7 p0 v2 q0' v10 q1' v11) := by
 unfold G7
 repeat' (first | apply H_rec_l_0 | apply H_rec_l_1 | assumption|with_reducible exact Be _|with_reducible apply CL|with_reducible refine CJ ?_ fun _ => ?_|exact Be _|intro _)
theorem Qq {p0 : TP} {v2 : Int} {q0 q0' : Bool → Int → Option Bool} {v10 : Bool} (H_rec_l_0 : ∀ x0 x1, LeO (q0 x0 x1) (q0' x0 x1)) : ∀ (m m' : Nat), m ≤ m' → ∀ v11, LeO (Cq p0 v2 q0 v10 m v11) (Cq p0 v2 q0' v10 m' v11)
 | 0, m', _, _ => (by rw [Cq]; exact LeO.none _)
 | m + 1, 0, h, _ => absurd h (Nat.not_succ_le_zero _)
 | m + 1, m' + 1, h, v11 => (by rw [Cq, Cq]; exact Ac8 H_rec_l_0 (Qq H_rec_l_0 m m' (Nat.le_of_succ_le_succ h)))
theorem Ai0 {n n' : Nat} (hn : n ≤ n') {p0 : TP} {v2 : Int} {q0 q0' : Bool → Int → Option Bool} {v10 : Bool} (H_rec_l_0 : ∀ x0 x1, LeO (q0 x0 x1) (q0' x0 x1)) {v11 : Int} : LeO (Cq p0 v2 q0 v10 n v11) (Cq p0 v2 q0' v10 n' v11) := Qq H_rec_l_0 n n' hn v11
theorem Ae6 {n n' : Nat} (hn : n ≤ n') {p0 : TP} {v2 : Int} {q0 q0' : Bool → Int → Option Bool} {v10 : Bool} (H_rec_l_0 : ∀ x0 x1, LeO (q0 x0 x1) (q0' x0 x1)) : LeO (GR p0 n v2 q0 v10) (GR p0 n' v2 q0' v10) := by
 unfold GR
 repeat' (first | apply H_rec_l_0 | apply Ai0 hn | assumption|with_reducible exact Be _|with_reducible apply CL|with_reducible refine CJ ?_ fun _ => ?_|exact Be _|intro _)
theorem Af5 {n n' : Nat} (hn : n ≤ n') {p0 : TP} {v1 : Bool} {v2 : Int} {q0 q0' : Bool → Int → Option Bool} {v8 : Bool} (H_rec_l_0 : ∀ x0 x1, LeO (q0 x0 x1) (q0' x0 x1)) : LeO (GH p0 n v1 v2 q0 v8) (GH p0 n' v1 v2 q0' v8) := by
 unfold GH
 repeat' (first | apply H_rec_l_0 | apply Ae6 hn | assumption|with_reducible exact Be _|with_reducible apply CL|with_reducible refine CJ ?_ fun _ => ?_|exact Be _|intro _)
theorem Ae8 {n n' : Nat} (hn : n ≤ n') {p0 : TP} {v1 : Bool} {v2 : Int} {q0 q0' : Bool → Int → Option Bool} {v6 : Bool} (H_rec_l_0 : ∀ x0 x1, LeO (q0 x0 x1) (q0' x0 x1)) : LeO (GV p0 n v1 v2 q0 v6) (GV p0 n' v1 v2 q0' v6) := by
 unfold GV
 repeat' (first | apply H_rec_l_0 | apply Af5 hn | assumption|with_reducible exact Be _|with_reducible apply CL|with_reducible refine CJ ?_ fun _ => ?_|exact Be _|intro _)
theorem Y4 {n n' : Nat} (hn : n ≤ n') {p0 : TP} {q0 q0' : Bool → Int → Option Bool} {v1 : Bool} {v2 : Int} (H_rec_l_0 : ∀ x0 x1, LeO (q0 x0 x1) (q0' x0 x1)) : LeO (Hc p0 n q0 v1 v2) (Hc p0 n' q0' v1 v2) := by
 unfold Hc
 repeat' (first | apply H_rec_l_0 | apply Kl hn | apply Ae8 hn | apply Ae1 hn | assumption|with_reducible exact Be _|with_reducible apply CL|with_reducible refine CJ ?_ fun _ => ?_|exact Be _|intro _)
theorem QQ {n n' : Nat} (hn : n ≤ n') {p0 : TP}  : ∀ (m m' : Nat), m ≤ m' → ∀ v1 v2, LeO (CC p0 n m v1 v2) (CC p0 n' m' v1 v2)
 | 0, m', _, _, _ => (by rw [CC]; exact LeO.none _)
 | m + 1, 0, h, _, _ => absurd h (Nat.not_succ_le_zero _)
 | m + 1, m' + 1, h, v1, v2 => (by rw [CC, CC]; exact Y4 hn  (QQ hn  m m' (Nat.le_of_succ_le_succ h)))
theorem Ag8 {n n' : Nat} (hn : n ≤ n') {p0 : TP}  {v1 : Bool} {v2 : Int} : LeO (CC p0 n n v1 v2) (CC p0 n' n' v1 v2) := QQ hn  n n' hn v1 v2
theorem AA7 {n n' : Nat} (hn : n ≤ n') {p0 : TP}  : LeO (JB n p0) (JB n' p0) := by
 unfold JB
 repeat' (first | apply Ag8 hn | assumption|with_reducible exact Be _|with_reducible apply CL|with_reducible refine CJ ?_ fun _ => ?_|exact Be _|intro _)
theorem At8 {p0 : ByteArray} {p1 : Int} {q0 q0' : Int → Option Bool} {v2 : Int} (H_rec_l_0 : ∀ x0, LeO (q0 x0) (q0' x0)) : LeO (J8 p0 p1 q0 v2) (J8 p0 p1 q0' v2) := by
 unfold J8
 repeat' (first | apply H_rec_l_0 | assumption|with_reducible exact Be _|with_reducible apply CL|with_reducible refine CJ ?_ fun _ => ?_|exact Be _|intro _)
theorem Ww {p0 : ByteArray} {p1 : Int}  : ∀ (m m' : Nat), m ≤ m' → ∀ v2, LeO (EJ p0 p1 m v2) (EJ p0 p1 m' v2)
 | 0, m', _, _ => (by rw [EJ]; exact LeO.none _)
 | m + 1, 0, h, _ => absurd h (Nat.not_succ_le_zero _)
 | m + 1, m' + 1, h, v2 => (by rw [EJ, EJ]; exact At8  (Ww  m m' (Nat.le_of_succ_le_succ h)))
theorem AB3 {n n' : Nat} (hn : n ≤ n') {p0 : ByteArray} {p1 : Int}  {v2 : Int} : LeO (EJ p0 p1 n v2) (EJ p0 p1 n' v2) := Ww  n n' hn v2
theorem AE4 {n n' : Nat} (hn : n ≤ n') {p0 : ByteArray} {p1 : Int}  : LeO (F8 n p0 p1) (F8 n' p0 p1) := by
 unfold F8
 repeat' (first | apply AB3 hn | assumption|with_reducible exact Be _|with_reducible apply CL|with_reducible refine CJ ?_ fun _ => ?_|exact Be _|intro _)
theorem SY {p0 : TE} {s_RBuiltExpr s_RBuiltExpr' : TE → Option Bool} {v13 : Int} {q0 q0' : Int → Option Bool} {v18 : Int} (H_s_RBuiltExpr : ∀ x0, LeO (s_RBuiltExpr x0) (s_RBuiltExpr' x0)) (H_rec_l_0 : ∀ x0, LeO (q0 x0) (q0' x0)) : LeO (Eh p0 s_RBuiltExpr v13 q0 v18) (Eh p0 s_RBuiltExpr' v13 q0' v18) := by
 unfold Eh
 repeat' (first | apply H_s_RBuiltExpr | apply H_rec_l_0 | assumption|with_reducible exact Be _|with_reducible apply CL|with_reducible refine CJ ?_ fun _ => ?_|exact Be _|intro _)
theorem Mu {p0 : TE} {s_RBuiltExpr s_RBuiltExpr' : TE → Option Bool} {v13 : Int} (H_s_RBuiltExpr : ∀ x0, LeO (s_RBuiltExpr x0) (s_RBuiltExpr' x0)) : ∀ (m m' : Nat), m ≤ m' → ∀ v18, LeO (Bv p0 s_RBuiltExpr v13 m v18) (Bv p0 s_RBuiltExpr' v13 m' v18)
 | 0, m', _, _ => (by rw [Bv]; exact LeO.none _)
 | m + 1, 0, h, _ => absurd h (Nat.not_succ_le_zero _)
 | m + 1, m' + 1, h, v18 => (by rw [Bv, Bv]; exact SY H_s_RBuiltExpr (Mu H_s_RBuiltExpr m m' (Nat.le_of_succ_le_succ h)))
theorem Ve {n n' : Nat} (hn : n ≤ n') {p0 : TE} {s_RBuiltExpr s_RBuiltExpr' : TE → Option Bool} {v13 : Int} (H_s_RBuiltExpr : ∀ x0, LeO (s_RBuiltExpr x0) (s_RBuiltExpr' x0)) {v18 : Int} : LeO (Bv p0 s_RBuiltExpr v13 n v18) (Bv p0 s_RBuiltExpr' v13 n' v18) := Mu H_s_RBuiltExpr n n' hn v18
theorem UD {n n' : Nat} (hn : n ≤ n') {p0 : TE} {s_RBuiltExpr s_RBuiltExpr' : TE → Option Bool} {v13 : Int} {v17 : Bool} (H_s_RBuiltExpr : ∀ x0, LeO (s_RBuiltExpr x0) (s_RBuiltExpr' x0)) : LeO (DV p0 s_RBuiltExpr n v13 v17) (DV p0 s_RBuiltExpr' n' v13 v17) := by
 unfold DV
 repeat' (first | apply H_s_RBuiltExpr | apply Ve hn | assumption|with_reducible exact Be _|with_reducible apply CL|with_reducible refine CJ ?_ fun _ => ?_|exact Be _|intro _)
theorem Uk {n n' : Nat} (hn : n ≤ n') {p0 : TE} {s_RBuiltExpr s_RBuiltExpr' : TE → Option Bool} {v13 : Int} {v16 : Bool} (H_s_RBuiltExpr : ∀ x0, LeO (s_RBuiltExpr x0) (s_RBuiltExpr' x0)) : LeO (DU p0 s_RBuiltExpr n v13 v16) (DU p0 s_RBuiltExpr' n' v13 v16) := by
 unfold DU
 repeat' (first | apply H_s_RBuiltExpr | apply UD hn | assumption|with_reducible exact Be _|with_reducible apply CL|with_reducible refine CJ ?_ fun _ => ?_|exact Be _|intro _)
theorem Vo {n n' : Nat} (hn : n ≤ n') {p0 : TE} {s_RBuiltExpr s_RBuiltExpr' : TE → Option Bool} {v12 : ByteArray} {v13 : Int} {v15 : Bool} (H_s_RBuiltExpr : ∀ x0, LeO (s_RBuiltExpr x0) (s_RBuiltExpr' x0)) : LeO (DR p0 s_RBuiltExpr n v12 v13 v15) (DR p0 s_RBuiltExpr' n' v12 v13 v15) := by
 unfold DR
 repeat' (first | apply H_s_RBuiltExpr | apply Uk hn | assumption|with_reducible exact Be _|with_reducible apply CL|with_reducible refine CJ ?_ fun _ => ?_|exact Be _|intro _)
theorem T2 {n n' : Nat} (hn : n ≤ n') {p0 : TE} {s_RBuiltExpr s_RBuiltExpr' : TE → Option Bool} {v11 : ByteArray} {v12 : ByteArray} {v13 : Int} {v14 : Bool} (H_s_RBuiltExpr : ∀ x0, LeO (s_RBuiltExpr x0) (s_RBuiltExpr' x0)) : LeO (DT p0 s_RBuiltExpr n v11 v12 v13 v14) (DT p0 s_RBuiltExpr' n' v11 v12 v13 v14) := by
 unfold DT
 repeat' (first | apply H_s_RBuiltExpr | apply Vo hn | assumption|with_reducible exact Be _|with_reducible apply CL|with_reducible refine CJ ?_ fun _ => ?_|exact Be _|intro _)
theorem Hu {n n' : Nat} (hn : n ≤ n') {p0 : TE} {s_RBuiltExpr s_RBuiltExpr' : TE → Option Bool} {v9 : Int} {v10 : ByteArray} {v11 : ByteArray} {v12 : ByteArray} {v13 : Int} (H_s_RBuiltExpr : ∀ x0, LeO (s_RBuiltExpr x0) (s_RBuiltExpr' x0)) : LeO (BM p0 s_RBuiltExpr n v9 v10 v11 v12 v13) (BM p0 s_RBuiltExpr' n' v9 v10 v11 v12 v13) := by
 unfold BM
 repeat' (first | apply H_s_RBuiltExpr | apply T2 hn | assumption|with_reducible exact Be _|with_reducible apply CL|with_reducible refine CJ ?_ fun _ => ?_|exact Be _|intro _)
theorem V4 {n n' : Nat} (hn : n ≤ n') {p0 : TE} {s_RBuiltExpr s_RBuiltExpr' : TE → Option Bool} {v5 : ByteArray} {v6 : Int} (H_s_RBuiltExpr : ∀ x0, LeO (s_RBuiltExpr x0) (s_RBuiltExpr' x0)) : LeO (DZ p0 s_RBuiltExpr n v5 v6) (DZ p0 s_RBuiltExpr' n' v5 v6) := by
 unfold DZ
 repeat' (first | apply H_s_RBuiltExpr | apply Kl hn | apply Hu hn | assumption|with_reducible exact Be _|with_reducible apply CL|with_reducible refine CJ ?_ fun _ => ?_|exact Be _|intro _)
theorem VI {n n' : Nat} (hn : n ≤ n') {p0 : TE} {s_RBuiltExpr s_RBuiltExpr' : TE → Option Bool} {v5 : ByteArray} (H_s_RBuiltExpr : ∀ x0, LeO (s_RBuiltExpr x0) (s_RBuiltExpr' x0)) : LeO (DY p0 s_RBuiltExpr n v5) (DY p0 s_RBuiltExpr' n' v5) := by
 unfold DY
 repeat' (first | apply H_s_RBuiltExpr | apply V4 hn | apply Hu hn | assumption|with_reducible exact Be _|with_reducible apply CL|with_reducible refine CJ ?_ fun _ => ?_|exact Be _|intro _)
theorem Uo {n n' : Nat} (hn : n ≤ n') {p0 : TE} {s_RBuiltExpr s_RBuiltExpr' : TE → Option Bool} {v8 : Bool} (H_s_RBuiltExpr : ∀ x0, LeO (s_RBuiltExpr x0) (s_RBuiltExpr' x0)) : LeO (DS p0 s_RBuiltExpr n v8) (DS p0 s_RBuiltExpr' n' v8) := by
 unfold DS
 repeat' (first | apply H_s_RBuiltExpr | apply Hu hn | assumption|with_reducible exact Be _|with_reducible apply CL|with_reducible refine CJ ?_ fun _ => ?_|exact Be _|intro _)
theorem Tu {n n' : Nat} (hn : n ≤ n') {p0 : TE} {s_RBuiltExpr s_RBuiltExpr' : TE → Option Bool} {v2 : Bool} (H_s_RBuiltExpr : ∀ x0, LeO (s_RBuiltExpr x0) (s_RBuiltExpr' x0)) : LeO (Dn p0 s_RBuiltExpr n v2) (Dn p0 s_RBuiltExpr' n' v2) := by
 unfold Dn
 repeat' (first | apply H_s_RBuiltExpr | apply Kl hn | apply VI hn | apply Uo hn | assumption|with_reducible exact Be _|with_reducible apply CL|with_reducible refine CJ ?_ fun _ => ?_|exact Be _|intro _)
theorem TC {n n' : Nat} (hn : n ≤ n') {p0 : TE} {s_RBuiltExpr s_RBuiltExpr' : TE → Option Bool} {v1 : Bool} (H_s_RBuiltExpr : ∀ x0, LeO (s_RBuiltExpr x0) (s_RBuiltExpr' x0)) : LeO (DQ p0 s_RBuiltExpr n v1) (DQ p0 s_RBuiltExpr' n' v1) := by
 unfold DQ
 repeat' (first | apply H_s_RBuiltExpr | apply Tu hn | assumption|with_reducible exact Be _|with_reducible apply CL|with_reducible refine CJ ?_ fun _ => ?_|exact Be _|intro _)
theorem Wu {n n' : Nat} (hn : n ≤ n') {s_RBuiltExpr s_RBuiltExpr' : TE → Option Bool} {p0 : TE} (H_s_RBuiltExpr : ∀ x0, LeO (s_RBuiltExpr x0) (s_RBuiltExpr' x0)) : LeO (FB s_RBuiltExpr n p0) (FB s_RBuiltExpr' n' p0) := by
 unfold FB
 repeat' (first | apply H_s_RBuiltExpr | apply Hu hn | apply TC hn | assumption|with_reducible exact Be _|with_reducible apply CL|with_reducible refine CJ ?_ fun _ => ?_|exact Be _|intro _)
theorem Si : ∀ (n n' : Nat), n ≤ n' → (∀ (p0 : TE), LeO (BE n p0) (BE n' p0))
 | 0, n', _ => fun _ => (by rw [BE]; exact LeO.none _)
 | n + 1, 0, h => absurd h (Nat.not_succ_le_zero _)
 | n + 1, n' + 1, h => fun p0 => (by rw [BE, BE]; exact Wu (Nat.le_of_succ_le_succ h) (Si n n' (Nat.le_of_succ_le_succ h)))
theorem ZV {n n' : Nat} (hn : n ≤ n') {p0 : TE} : LeO (BE n p0) (BE n' p0) := (Si n n' hn) p0
theorem Ad6 {p0 : TS} {s_RBlocks s_RBlocks' : (List TS) → Option Bool} (H_s_RBlocks : ∀ x0, LeO (s_RBlocks x0) (s_RBlocks' x0)) : LeO (GQ p0 s_RBlocks) (GQ p0 s_RBlocks') := by
 unfold GQ
 repeat' (first | apply H_s_RBlocks | assumption|with_reducible exact Be _|with_reducible apply CL|with_reducible refine CJ ?_ fun _ => ?_|exact Be _|intro _)
theorem Yu {n n' : Nat} (hn : n ≤ n') {p0 : TS} {s_RBlocks s_RBlocks' : (List TS) → Option Bool} {q0 q0' : Int → Option Bool} {v27 : Int} (H_s_RBlocks : ∀ x0, LeO (s_RBlocks x0) (s_RBlocks' x0)) (H_rec_l_0 : ∀ x0, LeO (q0 x0) (q0' x0)) : LeO (G8 p0 s_RBlocks n q0 v27) (G8 p0 s_RBlocks' n' q0' v27) := by
 unfold G8
 repeat' (first | apply H_s_RBlocks | apply H_rec_l_0 | apply ZV hn | apply Ad6 | assumption|with_reducible exact Be _|with_reducible apply CL|with_reducible refine CJ ?_ fun _ => ?_|exact Be _|intro _)
theorem QW {n n' : Nat} (hn : n ≤ n') {p0 : TS} {s_RBlocks s_RBlocks' : (List TS) → Option Bool} (H_s_RBlocks : ∀ x0, LeO (s_RBlocks x0) (s_RBlocks' x0)) : ∀ (m m' : Nat), m ≤ m' → ∀ v27, LeO (CB p0 s_RBlocks n m v27) (CB p0 s_RBlocks' n' m' v27)
 | 0, m', _, _ => (by rw [CB]; exact LeO.none _)
 | m + 1, 0, h, _ => absurd h (Nat.not_succ_le_zero _)
 | m + 1, m' + 1, h, v27 => (by rw [CB, CB]; exact Yu hn H_s_RBlocks (QW hn H_s_RBlocks m m' (Nat.le_of_succ_le_succ h)))
theorem Af3 {n n' : Nat} (hn : n ≤ n') {p0 : TS} {s_RBlocks s_RBlocks' : (List TS) → Option Bool} (H_s_RBlocks : ∀ x0, LeO (s_RBlocks x0) (s_RBlocks' x0)) {v27 : Int} : LeO (CB p0 s_RBlocks n n v27) (CB p0 s_RBlocks' n' n' v27) := QW hn H_s_RBlocks n n' hn v27
theorem Ah1 {n n' : Nat} (hn : n ≤ n') {p0 : TS} {s_RBlocks s_RBlocks' : (List TS) → Option Bool} (H_s_RBlocks : ∀ x0, LeO (s_RBlocks x0) (s_RBlocks' x0)) : LeO (Ft p0 s_RBlocks n) (Ft p0 s_RBlocks' n') := by
 unfold Ft
 repeat' (first | apply H_s_RBlocks | apply Af3 hn | assumption|with_reducible exact Be _|with_reducible apply CL|with_reducible refine CJ ?_ fun _ => ?_|exact Be _|intro _)
theorem Ah9 {n n' : Nat} (hn : n ≤ n') {p0 : TS} {s_RBlocks s_RBlocks' : (List TS) → Option Bool} {v25 : Bool} {v26 : Bool} (H_s_RBlocks : ∀ x0, LeO (s_RBlocks x0) (s_RBlocks' x0)) : LeO (FX p0 s_RBlocks n v25 v26) (FX p0 s_RBlocks' n' v25 v26) := by
 unfold FX
 repeat' (first | apply H_s_RBlocks | apply Ah1 hn | assumption|with_reducible exact Be _|with_reducible apply CL|with_reducible refine CJ ?_ fun _ => ?_|exact Be _|intro _)
theorem Af6 {n n' : Nat} (hn : n ≤ n') {p0 : TS} {s_RBlocks s_RBlocks' : (List TS) → Option Bool} {v25 : Bool} (H_s_RBlocks : ∀ x0, LeO (s_RBlocks x0) (s_RBlocks' x0)) : LeO (E6 p0 s_RBlocks n v25) (E6 p0 s_RBlocks' n' v25) := by
 unfold E6
 repeat' (first | apply H_s_RBlocks | apply Ah9 hn | assumption|with_reducible exact Be _|with_reducible apply CL|with_reducible refine CJ ?_ fun _ => ?_|exact Be _|intro _)
theorem Ae4 {n n' : Nat} (hn : n ≤ n') {p0 : TS} {s_RBlocks s_RBlocks' : (List TS) → Option Bool} (H_s_RBlocks : ∀ x0, LeO (s_RBlocks x0) (s_RBlocks' x0)) : LeO (FZ p0 s_RBlocks n) (FZ p0 s_RBlocks' n') := by
 unfold FZ
 repeat' (first | apply H_s_RBlocks | apply Af6 hn | assumption|with_reducible exact Be _|with_reducible apply CL|with_reducible refine CJ ?_ fun _ => ?_|exact Be _|intro _)
theorem Ab4 {p0 : TS} {v19 : Int} {q1 q1' : Int → Option Bool} {q2 q2' : Int → Option Bool} {v22 : Int} (H_rec_l_1 : ∀ x0, LeO (q1 x0) (q1' x0)) (H_rec_l_2 : ∀ x0, LeO (q2 x0) (q2' x0)) : LeO (G5 p0 v19 q1 q2 v22) (G5 p0 v19 q1' q2' v22) := by
 unfold G5
 repeat' (first | apply H_rec_l_1 | apply H_rec_l_2 | assumption|with_reducible exact Be _|with_reducible apply CL|with_reducible refine CJ ?_ fun _ => ?_|exact Be _|intro _)
theorem Rz {p0 : TS} {v19 : Int} {q1 q1' : Int → Option Bool} (H_rec_l_1 : ∀ x0, LeO (q1 x0) (q1' x0)) : ∀ (m m' : Nat), m ≤ m' → ∀ v22, LeO (Cr p0 v19 q1 m v22) (Cr p0 v19 q1' m' v22)
 | 0, m', _, _ => (by rw [Cr]; exact LeO.none _)
 | m + 1, 0, h, _ => absurd h (Nat.not_succ_le_zero _)
 | m + 1, m' + 1, h, v22 => (by rw [Cr, Cr]; exact Ab4 H_rec_l_1 (Rz H_rec_l_1 m m' (Nat.le_of_succ_le_succ h)))
theorem Ai5 {n n' : Nat} (hn : n ≤ n') {p0 : TS} {v19 : Int} {q1 q1' : Int → Option Bool} (H_rec_l_1 : ∀ x0, LeO (q1 x0) (q1' x0)) {v22 : Int} : LeO (Cr p0 v19 q1 n v22) (Cr p0 v19 q1' n' v22) := Rz H_rec_l_1 n n' hn v22
theorem YO {n n' : Nat} (hn : n ≤ n') {p0 : TS} {s_RBlocks s_RBlocks' : (List TS) → Option Bool} {q1 q1' : Int → Option Bool} {v19 : Int} (H_s_RBlocks : ∀ x0, LeO (s_RBlocks x0) (s_RBlocks' x0)) (H_rec_l_1 : ∀ x0, LeO (q1 x0) (q1' x0)) : LeO (GX p0 s_RBlocks n q1 v19) (GX p0 s_RBlocks' n' q1' v19) := by
 unfold GX
 repeat' (first | apply H_s_RBlocks | apply H_rec_l_1 | apply Kl hn | apply Ai5 hn | apply Ae4 hn | assumption|with_reducible exact Be _|with_reducible apply CL|with_reducible refine CJ ?_ fun _ => ?_|exact Be _|intro _)
theorem Qt {n n' : Nat} (hn : n ≤ n') {p0 : TS} {s_RBlocks s_RBlocks' : (List TS) → Option Bool} (H_s_RBlocks : ∀ x0, LeO (s_RBlocks x0) (s_RBlocks' x0)) : ∀ (m m' : Nat), m ≤ m' → ∀ v19, LeO (CA p0 s_RBlocks n m v19) (CA p0 s_RBlocks' n' m' v19)
 | 0, m', _, _ => (by rw [CA]; exact LeO.none _)
 | m + 1, 0, h, _ => absurd h (Nat.not_succ_le_zero _)
 | m + 1, m' + 1, h, v19 => (by rw [CA, CA]; exact YO hn H_s_RBlocks (Qt hn H_s_RBlocks m m' (Nat.le_of_succ_le_succ h)))
theorem Ae9 {n n' : Nat} (hn : n ≤ n') {p0 : TS} {s_RBlocks s_RBlocks' : (List TS) → Option Bool} (H_s_RBlocks : ∀ x0, LeO (s_RBlocks x0) (s_RBlocks' x0)) {v19 : Int} : LeO (CA p0 s_RBlocks n n v19) (CA p0 s_RBlocks' n' n' v19) := Qt hn H_s_RBlocks n n' hn v19
theorem Ai1 {n n' : Nat} (hn : n ≤ n') {p0 : TS} {s_RBlocks s_RBlocks' : (List TS) → Option Bool} (H_s_RBlocks : ∀ x0, LeO (s_RBlocks x0) (s_RBlocks' x0)) : LeO (CF p0 s_RBlocks n) (CF p0 s_RBlocks' n') := by
 unfold CF
 repeat' (first | apply H_s_RBlocks | apply Ae9 hn | assumption|with_reducible exact Be _|with_reducible apply CL|with_reducible refine CJ ?_ fun _ => ?_|exact Be _|intro _)
theorem Ai2 {n n' : Nat} (hn : n ≤ n') {p0 : TS} {s_RBlocks s_RBlocks' : (List TS) → Option Bool} {v2 : ByteArray} (H_s_RBlocks : ∀ x0, LeO (s_RBlocks x0) (s_RBlocks' x0)) : LeO (C1 p0 s_RBlocks n v2) (C1 p0 s_RBlocks' n' v2) := by
 unfold C1
 repeat' (first | apply H_s_RBlocks | apply AE4 hn | apply Ai1 hn | assumption|with_reducible exact Be _|with_reducible apply CL|with_reducible refine CJ ?_ fun _ => ?_|exact Be _|intro _)
theorem Ag9 {n n' : Nat} (hn : n ≤ n') {p0 : TS} {s_RBlocks s_RBlocks' : (List TS) → Option Bool} {v1 : Bool} (H_s_RBlocks : ∀ x0, LeO (s_RBlocks x0) (s_RBlocks' x0)) : LeO (Fb p0 s_RBlocks n v1) (Fb p0 s_RBlocks' n' v1) := by
 unfold Fb
 repeat' (first | apply H_s_RBlocks | apply AE4 hn | apply Kl hn | apply Ai2 hn | assumption|with_reducible exact Be _|with_reducible apply CL|with_reducible refine CJ ?_ fun _ => ?_|exact Be _|intro _)
theorem An9 {n n' : Nat} (hn : n ≤ n') {s_RBuilt s_RBuilt' : TS → Option Bool} {s_RBlocks s_RBlocks' : (List TS) → Option Bool} {p0 : TS} (H_s_RBuilt : ∀ x0, LeO (s_RBuilt x0) (s_RBuilt' x0)) (H_s_RBlocks : ∀ x0, LeO (s_RBlocks x0) (s_RBlocks' x0)) : LeO (IR s_RBuilt s_RBlocks n p0) (IR s_RBuilt' s_RBlocks' n' p0) := by
 unfold IR
 repeat' (first | apply H_s_RBuilt | apply H_s_RBlocks | apply Ag9 hn | assumption|with_reducible exact Be _|with_reducible apply CL|with_reducible refine CJ ?_ fun _ => ?_|exact Be _|intro _)
theorem Yf {p0 : (List TS)} {s_RBuilt s_RBuilt' : TS → Option Bool} {q0 q0' : Int → Option Bool} {v1 : Int} (H_s_RBuilt : ∀ x0, LeO (s_RBuilt x0) (s_RBuilt' x0)) (H_rec_l_0 : ∀ x0, LeO (q0 x0) (q0' x0)) : LeO (Gd p0 s_RBuilt q0 v1) (Gd p0 s_RBuilt' q0' v1) := by
 unfold Gd
 repeat' (first | apply H_s_RBuilt | apply H_rec_l_0 | assumption|with_reducible exact Be _|with_reducible apply CL|with_reducible refine CJ ?_ fun _ => ?_|exact Be _|intro _)
theorem Qi {p0 : (List TS)} {s_RBuilt s_RBuilt' : TS → Option Bool} (H_s_RBuilt : ∀ x0, LeO (s_RBuilt x0) (s_RBuilt' x0)) : ∀ (m m' : Nat), m ≤ m' → ∀ v1, LeO (Ca p0 s_RBuilt m v1) (Ca p0 s_RBuilt' m' v1)
 | 0, m', _, _ => (by rw [Ca]; exact LeO.none _)
 | m + 1, 0, h, _ => absurd h (Nat.not_succ_le_zero _)
 | m + 1, m' + 1, h, v1 => (by rw [Ca, Ca]; exact Yf H_s_RBuilt (Qi H_s_RBuilt m m' (Nat.le_of_succ_le_succ h)))
theorem Zn {n n' : Nat} (hn : n ≤ n') {p0 : (List TS)} {s_RBuilt s_RBuilt' : TS → Option Bool} (H_s_RBuilt : ∀ x0, LeO (s_RBuilt x0) (s_RBuilt' x0)) {v1 : Int} : LeO (Ca p0 s_RBuilt n v1) (Ca p0 s_RBuilt' n' v1) := Qi H_s_RBuilt n n' hn v1
theorem Ad9 {n n' : Nat} (hn : n ≤ n') {s_RBuilt s_RBuilt' : TS → Option Bool} {s_RBlocks s_RBlocks' : (List TS) → Option Bool} {p0 : (List TS)} (H_s_RBuilt : ∀ x0, LeO (s_RBuilt x0) (s_RBuilt' x0)) (H_s_RBlocks : ∀ x0, LeO (s_RBlocks x0) (s_RBlocks' x0)) : LeO (HT s_RBuilt s_RBlocks n p0) (HT s_RBuilt' s_RBlocks' n' p0) := by
 unfold HT
 repeat' (first | apply H_s_RBuilt | apply H_s_RBlocks | apply Zn hn | assumption|with_reducible exact Be _|with_reducible apply CL|with_reducible refine CJ ?_ fun _ => ?_|exact Be _|intro _)
theorem OJ : ∀ (n n' : Nat), n ≤ n' → (∀ (p0 : TS), LeO (Dt n p0) (Dt n' p0)) ∧ (∀ (p0 : (List TS)), LeO (B7 n p0) (B7 n' p0))
 | 0, n', _ => ⟨fun _ => (by rw [Dt]; exact LeO.none _), fun _ => (by rw [B7]; exact LeO.none _)⟩
 | n + 1, 0, h => absurd h (Nat.not_succ_le_zero _)
 | n + 1, n' + 1, h => ⟨fun p0 => (by rw [Dt, Dt]; exact An9 (Nat.le_of_succ_le_succ h) (OJ n n' (Nat.le_of_succ_le_succ h)).1 (OJ n n' (Nat.le_of_succ_le_succ h)).2), fun p0 => (by rw [B7, B7]; exact Ad9 (Nat.le_of_succ_le_succ h) (OJ n n' (Nat.le_of_succ_le_succ h)).1 (OJ n n' (Nat.le_of_succ_le_succ h)).2)⟩
theorem Ax4 {n n' : Nat} (hn : n ≤ n') {p0 : (List TS)} : LeO (B7 n p0) (B7 n' p0) := (OJ n n' hn).2 p0
theorem AB0 {n n' : Nat} (hn : n ≤ n') {p0 : LSay} {v6 : TTree} {v8 : (List TS)} {v9 : Int} {v10 : Int} {v11 : Int} {q0 q0' : (List TS) → Int → Int → Int → Option (TP × Int × Int × Bool × Bool)} {v12 : Bool} (H_rec_l_0 : ∀ x0 x1 x2 x3, LeO (q0 x0 x1 x2 x3) (q0' x0 x1 x2 x3)) : LeO (Iz p0 n v6 v8 v9 v10 v11 q0 v12) (Iz p0 n' v6 v8 v9 v10 v11 q0' v12) := by
 unfold Iz
 repeat' (first | apply H_rec_l_0 | apply AA7 hn | apply Ax4 hn | assumption|with_reducible exact Be _|with_reducible apply CL|with_reducible refine CJ ?_ fun _ => ?_|exact Be _|intro _)
theorem Ay7 {n n' : Nat} (hn : n ≤ n') {p0 : LSay} {v6 : TTree} {q0 q0' : (List TS) → Int → Int → Int → Option (TP × Int × Int × Bool × Bool)} {v8 : (List TS)} {v9 : Int} {v10 : Int} {v11 : Int} (H_rec_l_0 : ∀ x0 x1 x2 x3, LeO (q0 x0 x1 x2 x3) (q0' x0 x1 x2 x3)) : LeO (I2 p0 n v6 q0 v8 v9 v10 v11) (I2 p0 n' v6 q0' v8 v9 v10 v11) := by
 unfold I2
 repeat' (first | apply H_rec_l_0 | apply AB0 hn | assumption|with_reducible exact Be _|with_reducible apply CL|with_reducible refine CJ ?_ fun _ => ?_|exact Be _|intro _)
theorem XT {n n' : Nat} (hn : n ≤ n') {p0 : LSay} {v6 : TTree}  : ∀ (m m' : Nat), m ≤ m' → ∀ v8 v9 v10 v11, LeO (Dz p0 n v6 m v8 v9 v10 v11) (Dz p0 n' v6 m' v8 v9 v10 v11)
 | 0, m', _, _, _, _, _ => (by rw [Dz]; exact LeO.none _)
 | m + 1, 0, h, _, _, _, _ => absurd h (Nat.not_succ_le_zero _)
 | m + 1, m' + 1, h, v8, v9, v10, v11 => (by rw [Dz, Dz]; exact Ay7 hn  (XT hn  m m' (Nat.le_of_succ_le_succ h)))
theorem AB6 {n n' : Nat} (hn : n ≤ n') {p0 : LSay} {v6 : TTree}  {v8 : (List TS)} {v9 : Int} {v10 : Int} {v11 : Int} : LeO (Dz p0 n v6 n v8 v9 v10 v11) (Dz p0 n' v6 n' v8 v9 v10 v11) := XT hn  n n' hn v8 v9 v10 v11
theorem AC1 {n n' : Nat} (hn : n ≤ n') {p0 : LSay} {v5 : Bool}  : LeO (Iw p0 n v5) (Iw p0 n' v5) := by
 unfold Iw
 repeat' (first | apply Z4 hn | apply AB6 hn | assumption|with_reducible exact Be _|with_reducible apply CL|with_reducible refine CJ ?_ fun _ => ?_|exact Be _|intro _)
theorem AE2 {n n' : Nat} (hn : n ≤ n') {p0 : LSay} {v4 : Bool}  : LeO (F5 p0 n v4) (F5 p0 n' v4) := by
 unfold F5
 repeat' (first | apply AC1 hn | assumption|with_reducible exact Be _|with_reducible apply CL|with_reducible refine CJ ?_ fun _ => ?_|exact Be _|intro _)
theorem AB4 {n n' : Nat} (hn : n ≤ n') {p0 : LSay} {v3 : Bool}  : LeO (F7 p0 n v3) (F7 p0 n' v3) := by
 unfold F7
 repeat' (first | apply AE2 hn | assumption|with_reducible exact Be _|with_reducible apply CL|with_reducible refine CJ ?_ fun _ => ?_|exact Be _|intro _)
theorem AA3 {n n' : Nat} (hn : n ≤ n') {p0 : LSay} {v2 : Bool}  : LeO (FT p0 n v2) (FT p0 n' v2) := by
 unfold FT
 repeat' (first | apply AB4 hn | assumption|with_reducible exact Be _|with_reducible apply CL|with_reducible refine CJ ?_ fun _ => ?_|exact Be _|intro _)
theorem AT9 {n n' : Nat} (hn : n ≤ n') {p0 : LSay}  : LeO (Ly n p0) (Ly n' p0) := by
 unfold Ly
 repeat' (first | apply Y5 hn | apply AA3 hn | assumption|with_reducible exact Be _|with_reducible apply CL|with_reducible refine CJ ?_ fun _ => ?_|exact Be _|intro _)
end Go.Ax
