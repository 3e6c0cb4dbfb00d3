import Derived.Test.YtojkpenjeglipaaGreatTCVX
import Derived.Test.YtojkpenjeglipaaGreatTAxRb
import Derived.Test.YtojkpenjeglipaaGreatTAxRm
import Derived.Test.YtojkpenjeglipaaGreatTCPrim
import Derived.KernelRfl
set_option linter.unusedSimpArgs false
set_option linter.unusedVariables false
namespace Go.Ax
def TBL : List (List (FuncId × XF)) :=
 [[(C7, ⟨64, Qw, [.tmp 0], .pure⟩), (Jh, ⟨18, UM, [.tmp 4, .tmp 5], .pure⟩), (IG, ⟨30, XD, [.tmp 4], .pure⟩)],
 [(G1, ⟨41, Sv, [.cell 2 true 6, .tmp 3, .tmp 4], .pure⟩)],
 [(AD9, ⟨17, Bl8, [.tmp 2], .pure⟩), (Ad4, ⟨109, Bk1, [.tmp 2], .pure⟩), (Gx, ⟨16, AQ6, [.tmp 2], .pure⟩), (KX, ⟨25, Yt, [.tmp 4], .pure⟩), (MI, ⟨36, Ao6, [.tmp 4], .dp⟩), (DK, ⟨63, Qu, [.tmp 6, .tmp 7], .pure⟩), (XP, ⟨70, Ax7, [.tmp 4], .pure⟩)],
 [(IU, ⟨207, Qq, [.tmp 2, .tmp 3], .pure⟩), (Ga, ⟨78, JG, [.cell 2 true 6], .pure⟩), (F0, ⟨35, Je, [.tmp 4], .pure⟩), (I1, ⟨26, Qs, [.tmp 2], .pure⟩)],
 [(FK, ⟨29, O9, [.cell 6 true 2], .pure⟩), (FS, ⟨25, Ac7, [.cell 4 true 2], .pure⟩), (AC7, ⟨75, Be2, [.tmp 2], .pure⟩), (My, ⟨15, Uv, [.tmp 2], .pure⟩), (Gw, ⟨6, AR1, [.tmp 2], .pure⟩)],
 [(Bb, ⟨88, JC, [.cell 4 true 6], .pure⟩), (Bc7, ⟨34, BO9, [.tmp 2, .tmp 3], .pure⟩), (FT, ⟨149, Ym, [.tmp 2], .pure⟩), (JJ, ⟨10, Bt5, [.tmp 2], .pure⟩), (Te, ⟨200, Bi6, [.tmp 2], .pure⟩), (H9, ⟨18, Ab8, [.tmp 4, .tmp 5], .pure⟩), (KM, ⟨187, T3, [.tmp 4, .tmp 5, .tmp 6], .dp⟩), (JB, ⟨12, Ap4, [.cell 4 true 6, .tmp 5], .pure⟩), (Hb, ⟨29, Sh, [.tmp 2], .pure⟩), (E1, ⟨48, IZ, [.tmp 2], .pure⟩)],
 [(JQ, ⟨49, Td, [.tmp 2], .pure⟩), (AI, ⟨17, I5, [], .pure⟩), (AL, ⟨42, Jd, [.tmp 2], .pure⟩), (Bn, ⟨27, IP, [], .pure⟩), (AX, ⟨36, KT, [.tmp 4], .pure⟩), (AD, ⟨16, Kg, [.tmp 4], .pure⟩), (Cv, ⟨33, IT, [.tmp 2], .pure⟩), (AN1, ⟨83, BO7, [.tmp 2, .tmp 3], .pure⟩), (Cm, ⟨9, Dn, [.tmp 4], .pure⟩), (B5, ⟨9, DT, [.tmp 4], .pure⟩)],
 [],
 [(Ls, ⟨15, Xz, [.tmp 2], .pure⟩), (H6, ⟨25, Ak7, [], .pure⟩), (Hn, ⟨29, NJ, [.cell 6 true 2], .pure⟩), (GS, ⟨11, Ae8, [.cell 4 true 2], .pure⟩), (AL2, ⟨12, Bv7, [.cell 2 true 2], .pure⟩), (Kt, ⟨15, AN9, [.tmp 6], .pure⟩), (JK, ⟨10, Bx0, [.tmp 2], .pure⟩)],
 [(BV, ⟨9, CS, [.tmp 4], .pure⟩), (GN, ⟨6, Af2, [.tmp 2], .pure⟩), (MS, ⟨21, Be5, [.tmp 2], .pure⟩), (E4, ⟨26, Xv, [.tmp 2], .pure⟩), (Dz, ⟨169, H4, [.cell 2 true 6], .pure⟩)],
 [(FX, ⟨27, Jq, [.tmp 2, .tmp 3], .pure⟩), (M9, ⟨18, Al6, [.tmp 2], .pure⟩), (Ah2, ⟨17, BX2, [.tmp 4], .pure⟩), (F8, ⟨25, I8, [.cell 6 true 2, .tmp 7], .pure⟩), (Br, ⟨127, Tk, [.tmp 4], .pure⟩), (He, ⟨36, SL, [.tmp 4, .tmp 5], .dp⟩), (Ee, ⟨14, ST, [.cell 4 true 4, .tmp 5], .pure⟩), (G3, ⟨39, SG, [.tmp 6, .tmp 7], .dp⟩), (F3, ⟨25, JD, [.cell 6 true 6, .tmp 7], .pure⟩)],
 [(PY, ⟨5, Zf, [.tmp 2], .pure⟩), (CF, ⟨37, Ja, [.tmp 4], .pure⟩), (JP, ⟨19, Sc, [.tmp 4], .pure⟩), (F5, ⟨210, Jz, [.cell 2 true 8], .pure⟩), (CM, ⟨19, Dx, [.tmp 4], .pure⟩), (Dq, ⟨19, EW, [.tmp 4], .pure⟩)],
 [(TL, ⟨6, Ah0, [.tmp 2], .pure⟩)],
 [(Lh, ⟨15, Se, [.tmp 2], .pure⟩), (Cb, ⟨19, C9, [.tmp 4], .pure⟩), (AF9, ⟨139, Bd8, [.tmp 2], .pure⟩), (Bv, ⟨9, CR, [.tmp 4], .pure⟩), (X3, ⟨6, As6, [.tmp 2], .pure⟩), (Az0, ⟨35, Bv9, [.tmp 2, .tmp 3], .pure⟩), (Am0, ⟨115, AP6, [.tmp 2], .pure⟩)],
 [(Ct, ⟨8, IN, [.cell 2 true 6], .pure⟩), (Sm, ⟨17, Ag3, [.tmp 4], .pure⟩), (C3, ⟨9, ET, [.tmp 2], .own⟩), (FH, ⟨25, IQ, [.cell 6 true 4, .tmp 7], .pure⟩), (Ij, ⟨5, Nk, [.tmp 2], .pure⟩), (YI, ⟨63, Ax2, [.tmp 6, .tmp 7], .pure⟩), (DY, ⟨15, IR, [.tmp 2], .pure⟩)],
 [(AD8, ⟨2, Bk2, [.tmp 0], .pure⟩)],
 [(Le, ⟨29, Ts, [.tmp 2], .pure⟩), (Bm1, ⟨9, BM4, [.tmp 4], .pure⟩), (Ce, ⟨19, C8, [.tmp 4], .pure⟩), (Ya, ⟨9, AM1, [.tmp 4], .pure⟩)],
 [(Hm, ⟨9, PF, [.tmp 2], .pure⟩), (MH, ⟨17, UZ, [.tmp 2], .pure⟩), (CJ, ⟨19, Ea, [.tmp 4], .pure⟩), (Tl, ⟨8, Ae6, [.tmp 3], .pure⟩)]]
theorem BM2 : Be0 PR TBL := ⟨⟨An7, Aq9, Au9, trivial⟩, ⟨Ar5, trivial⟩, ⟨By7, By1, Bs8, AM5, Bp2, An5, Bv4, trivial⟩, ⟨An4, UU, UQ, An8, trivial⟩, ⟨Ze, AX5, BA3, Ap6, Br6, trivial⟩, ⟨Us, Cd7, AH2, BQ3, BB7, Bk4, AD4, Bo8, Au1, Qr, trivial⟩, ⟨Au3, US, Un, TA, XK, VF, TD, Cb8, Fj, Gh, trivial⟩, trivial, ⟨Av7, AT7, Y2, AX6, BO3, Bq1, BN9, trivial⟩, ⟨Ey, AS6, BA8, AB2, S6, trivial⟩, ⟨Uo, AS7, Cf0, Uz, As8, As3, At8, At1, U5, trivial⟩, ⟨Bc3, UO, At3, UA, FV, Hr, trivial⟩, ⟨AS9, trivial⟩, ⟨Ai8, E0, BG1, Ew, Bh2, BP0, Bq2, trivial⟩, ⟨Tw, Bf6, Iu, TF, Ac3, Bv0, Tx, trivial⟩, ⟨BA4, trivial⟩, ⟨Ad3, BV9, EY, Bw3, trivial⟩, ⟨YS, Ap7, HJ, Bl4, trivial⟩, trivial⟩
end Go.Ax
namespace Go.Ax
open Go.Proofs
noncomputable section
def CLO : List (FuncId × CloneF) :=
 [(Cd, ⟨false, UG, 2, 24⟩), (CW, ⟨false, K3, 4, 56⟩)]
theorem Cf8 : AB9 PR CLO := ⟨⟨IW, by kernel_rfl⟩, ⟨Ik, by kernel_rfl⟩, trivial⟩
def Bu3 : Bp := fun f args st => bif Nat.beq Mu f then (match args with
 | [.d (.sl [])] => some (.d (.bool true), st)
 | [.d (.sl [[.str y]])] => some (.d (.bool true), st)
 | _ => none) else none
theorem BJ1 : G5 PR Bu3 := fun f args st v st' h => by
 unfold Bu3 at h
 rcases bif_some h with ⟨e, h⟩ | ⟨_, h⟩
 · have := Nat.eq_of_beq_eq_true e
   subst this
   split at h
   · cases h; exact Bg5 [] (by simp)
   · rename_i y _
     cases h
     have := Bg5 (st := st) [y] (by simp)
     rw [show decide ([y].Nodup) = true by simp] at this
     exact this
   · cases h
 · cases h
def SS : Bp := orS (BG6 CLO) Bu3
theorem BU8 : G5 PR SS := BY8 (BR7 Cf8) BJ1
end
end Go.Ax
