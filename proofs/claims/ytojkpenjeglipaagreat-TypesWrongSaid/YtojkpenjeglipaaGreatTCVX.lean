import Derived.Test.YtojkpenjeglipaaGreatProg
import Derived.Test.YtojkpenjeglipaaGreatTAxVk
import Derived.KernelRfl
set_option linter.unusedVariables false
namespace Go.Ax
abbrev kF : XA := .c (.d (.bool false))
abbrev kT : XA := .c (.d (.bool true))
abbrev kI (n : Int) : XA := .c (.d (.int .i64 n))
abbrev kS (a : Array UInt8) : XA := .c (.d (.str ⟨a⟩))
abbrev sr (l : List XI) (c : XC) : XC := .seq (.region l) c
theorem mF {P : Program} {f : FuncId} {fn : Func} {c : Code} {N : Nat} {xc : XC} {res : List XRes} (h0 : ∀ vs w, (callFunc f vs).run P w = .ok (.enter f vs) w) (h1 : P.funcs[f]? = some fn) (h2 : fn.ntmps = N) (h3 : fn.body = some c) (h4 : cC P N c = some xc) (h5 : Be9 P fn.results.toList = some res) : Fn P f N xc res := ⟨h0, fn, c, h1, h2, h3, h4, h5⟩
abbrev J (d : Nat) (o : XOp) : XI := { dst := some d, op := o, guard := none, nm := 0 }
abbrev Jt (d g : Nat) (o : XOp) : XI := { dst := some d, op := o, guard := some (g, true), nm := 0 }
abbrev Jf (d g : Nat) (o : XOp) : XI := { dst := some d, op := o, guard := some (g, false), nm := 0 }
open Go.Proofs
noncomputable abbrev PR : Program := Tryz.prog
abbrev Jr : Nat := 3
abbrev BW5 : Nat := 11
abbrev I4 : Nat := 12
abbrev C7 : Nat := 13
abbrev Jh : Nat := 14
abbrev IG : Nat := 15
abbrev G1 : Nat := 16
abbrev AD9 : Nat := 33
abbrev Be1 : Nat := 39
abbrev Bf7 : Nat := 40
abbrev Ax5 : Nat := 41
abbrev Ad4 : Nat := 42
abbrev Gx : Nat := 43
abbrev KX : Nat := 44
abbrev MI : Nat := 45
abbrev DK : Nat := 46
abbrev XP : Nat := 47
abbrev IU : Nat := 48
abbrev Ga : Nat := 49
abbrev F0 : Nat := 50
abbrev I1 : Nat := 51
abbrev FK : Nat := 69
abbrev FS : Nat := 70
abbrev AC7 : Nat := 71
abbrev My : Nat := 72
abbrev Gw : Nat := 73
abbrev Bb : Nat := 81
abbrev Bc7 : Nat := 82
abbrev FT : Nat := 83
abbrev Am9 : Nat := 84
abbrev JJ : Nat := 85
abbrev Te : Nat := 86
abbrev H9 : Nat := 87
abbrev KM : Nat := 88
abbrev Uw : Nat := 89
abbrev Bi8 : Nat := 90
abbrev BX7 : Nat := 91
abbrev BQ7 : Nat := 92
abbrev JB : Nat := 93
abbrev Hb : Nat := 94
abbrev E1 : Nat := 95
abbrev Ao0 : Nat := 96
abbrev JQ : Nat := 97
abbrev AI : Nat := 98
abbrev AL : Nat := 99
abbrev Bn : Nat := 100
abbrev AX : Nat := 101
abbrev AD : Nat := 102
abbrev Fz : Nat := 103
abbrev Cv : Nat := 104
abbrev AN1 : Nat := 105
abbrev Cm : Nat := 109
abbrev B5 : Nat := 111
abbrev Ls : Nat := 137
abbrev H6 : Nat := 138
abbrev Hn : Nat := 139
abbrev GS : Nat := 140
abbrev AL2 : Nat := 141
abbrev Kt : Nat := 142
abbrev JK : Nat := 143
abbrev Mu : Nat := 144
abbrev BV : Nat := 145
abbrev GN : Nat := 146
abbrev MS : Nat := 147
abbrev E4 : Nat := 157
abbrev KB : Nat := 158
abbrev Dz : Nat := 159
abbrev FX : Nat := 160
abbrev M9 : Nat := 161
abbrev Ah2 : Nat := 162
abbrev F8 : Nat := 163
abbrev AO4 : Nat := 164
abbrev Cd : Nat := 165
abbrev Br : Nat := 166
abbrev He : Nat := 167
abbrev Ee : Nat := 168
abbrev TT : Nat := 169
abbrev BG0 : Nat := 170
abbrev Ai4 : Nat := 171
abbrev G3 : Nat := 172
abbrev F3 : Nat := 175
abbrev PY : Nat := 176
abbrev CF : Nat := 179
abbrev JP : Nat := 180
abbrev F5 : Nat := 181
abbrev CM : Nat := 182
abbrev Dq : Nat := 183
abbrev TL : Nat := 205
abbrev Lh : Nat := 209
abbrev Cb : Nat := 211
abbrev AF9 : Nat := 212
abbrev Bv : Nat := 213
abbrev X3 : Nat := 214
abbrev Az0 : Nat := 221
abbrev Am0 : Nat := 222
abbrev Gv : Nat := 223
abbrev Ct : Nat := 224
abbrev Sm : Nat := 225
abbrev Bv6 : Nat := 226
abbrev C3 : Nat := 227
abbrev CW : Nat := 228
abbrev FH : Nat := 229
abbrev Ij : Nat := 230
abbrev YI : Nat := 232
abbrev DY : Nat := 237
abbrev AD8 : Nat := 251
abbrev Le : Nat := 256
abbrev Bm1 : Nat := 258
abbrev Ce : Nat := 259
abbrev Ya : Nat := 266
abbrev UP : Nat := 267
abbrev Bh1 : Nat := 268
abbrev Hm : Nat := 279
abbrev MH : Nat := 280
abbrev CJ : Nat := 282
abbrev Tl : Nat := 283
abbrev Gy : Nat := 9
abbrev AZ : Nat := 101
abbrev AO : Nat := 89
abbrev A7 : Nat := 3
abbrev K3 : Nat := 165
abbrev BZ3 : Nat := 5
abbrev IV : Nat := 175
abbrev UG : Nat := 106
def HQ : List XI := [J 2 (.box (.t 0)), J 3 (.box (.t 1)), J 4 (.move kF)]
def HM : List XI := [J 13 (.load true 8 (.t 3)), J 14 (.call BW5 [(.t 13)]), J 12 (.move (.t 14)), J 15 (.extract (.t 12) 0), J 16 (.extract (.t 12) 1), J 17 (.extract (.t 12) 2), J 18 (.extract (.t 12) 3), J 19 (.extract (.t 12) 4), J 5 (.alloc [(.d (.str ⟨#[]⟩)), (.d (.str ⟨#[]⟩)), (.d (.str ⟨#[]⟩)), (.d (.int .i64 0)), (.ex []), (.ex [])]), { dst := none, op := .store 6 (.t 5) (.t 15) }, J 6 (.move (.t 16)), J 7 (.move (.t 17)), J 8 (.move (.t 18)), J 9 (.move (.t 19))]
def GT : List XI := [J 20 (.move (.t 9)), J 21 (.not (.t 20)), J 22 (.move (.t 21)), Jf 23 22 (.move (.t 8)), J 24 (.pick (.t 22) kT (.t 23))]
def EK : List XI := [J 25 (.move (.t 24)), Jf 26 25 (.load true 5 (.t 2)), Jf 27 25 (.call I4 [(.t 26)]), J 28 (.pick (.t 25) kT (.t 27))]
def HO : List XI := GT ++ (EK)
def HS : List XI := [J 29 (.call C7 []), J 4 (.move (.t 29))]
def HN : List XI := [J 31 (.load true 5 (.t 2)), J 32 (.load true 6 (.t 5)), J 33 (.call Jh [(.t 31), (.t 32)]), J 30 (.move (.t 33)), J 34 (.extract (.t 30) 0), J 35 (.extract (.t 30) 1), J 10 (.move (.t 34)), J 11 (.move (.t 35))]
def GQ : List XI := [J 36 (.load true 5 (.t 2)), J 37 (.load true 6 (.t 5)), J 38 (.call IG [(.t 36), (.t 37)]), J 39 (.bin .eql (.t 38) (kI 1)), J 40 (.move (.t 39)), Jt 41 40 (.move (.t 10)), Jt 42 40 (.lenR (.t 41)), Jt 43 40 (.bin .eql (.t 42) (kI 0)), J 44 (.pick (.t 40) (.t 43) kF)]
def G0 : List XI := [J 45 (.move (.t 44)), Jt 46 45 (.move (.t 11)), Jt 47 45 (.not (.t 46)), J 48 (.pick (.t 45) (.t 47) kF)]
def EF : List XI := [J 49 (.move (.t 48)), Jt 50 49 (.call C7 []), J 51 (.pick (.t 49) (.t 50) kF)]
def Dd : List XI := [J 4 (.move (.t 51))]
def HP : List XI := GQ ++ (G0 ++ (EF ++ (Dd)))
def Ji : XC :=
 (sr HQ
 (sr HM
 (.seq (sr HO
 (.cond (.t 28)
 (sr HS
 .ret)
 .skip))
 (sr HN
 (sr HP
 .ret)))))
theorem U7 : Fn PR Jr 52 Ji [.tmp 4] := mF Tryz.call3 Tryz.func3 rfl rfl (by kernel_rfl) (by kernel_rfl)
def By8 : List XI := [J 1 (.box (.t 0)), J 2 (.alloc [(.d (.str ⟨#[]⟩)), (.d (.str ⟨#[]⟩)), (.d (.str ⟨#[]⟩)), (.d (.int .i64 0)), (.ex []), (.ex [])]), J 3 (.move (kI 0)), J 4 (.move (kI 0)), J 5 (.move kF), J 6 (.move kF)]
def BD5 : List XI := [J 13 (.fieldAddr 0 (.t 1)), J 14 (.load false 1 (.t 13)), J 15 (.fieldAddr 1 (.t 1)), J 16 (.load false 1 (.t 15)), J 17 (.fieldAddr 2 (.t 1)), J 18 (.load false 1 (.t 17)), J 19 (.fieldAddr 3 (.t 1)), J 20 (.load false 1 (.t 19)), J 21 (.fieldAddr 4 (.t 1)), J 22 (.load false 1 (.t 21)), J 23 (.build [(.d (.str ⟨#[]⟩)), (.d (.str ⟨#[]⟩)), (.d (.str ⟨#[]⟩)), (.d (.int .i64 0)), (.ex []), (.ex [])] [(0, 1, (.t 14)), (1, 1, (.t 16)), (2, 1, (.t 18)), (3, 1, (.t 20)), (4, 1, (.t 22))]), J 7 (.alloc [(.d (.str ⟨#[]⟩)), (.d (.str ⟨#[]⟩)), (.d (.str ⟨#[]⟩)), (.d (.int .i64 0)), (.ex []), (.ex [])]), { dst := none, op := .store 6 (.t 7) (.t 23) }]
def Bm4 : List XI := [J 24 (.fieldAddr 5 (.t 1)), J 25 (.load false 1 (.t 24)), J 26 (.fieldAddr 6 (.t 1)), J 27 (.load false 1 (.t 26)), J 28 (.call Be1 [(.t 25), (.t 27)]), J 29 (.move (.t 28)), Jf 30 29 (.fieldAddr 4 (.t 1)), Jf 31 29 (.load false 1 (.t 30)), Jf 32 29 (.lenR (.t 31)), Jf 33 29 (.bin .gtr (.t 32) (kI 12)), J 34 (.pick (.t 29) kT (.t 33))]
def Bk5 : List XI := [J 35 (.move (.t 34)), Jf 36 35 (.fieldAddr 7 (.t 1)), Jf 37 35 (.load false 1 (.t 36)), Jf 38 35 (.lenR (.t 37)), Jf 39 35 (.bin .gtr (.t 38) (kI 12)), J 40 (.pick (.t 35) kT (.t 39))]
def Bm2 : List XI := [J 41 (.move (.t 40)), Jf 42 41 (.fieldAddr 0 (.t 1)), Jf 43 41 (.load false 1 (.t 42)), Jf 44 41 (.lenS (.t 43)), Jf 45 41 (.bin .gtr (.t 44) (kI 100)), J 46 (.pick (.t 41) kT (.t 45))]
def Bi4 : List XI := [J 47 (.move (.t 46)), Jf 48 47 (.fieldAddr 1 (.t 1)), Jf 49 47 (.load false 1 (.t 48)), Jf 50 47 (.lenS (.t 49)), Jf 51 47 (.bin .gtr (.t 50) (kI 100)), J 52 (.pick (.t 47) kT (.t 51))]
def Ar4 : List XI := [J 53 (.move (.t 52)), Jf 54 53 (.fieldAddr 2 (.t 1)), Jf 55 53 (.load false 1 (.t 54)), Jf 56 53 (.lenS (.t 55)), Jf 57 53 (.bin .gtr (.t 56) (kI 100)), J 58 (.pick (.t 53) kT (.t 57))]
def BD3 : List XI := Bm4 ++ (Bk5 ++ (Bm2 ++ (Bi4 ++ (Ar4))))
def BD2 : List XI := [J 59 (.load true 6 (.t 7)), { dst := none, op := .store 6 (.t 2) (.t 59) }, J 3 (.move (kI 0)), J 4 (.move (kI 0)), J 5 (.move kF), J 6 (.move kF)]
def BF4 : List XI := [J 60 (.fieldAddr 5 (.t 1)), J 61 (.load false 1 (.t 60)), J 62 (.fieldAddr 6 (.t 1)), J 63 (.load false 1 (.t 62)), J 64 (.call Bf7 [(.t 61), (.t 63)]), J 8 (.alloc [(.ex []), (.ex []), (.ex []), (.ex []), (.ex []), (.ex [])]), { dst := none, op := .store 6 (.t 8) (.t 64) }]
def BE3 : List XI := [J 9 (.move (kI 0)), J 10 (.move (kI 0))]
def By4 : List XI := [J 11 (.move (kI 0))]
def By2 : List XI := [J 65 (.move (.t 11)), J 66 (.fieldAddr 7 (.t 1)), J 67 (.load false 1 (.t 66)), J 68 (.lenR (.t 67)), J 69 (.bin .lss (.t 65) (.t 68)), J 70 (.move (.t 69)), Jt 71 70 (.fieldAddr 3 (.t 8)), Jt 72 70 (.load false 1 (.t 71)), Jt 73 70 (.lenR (.t 72)), Jt 74 70 (.bin .gtr (.t 73) (kI 0)), J 75 (.pick (.t 70) (.t 74) kF)]
def BD8 : List XI := [J 78 (.fieldAddr 3 (.t 8)), J 79 (.load false 1 (.t 78)), J 80 (.lenR (.t 79)), J 81 (.bin .sub (.t 80) (kI 1)), J 82 (.fieldAddr 7 (.t 1)), J 83 (.load false 1 (.t 82)), J 84 (.move (.t 11)), J 85 (.indexAddr 1 (.t 83) (.t 84)), J 86 (.load false 1 (.t 85)), J 87 (.toInt .u64 (.t 86)), J 88 (.fieldAddr 3 (.t 8)), J 89 (.load false 1 (.t 88)), J 90 (.lenR (.t 89)), J 91 (.toInt .u64 (.t 90)), J 92 (.bin .rem (.t 87) (.t 91)), J 93 (.toInt .i64 (.t 92)), J 94 (.bin .sub (.t 81) (.t 93)), J 12 (.move (.t 94))]
def BE5 : List XI := [J 95 (.fieldAddr 5 (.t 7)), J 96 (.load false 1 (.t 95)), J 97 (.fieldAddr 3 (.t 8)), J 98 (.load false 1 (.t 97)), J 99 (.move (.t 12)), J 100 (.indexAddr 8 (.t 98) (.t 99)), J 101 (.load true 8 (.t 100)), J 102 (.buildSlice 8 [(.t 101)]), J 103 (.append AZ 8 144 (.t 96) (.t 102)), J 104 (.fieldAddr 5 (.t 7)), { dst := none, op := .store 1 (.t 104) (.t 103) }]
def Bs3 : List XI := [J 105 (.move (.t 9)), J 106 (.fieldAddr 4 (.t 8)), J 107 (.load false 1 (.t 106)), J 108 (.move (.t 12)), J 109 (.indexAddr 1 (.t 107) (.t 108)), J 110 (.load false 1 (.t 109)), J 111 (.bin .add (.t 105) (.t 110)), J 9 (.move (.t 111))]
def Bq8 : List XI := [J 112 (.move (.t 10)), J 113 (.fieldAddr 5 (.t 8)), J 114 (.load false 1 (.t 113)), J 115 (.move (.t 12)), J 116 (.indexAddr 1 (.t 114) (.t 115)), J 117 (.load false 1 (.t 116)), J 118 (.minmax true (.t 112) [(.t 117)]), J 10 (.move (.t 118))]
def Bs7 : List XI := [J 76 (.move (.t 11)), J 77 (.bin .add (.t 76) (kI 1)), J 11 (.move (.t 77))]
def Bs6 : XC :=
 (.seq (sr By2
 (.cond (.t 75)
 .skip
 (.exit 0)))
 (.seq (.block 1 (.seq (.regionS BD8 0)
 (.seq (.regionS BE5 1)
 (sr Bs3
 (.region Bq8)))))
 (.region Bs7)))
def Bt3 : List XI := [J 120 (.move (.t 9)), J 121 (.move (.t 10)), J 122 (.call Ax5 [(.t 120), (.t 121)]), J 119 (.move (.t 122)), J 123 (.extract (.t 119) 0), J 124 (.extract (.t 119) 1), J 9 (.move (.t 123)), J 10 (.move (.t 124))]
def Bt1 : List XI := [J 125 (.load true 6 (.t 7)), J 126 (.move (.t 9)), J 127 (.move (.t 10)), J 128 (.move (.t 9)), J 129 (.bin .leq (.t 128) (kI 300)), J 130 (.move (.t 129)), Jt 131 130 (.move (.t 10)), Jt 132 130 (.bin .leq (.t 131) (kI 12)), J 133 (.pick (.t 130) (.t 132) kF), J 134 (.move (.t 133)), Jt 135 134 (.load true 6 (.t 7)), Jt 136 134 (.call Ad4 [(.t 135)]), J 137 (.pick (.t 134) (.t 136) kF), J 138 (.move (.t 137)), Jt 139 138 (.fieldAddr 5 (.t 7)), Jt 140 138 (.load false 1 (.t 139)), { dst := some 141, op := .call Gx [(.t 140)], guard := some (138, true), nm := 1 }, J 142 (.pick (.t 138) (.t 141) kF), { dst := none, op := .store 6 (.t 2) (.t 125) }, J 3 (.move (.t 126)), J 4 (.move (.t 127)), J 5 (.move (.t 142)), J 6 (.move kT)]
def Ce7 : XC :=
 (sr By8
 (sr BD5
 (.seq (sr BD3
 (.cond (.t 58)
 (sr BD2
 .ret)
 .skip))
 (sr BF4
 (sr BE3
 (.seq (sr By4
 (.block 0 (.loop Bs6)))
 (sr Bt3
 (.seq (.regionD Bt1 [[], [], [], [], [3], [4, 3], [5, 4, 3], [6, 5, 4, 3], [5, 4, 3, 7, 6], [8, 5, 4, 3, 7, 6], [9, 8, 5, 4, 3, 7, 6], [10, 9, 8, 5, 4, 3, 7, 6], [9, 8, 5, 4, 3, 7, 6, 11, 10], [12, 9, 8, 5, 4, 3, 7, 6, 11, 10], [13, 12, 9, 8, 5, 4, 3, 7, 6, 11, 10], [14, 13, 12, 9, 8, 5, 4, 3, 7, 6, 11, 10], [15, 14, 13, 12, 9, 8, 5, 4, 3, 7, 6, 11, 10], [13, 12, 9, 8, 5, 4, 3, 7, 6, 11, 10, 16, 15, 14], [0, 16, 15, 14, 13, 12, 9, 8, 5, 4, 3, 7, 6, 11, 10], [1, 18, 0, 16, 15, 14, 13, 12, 9, 8, 5, 4, 3, 7, 6, 11, 10], [2, 19, 1, 18, 0, 16, 15, 14, 13, 12, 9, 8, 5, 4, 3, 7, 6, 11, 10], [17, 13, 12, 9, 8, 5, 4, 3, 7, 6, 11, 10, 16, 15, 14, 20, 2, 19, 1, 18, 0], [21, 17, 13, 12, 9, 8, 5, 4, 3, 7, 6, 11, 10, 16, 15, 14, 20, 2, 19, 1, 18, 0]] 2)
 .ret))))))))
theorem Ci0 : Fn PR BW5 143 Ce7 [.cell 2 true 6, .tmp 3, .tmp 4, .tmp 5, .tmp 6] := mF Tryz.call11 Tryz.func11 rfl rfl (by kernel_rfl) (by kernel_rfl)
def KL : List XI := [J 1 (.box (.t 0)), J 2 (.move kF)]
def Jv : List XI := [J 6 (.fieldAddr 0 (.t 1)), J 7 (.load false 1 (.t 6)), J 8 (.lenR (.t 7)), J 9 (.bin .gtr (.t 8) (kI 10)), J 10 (.move (.t 9)), Jf 11 10 (.fieldAddr 1 (.t 1)), Jf 12 10 (.load false 1 (.t 11)), Jf 13 10 (.lenR (.t 12)), Jf 14 10 (.bin .gtr (.t 13) (kI 10)), J 15 (.pick (.t 10) kT (.t 14))]
def Jb : List XI := [J 16 (.move (.t 15)), Jf 17 16 (.fieldAddr 2 (.t 1)), Jf 18 16 (.load false 1 (.t 17)), Jf 19 16 (.lenR (.t 18)), Jf 20 16 (.bin .gtr (.t 19) (kI 10)), J 21 (.pick (.t 16) kT (.t 20))]
def I6 : List XI := [J 22 (.move (.t 21)), Jf 23 22 (.fieldAddr 3 (.t 1)), Jf 24 22 (.load false 1 (.t 23)), Jf 25 22 (.lenR (.t 24)), Jf 26 22 (.bin .gtr (.t 25) (kI 10)), J 27 (.pick (.t 22) kT (.t 26))]
def F7 : List XI := [J 28 (.move (.t 27)), Jf 29 28 (.fieldAddr 4 (.t 1)), Jf 30 28 (.load false 1 (.t 29)), Jf 31 28 (.lenR (.t 30)), Jf 32 28 (.bin .gtr (.t 31) (kI 10)), J 33 (.pick (.t 28) kT (.t 32))]
def Lo : List XI := Jv ++ (Jb ++ (I6 ++ (F7)))
def Lr : List XI := [J 2 (.move kT)]
def Lb : List XI := [J 3 (.move (kI 0))]
def Ln : List XI := [J 34 (.move (.t 3)), J 35 (.fieldAddr 0 (.t 1)), J 36 (.load false 1 (.t 35)), J 37 (.lenR (.t 36)), J 38 (.bin .lss (.t 34) (.t 37))]
def Lq : List XI := [J 41 (.fieldAddr 0 (.t 1)), J 42 (.load false 1 (.t 41)), J 43 (.move (.t 3)), J 44 (.indexAddr 6 (.t 42) (.t 43)), J 45 (.fieldAddr 1 (.t 44)), J 46 (.load false 1 (.t 45)), J 47 (.lenR (.t 46)), J 48 (.bin .gtr (.t 47) (kI 12))]
def K6 : List XI := [J 2 (.move kT)]
def KR : List XI := [J 39 (.move (.t 3)), J 40 (.bin .add (.t 39) (kI 1)), J 3 (.move (.t 40))]
def KV : XC :=
 (.seq (sr Ln
 (.cond (.t 38)
 .skip
 (.exit 0)))
 (.seq (.block 1 (sr Lq
 (.cond (.t 48)
 (sr K6
 .ret)
 .skip)))
 (.region KR)))
def Lm : List XI := [J 4 (.move (kI 0))]
def JY : List XI := [J 49 (.move (.t 4)), J 50 (.fieldAddr 1 (.t 1)), J 51 (.load false 1 (.t 50)), J 52 (.lenR (.t 51)), J 53 (.bin .lss (.t 49) (.t 52))]
def Kj : List XI := [J 56 (.fieldAddr 1 (.t 1)), J 57 (.load false 1 (.t 56)), J 58 (.move (.t 4)), J 59 (.indexAddr 2 (.t 57) (.t 58)), J 60 (.fieldAddr 1 (.t 59)), J 61 (.load false 1 (.t 60)), J 62 (.lenR (.t 61)), J 63 (.bin .gtr (.t 62) (kI 12))]
def Ku : List XI := [J 2 (.move kT)]
def Kn : List XI := [J 54 (.move (.t 4)), J 55 (.bin .add (.t 54) (kI 1)), J 4 (.move (.t 55))]
def Kk : XC :=
 (.seq (sr JY
 (.cond (.t 53)
 .skip
 (.exit 2)))
 (.seq (.block 3 (sr Kj
 (.cond (.t 63)
 (sr Ku
 .ret)
 .skip)))
 (.region Kn)))
def J9 : List XI := [J 5 (.move (kI 0))]
def Kq : List XI := [J 64 (.move (.t 5)), J 65 (.fieldAddr 3 (.t 1)), J 66 (.load false 1 (.t 65)), J 67 (.lenR (.t 66)), J 68 (.bin .lss (.t 64) (.t 67))]
def Kz : List XI := [J 71 (.fieldAddr 3 (.t 1)), J 72 (.load false 1 (.t 71)), J 73 (.move (.t 5)), J 74 (.indexAddr 2 (.t 72) (.t 73)), J 75 (.fieldAddr 1 (.t 74)), J 76 (.load false 1 (.t 75)), J 77 (.lenR (.t 76)), J 78 (.bin .gtr (.t 77) (kI 12))]
def Ka : List XI := [J 2 (.move kT)]
def Km : List XI := [J 69 (.move (.t 5)), J 70 (.bin .add (.t 69) (kI 1)), J 5 (.move (.t 70))]
def Kf : XC :=
 (.seq (sr Kq
 (.cond (.t 68)
 .skip
 (.exit 4)))
 (.seq (.block 5 (sr Kz
 (.cond (.t 78)
 (sr Ka
 .ret)
 .skip)))
 (.region Km)))
def Ke : List XI := [J 2 (.move kF)]
def Qo : XC :=
 (sr KL
 (.seq (sr Lo
 (.cond (.t 33)
 (sr Lr
 .ret)
 .skip))
 (.seq (sr Lb
 (.block 0 (.loop KV)))
 (.seq (sr Lm
 (.block 2 (.loop Kk)))
 (.seq (sr J9
 (.block 4 (.loop Kf)))
 (sr Ke
 .ret))))))
theorem Ao2 : Fn PR I4 79 Qo [.tmp 2] := mF Tryz.call12 Tryz.func12 rfl rfl (by kernel_rfl) (by kernel_rfl)
def YA : List XI := [J 0 (.move kF)]
def XM : List XI := [J 10 (.build [(.d (.str ⟨#[]⟩)), (.d (.int .i64 0))] [(0, 1, (kS #[97])), (1, 1, (kI 1))]), J 11 (.buildSlice 2 [(.t 10)]), J 12 (.buildSlice 1 [(kI 0)]), J 13 (.build [(.ex []), (.d (.bool false))] [(0, 1, (.t 12)), (1, 1, kT)]), J 14 (.buildSlice 2 [(.t 13)]), J 15 (.build [(.d (.str ⟨#[]⟩)), (.ex []), (.ex []), (.d (.int .i64 0)), (.d (.int .i64 0)), (.d (.int .i64 0))] [(0, 1, (kS #[116])), (1, 1, (.t 11)), (2, 1, (.t 14)), (3, 1, (kI 5)), (4, 1, (kI 1))]), J 16 (.buildSlice 6 [(.t 15)]), J 17 (.build [(.ex []), (.ex []), (.ex []), (.ex []), (.ex [])] [(0, 1, (.t 16))]), J 1 (.alloc [(.ex []), (.ex []), (.ex []), (.ex []), (.ex [])]), { dst := none, op := .store 5 (.t 1) (.t 17) }]
def Xo : List XI := [J 19 (.call G1 [(kS #[112, 114, 111, 99, 32, 112, 40, 41, 32, 123, 32, 102, 111, 114, 32, 114, 32, 105, 110, 32, 116, 32, 123, 32, 114, 101, 112, 108, 121, 32, 114, 46, 97, 59, 32, 125, 32, 125])]), J 18 (.move (.t 19)), J 20 (.extract (.t 18) 0), J 21 (.extract (.t 18) 1), J 22 (.extract (.t 18) 2), J 2 (.alloc [(.d (.str ⟨#[]⟩)), (.d (.str ⟨#[]⟩)), (.d (.str ⟨#[]⟩)), (.d (.int .i64 0)), (.ex []), (.ex [])]), { dst := none, op := .store 6 (.t 2) (.t 20) }, J 3 (.move (.t 21)), J 4 (.move (.t 22))]
def Xx : List XI := [J 24 (.call G1 [(kS #[112, 114, 111, 99, 32, 112, 40, 41, 32, 123, 32, 102, 111, 114, 32, 114, 32, 105, 110, 32, 116, 32, 123, 32, 114, 101, 112, 108, 121, 32, 114, 46, 98, 59, 32, 125, 32, 125])]), J 23 (.move (.t 24)), J 25 (.extract (.t 23) 0), J 26 (.extract (.t 23) 1), J 27 (.extract (.t 23) 2), J 5 (.alloc [(.d (.str ⟨#[]⟩)), (.d (.str ⟨#[]⟩)), (.d (.str ⟨#[]⟩)), (.d (.int .i64 0)), (.ex []), (.ex [])]), { dst := none, op := .store 6 (.t 5) (.t 25) }, J 6 (.move (.t 26)), J 7 (.move (.t 27))]
def Xd : List XI := [J 29 (.load true 5 (.t 1)), J 30 (.load true 6 (.t 5)), J 31 (.call Jh [(.t 29), (.t 30)]), J 28 (.move (.t 31)), J 32 (.extract (.t 28) 0), J 33 (.extract (.t 28) 1), J 8 (.move (.t 32)), J 9 (.move (.t 33))]
def UW : List XI := [J 34 (.load true 5 (.t 1)), J 35 (.load true 6 (.t 2)), J 36 (.call IG [(.t 34), (.t 35)]), J 37 (.bin .eql (.t 36) (kI 0)), J 38 (.move (.t 37)), Jt 39 38 (.load true 5 (.t 1)), Jt 40 38 (.load true 6 (.t 5)), Jt 41 38 (.call IG [(.t 39), (.t 40)]), Jt 42 38 (.bin .eql (.t 41) (kI 13)), J 43 (.pick (.t 38) (.t 42) kF)]
def UD : List XI := [J 44 (.move (.t 43)), Jt 45 44 (.move (.t 9)), J 46 (.pick (.t 44) (.t 45) kF)]
def UB : List XI := [J 47 (.move (.t 46)), Jt 48 47 (.move (.t 8)), Jt 49 47 (.lenR (.t 48)), Jt 50 47 (.bin .eql (.t 49) (kI 2)), J 51 (.pick (.t 47) (.t 50) kF)]
def U2 : List XI := [J 52 (.move (.t 51)), Jt 53 52 (.move (.t 8)), Jt 54 52 (.indexAddr 1 (.t 53) (kI 0)), Jt 55 52 (.load false 1 (.t 54)), Jt 56 52 (.bin .eql (.t 55) (kI 0)), J 57 (.pick (.t 52) (.t 56) kF)]
def U4 : List XI := [J 58 (.move (.t 57)), Jt 59 58 (.move (.t 8)), Jt 60 58 (.indexAddr 1 (.t 59) (kI 1)), Jt 61 58 (.load false 1 (.t 60)), Jt 62 58 (.bin .eql (.t 61) (kI 0)), J 63 (.pick (.t 58) (.t 62) kF)]
def Ut : List XI := [J 0 (.move (.t 63))]
def Yw : List XI := UW ++ (UD ++ (UB ++ (U2 ++ (U4 ++ (Ut)))))
def Qw : XC :=
 (sr YA
 (sr XM
 (sr Xo
 (sr Xx
 (sr Xd
 (sr Yw
 .ret))))))
theorem An7 : Fn PR C7 64 Qw [.tmp 0] := mF Tryz.call13 Tryz.func13 rfl rfl (by kernel_rfl) (by kernel_rfl)
def VX : List XI := [J 2 (.box (.t 0)), J 3 (.box (.t 1)), J 4 (.move (.c (.ex []))), J 5 (.move kF)]
def WR : List XI := [J 6 (.load true 5 (.t 2)), J 7 (.load true 6 (.t 3)), J 8 (.call KX [(.t 6), (.t 7)]), J 9 (.bin .neq (.t 8) (kI 0))]
def Wd : List XI := [J 4 (.move (.c (.ex []))), J 5 (.move kF)]
def Wq : List XI := [J 10 (.load true 5 (.t 2)), J 11 (.load true 6 (.t 3)), J 12 (.call MI [(.t 10), (.t 11)]), J 13 (.fieldAddr 5 (.t 3)), J 14 (.load false 1 (.t 13)), { dst := some 15, op := .call DK [(.t 12), (.t 14), (kI 0)], nm := 1 }, J 16 (.extract (.t 15) 0), J 17 (.extract (.t 15) 1), J 4 (.move (.t 16)), J 5 (.move (.t 17))]
def UM : XC :=
 (sr VX
 (.seq (sr WR
 (.cond (.t 9)
 (sr Wd
 .ret)
 .skip))
 (.seq (.regionD Wq [[], [], [0, 1], [], [3], [2, 0, 1, 4, 3], [5, 2, 0, 1, 4, 3], [5, 2, 0, 1, 4, 3], [6, 5, 2, 0, 1, 4, 3, 7], [7, 5, 2, 0, 1, 4, 3, 8, 6]] 2)
 .ret)))
theorem Aq9 : Fn PR Jh 18 UM [.tmp 4, .tmp 5] := mF Tryz.call14 Tryz.func14 rfl rfl (by kernel_rfl) (by kernel_rfl)
def YZ : List XI := [J 2 (.box (.t 0)), J 3 (.box (.t 1)), J 4 (.move (kI 0))]
def Zb : List XI := [J 8 (.load true 5 (.t 2)), J 9 (.load true 6 (.t 3)), J 10 (.call KX [(.t 8), (.t 9)]), J 5 (.move (.t 10))]
def YY : List XI := [J 11 (.move (.t 5)), J 12 (.bin .neq (.t 11) (kI 0))]
def Y8 : List XI := [J 13 (.move (.t 5)), J 4 (.move (.t 13))]
def Y5 : List XI := [J 15 (.load true 5 (.t 2)), J 16 (.load true 6 (.t 3)), J 17 (.call MI [(.t 15), (.t 16)]), J 18 (.fieldAddr 5 (.t 3)), J 19 (.load false 1 (.t 18)), { dst := some 20, op := .call DK [(.t 17), (.t 19), (kI 0)], nm := 1 }, J 14 (.move (.t 20)), J 21 (.extract (.t 14) 0), J 22 (.extract (.t 14) 1), J 6 (.move (.t 21)), J 7 (.move (.t 22))]
def Ba1 : List XI := [J 23 (.move (.t 7)), J 24 (.move (.t 23)), Jf 25 24 (.load true 5 (.t 2)), Jf 26 24 (.load true 6 (.t 3)), Jf 27 24 (.call XP [(.t 25), (.t 26)]), Jf 28 24 (.not (.t 27)), J 29 (.pick (.t 24) kT (.t 28))]
def Bc6 : List XI := [J 4 (.move (kI 13))]
def Ba3 : List XI := [J 4 (.move (kI 0))]
def XD : XC :=
 (sr YZ
 (.seq (sr Zb
 (sr YY
 (.cond (.t 12)
 (sr Y8
 .ret)
 .skip)))
 (.seq (.seq (.regionD Y5 [[], [], [0, 1], [], [3], [2, 0, 1, 4, 3], [5, 2, 0, 1, 4, 3], [6, 5, 2, 0, 1, 4, 3], [6, 5, 2, 0, 1, 4, 3], [7, 6, 5, 2, 0, 1, 4, 3], [8, 6, 5, 2, 0, 1, 4, 3, 9, 7]] 2)
 (sr Ba1
 (.cond (.t 29)
 (sr Bc6
 .ret)
 .skip)))
 (sr Ba3
 .ret))))
theorem Au9 : Fn PR IG 30 XD [.tmp 4] := mF Tryz.call15 Tryz.func15 rfl rfl (by kernel_rfl) (by kernel_rfl)
def Zt : List XI := [J 2 (.alloc [(.d (.str ⟨#[]⟩)), (.d (.str ⟨#[]⟩)), (.d (.str ⟨#[]⟩)), (.d (.int .i64 0)), (.ex []), (.ex [])]), J 3 (.move (kI 0)), J 4 (.move (kI 0))]
def Zw : List XI := [J 11 (.move (.t 0)), J 12 (.call IU [(.t 11)]), J 10 (.move (.t 12)), J 13 (.extract (.t 10) 0), J 14 (.extract (.t 10) 1), J 5 (.move (.t 13)), J 6 (.move (.t 14))]
def Z9 : List XI := [J 15 (.move (.t 6)), J 16 (.bin .geq (.t 15) (kI 0))]
def ZZ : List XI := [J 17 (.build [(.d (.str ⟨#[]⟩)), (.d (.str ⟨#[]⟩)), (.d (.str ⟨#[]⟩)), (.d (.int .i64 0)), (.ex []), (.ex [])] []), J 18 (.move (.t 6)), { dst := none, op := .store 6 (.t 2) (.t 17) }, J 3 (.move (.t 18)), J 4 (.move (kI 12))]
def Z2 : List XI := [J 19 (.move (.t 5)), J 20 (.build [(.ex []), (.d (.int .i64 0)), (.d (.int .i64 0)), (.d (.bool false)), (.d (.bool false))] [(0, 1, (.t 19))]), J 21 (.box (.t 20)), J 7 (.move (.t 21))]
def ZD : List XI := [J 22 (.move (.t 7)), J 23 (.call Ga [(.t 22)]), J 8 (.alloc [(.d (.str ⟨#[]⟩)), (.d (.str ⟨#[]⟩)), (.d (.str ⟨#[]⟩)), (.d (.int .i64 0)), (.ex []), (.ex [])]), { dst := none, op := .store 6 (.t 8) (.t 23) }]
def Z8 : List XI := [J 24 (.move (.t 7)), J 25 (.move (.t 0)), J 26 (.lenS (.t 25)), J 27 (.call F0 [(.t 24), (.t 26)]), J 9 (.move (.t 27))]
def Aa5 : List XI := [J 28 (.move (.t 9)), J 29 (.bin .geq (.t 28) (kI 0))]
def ZI : List XI := [J 30 (.build [(.d (.str ⟨#[]⟩)), (.d (.str ⟨#[]⟩)), (.d (.str ⟨#[]⟩)), (.d (.int .i64 0)), (.ex []), (.ex [])] []), J 31 (.move (.t 9)), { dst := none, op := .store 6 (.t 2) (.t 30) }, J 3 (.move (.t 31)), J 4 (.move (kI 12))]
def Aa0 : List XI := [J 32 (.move (.t 9)), J 33 (.bin .eql (.t 32) (kI (-2))), J 34 (.move (.t 33)), Jf 35 34 (.load true 6 (.t 8)), Jf 36 34 (.call I1 [(.t 35)]), Jf 37 34 (.not (.t 36)), J 38 (.pick (.t 34) kT (.t 37))]
def Yc : List XI := [J 39 (.build [(.d (.str ⟨#[]⟩)), (.d (.str ⟨#[]⟩)), (.d (.str ⟨#[]⟩)), (.d (.int .i64 0)), (.ex []), (.ex [])] []), { dst := none, op := .store 6 (.t 2) (.t 39) }, J 3 (.move (kI 0)), J 4 (.move (kI 14))]
def Xf : List XI := [J 40 (.load true 6 (.t 8)), { dst := none, op := .store 6 (.t 2) (.t 40) }, J 3 (.move (kI 0)), J 4 (.move (kI 0))]
def Sv : XC :=
 (sr Zt
 (sr Zw
 (.seq (sr Z9
 (.cond (.t 16)
 (sr ZZ
 .ret)
 .skip))
 (sr Z2
 (sr ZD
 (sr Z8
 (.seq (sr Aa5
 (.cond (.t 29)
 (sr ZI
 .ret)
 .skip))
 (.seq (sr Aa0
 (.cond (.t 38)
 (sr Yc
 .ret)
 .skip))
 (sr Xf
 .ret)))))))))
theorem Ar5 : Fn PR G1 41 Sv [.cell 2 true 6, .tmp 3, .tmp 4] := mF Tryz.call16 Tryz.func16 rfl rfl (by kernel_rfl) (by kernel_rfl)
def AV3 : List XI := [J 1 (.box (.t 0)), J 2 (.move kF)]
def AX9 : List XI := [J 4 (.fieldAddr 5 (.t 1)), J 5 (.load false 1 (.t 4)), J 6 (.call FK [(.t 5), (kI 0), (.c (.fn FS [] []))]), J 3 (.alloc [(.d (.int .i64 0)), (.d (.int .i64 0))]), { dst := none, op := .store 2 (.t 3) (.t 6) }]
def Ar1 : List XI := [J 7 (.load true 6 (.t 1)), J 8 (.call AC7 [(.t 7)]), J 9 (.move (.t 8)), Jt 10 9 (.call My [(.t 3)]), J 11 (.pick (.t 9) (.t 10) kF)]
def Ao7 : List XI := [J 12 (.move (.t 11)), Jt 13 12 (.fieldAddr 5 (.t 1)), Jt 14 12 (.load false 1 (.t 13)), Jt 15 12 (.call Gw [(.t 14)]), J 16 (.pick (.t 12) (.t 15) kF)]
def UK : List XI := [J 2 (.move (.t 16))]
def AY1 : List XI := Ar1 ++ (Ao7 ++ (UK))
def Bl8 : XC :=
 (sr AV3
 (sr AX9
 (sr AY1
 .ret)))
theorem By7 : Fn PR AD9 17 Bl8 [.tmp 2] := mF Tryz.call33 Tryz.func33 rfl rfl (by kernel_rfl) (by kernel_rfl)
def AT8 : List XI := [J 4 (.move kF)]
def AU6 : List XI := [J 8 (.move (.t 0)), J 9 (.lenR (.t 8)), J 10 (.bin .gtr (.t 9) (kI 50)), J 11 (.move (.t 10)), Jf 12 11 (.move (.t 1)), Jf 13 11 (.lenR (.t 12)), Jf 14 11 (.bin .gtr (.t 13) (kI 50)), J 15 (.pick (.t 11) kT (.t 14))]
def AT2 : List XI := [J 4 (.move kT)]
def AW9 : List XI := [J 5 (.move (kI 0))]
def AR9 : List XI := [J 16 (.move (.t 5)), J 17 (.move (.t 0)), J 18 (.lenR (.t 17)), J 19 (.bin .lss (.t 16) (.t 18))]
def Ap8 : List XI := [J 22 (.move (.t 0)), J 23 (.move (.t 5)), J 24 (.indexAddr 6 (.t 22) (.t 23)), J 25 (.fieldAddr 2 (.t 24)), J 26 (.load false 1 (.t 25)), J 27 (.lenS (.t 26)), J 28 (.bin .gtr (.t 27) (kI 300)), J 29 (.move (.t 28)), Jf 30 29 (.move (.t 0)), Jf 31 29 (.move (.t 5)), Jf 32 29 (.indexAddr 6 (.t 30) (.t 31)), Jf 33 29 (.fieldAddr 3 (.t 32)), Jf 34 29 (.load false 1 (.t 33)), Jf 35 29 (.lenS (.t 34)), Jf 36 29 (.bin .gtr (.t 35) (kI 100)), J 37 (.pick (.t 29) kT (.t 36))]
def Aq0 : List XI := [J 38 (.move (.t 37)), Jf 39 38 (.move (.t 0)), Jf 40 38 (.move (.t 5)), Jf 41 38 (.indexAddr 6 (.t 39) (.t 40)), Jf 42 38 (.fieldAddr 4 (.t 41)), Jf 43 38 (.load false 1 (.t 42)), Jf 44 38 (.lenS (.t 43)), Jf 45 38 (.bin .gtr (.t 44) (kI 100)), J 46 (.pick (.t 38) kT (.t 45))]
def AT3 : List XI := Ap8 ++ (Aq0)
def Ae1 : List XI := [J 4 (.move kT)]
def AZ0 : List XI := [J 20 (.move (.t 5)), J 21 (.bin .add (.t 20) (kI 1)), J 5 (.move (.t 21))]
def AX2 : XC :=
 (.seq (sr AR9
 (.cond (.t 19)
 .skip
 (.exit 0)))
 (.seq (.block 1 (sr AT3
 (.cond (.t 46)
 (sr Ae1
 .ret)
 .skip)))
 (.region AZ0)))
def AU2 : List XI := [J 6 (.move (kI 0))]
def AF3 : List XI := [J 47 (.move (.t 6)), J 48 (.move (.t 1)), J 49 (.lenR (.t 48)), J 50 (.bin .lss (.t 47) (.t 49))]
def Ah4 : List XI := [J 53 (.move (.t 1)), J 54 (.move (.t 6)), J 55 (.indexAddr 8 (.t 53) (.t 54)), J 56 (.fieldAddr 1 (.t 55)), J 57 (.load false 1 (.t 56)), J 58 (.lenS (.t 57)), J 59 (.bin .gtr (.t 58) (kI 100)), J 60 (.move (.t 59)), Jf 61 60 (.move (.t 1)), Jf 62 60 (.move (.t 6)), Jf 63 60 (.indexAddr 8 (.t 61) (.t 62)), Jf 64 60 (.fieldAddr 2 (.t 63)), Jf 65 60 (.load false 1 (.t 64)), Jf 66 60 (.lenS (.t 65)), Jf 67 60 (.bin .gtr (.t 66) (kI 100)), J 68 (.pick (.t 60) kT (.t 67))]
def Ac2 : List XI := [J 69 (.move (.t 68)), Jf 70 69 (.move (.t 1)), Jf 71 69 (.move (.t 6)), Jf 72 69 (.indexAddr 8 (.t 70) (.t 71)), Jf 73 69 (.fieldAddr 4 (.t 72)), Jf 74 69 (.load false 1 (.t 73)), Jf 75 69 (.lenR (.t 74)), Jf 76 69 (.bin .gtr (.t 75) (kI 12)), J 77 (.pick (.t 69) kT (.t 76))]
def Ay5 : List XI := Ah4 ++ (Ac2)
def AB7 : List XI := [J 4 (.move kT)]
def Av8 : List XI := [J 7 (.move (kI 0))]
def AL6 : List XI := [J 78 (.move (.t 7)), J 79 (.move (.t 1)), J 80 (.move (.t 6)), J 81 (.indexAddr 8 (.t 79) (.t 80)), J 82 (.fieldAddr 4 (.t 81)), J 83 (.load false 1 (.t 82)), J 84 (.lenR (.t 83)), J 85 (.bin .lss (.t 78) (.t 84))]
def AB6 : List XI := [J 88 (.move (.t 1)), J 89 (.move (.t 6)), J 90 (.indexAddr 8 (.t 88) (.t 89)), J 91 (.fieldAddr 4 (.t 90)), J 92 (.load false 1 (.t 91)), J 93 (.move (.t 7)), J 94 (.indexAddr 1 (.t 92) (.t 93)), J 95 (.load false 1 (.t 94)), J 96 (.lenS (.t 95)), J 97 (.bin .gtr (.t 96) (kI 100))]
def Az2 : List XI := [J 4 (.move kT)]
def Aw6 : List XI := [J 86 (.move (.t 7)), J 87 (.bin .add (.t 86) (kI 1)), J 7 (.move (.t 87))]
def Ax4 : XC :=
 (.seq (sr AL6
 (.cond (.t 85)
 .skip
 (.exit 4)))
 (.seq (.block 5 (sr AB6
 (.cond (.t 97)
 (sr Az2
 .ret)
 .skip)))
 (.region Aw6)))
def AG7 : List XI := [J 51 (.move (.t 6)), J 52 (.bin .add (.t 51) (kI 1)), J 6 (.move (.t 52))]
def AC9 : XC :=
 (.seq (sr AF3
 (.cond (.t 50)
 .skip
 (.exit 2)))
 (.seq (.block 3 (.seq (sr Ay5
 (.cond (.t 77)
 (sr AB7
 .ret)
 .skip))
 (sr Av8
 (.block 4 (.loop Ax4)))))
 (.region AG7)))
def AC6 : List XI := [J 4 (.move kF)]
def BF8 : XC :=
 (sr AT8
 (.seq (sr AU6
 (.cond (.t 15)
 (sr AT2
 .ret)
 .skip))
 (.seq (sr AW9
 (.block 0 (.loop AX2)))
 (.seq (sr AU2
 (.block 2 (.loop AC9)))
 (sr AC6
 .ret)))))
theorem BV5 : Fn PR Be1 98 BF8 [.tmp 4] := mF Tryz.call39 Tryz.func39 rfl rfl (by kernel_rfl) (by kernel_rfl)
def AW3 : List XI := [J 4 (.alloc [(.ex []), (.ex []), (.ex []), (.ex []), (.ex []), (.ex [])])]
def AS0 : List XI := [J 23 (.build [(.ex []), (.ex []), (.ex []), (.ex []), (.ex []), (.ex [])] []), J 5 (.alloc [(.ex []), (.ex []), (.ex []), (.ex []), (.ex []), (.ex [])]), { dst := none, op := .store 6 (.t 5) (.t 23) }]
def AY7 : List XI := [J 6 (.move (kI 0))]
def AS5 : List XI := [J 24 (.move (.t 6)), J 25 (.move (.t 0)), J 26 (.lenR (.t 25)), J 27 (.bin .lss (.t 24) (.t 26)), J 28 (.move (.t 27)), Jt 29 28 (.move (.t 6)), Jt 30 28 (.bin .lss (.t 29) (kI 50)), J 31 (.pick (.t 28) (.t 30) kF)]
def AV5 : List XI := [J 34 (.move (.t 0)), J 35 (.move (.t 6)), J 36 (.indexAddr 6 (.t 34) (.t 35)), J 37 (.load true 6 (.t 36)), J 7 (.alloc [(.d (.int .i64 0)), (.d (.int .i64 0)), (.d (.str ⟨#[]⟩)), (.d (.str ⟨#[]⟩)), (.d (.str ⟨#[]⟩)), (.ex [])]), { dst := none, op := .store 6 (.t 7) (.t 37) }]
def AW4 : List XI := [J 38 (.fieldAddr 0 (.t 7)), J 39 (.load false 1 (.t 38)), J 40 (.fieldAddr 1 (.t 7)), J 41 (.load false 1 (.t 40)), J 42 (.fieldAddr 2 (.t 7)), J 43 (.load false 1 (.t 42)), J 44 (.fieldAddr 3 (.t 7)), J 45 (.load false 1 (.t 44)), J 46 (.fieldAddr 4 (.t 7)), J 47 (.load false 1 (.t 46)), J 48 (.build [(.d (.int .i64 0)), (.d (.int .i64 0)), (.d (.str ⟨#[]⟩)), (.d (.str ⟨#[]⟩)), (.d (.str ⟨#[]⟩)), (.ex [])] [(0, 1, (.t 39)), (1, 1, (.t 41)), (2, 1, (.t 43)), (3, 1, (.t 45)), (4, 1, (.t 47))]), J 8 (.alloc [(.d (.int .i64 0)), (.d (.int .i64 0)), (.d (.str ⟨#[]⟩)), (.d (.str ⟨#[]⟩)), (.d (.str ⟨#[]⟩)), (.ex [])]), { dst := none, op := .store 6 (.t 8) (.t 48) }]
def AZ2 : List XI := [J 9 (.move (kI 1)), J 10 (.move (kI 1))]
def AZ3 : List XI := [J 11 (.move (kI 0))]
def AR3 : List XI := [J 49 (.move (.t 11)), J 50 (.fieldAddr 5 (.t 7)), J 51 (.load false 1 (.t 50)), J 52 (.lenR (.t 51)), J 53 (.bin .lss (.t 49) (.t 52)), J 54 (.move (.t 53)), Jt 55 54 (.move (.t 11)), Jt 56 54 (.bin .lss (.t 55) (kI 4)), J 57 (.pick (.t 54) (.t 56) kF)]
def AU4 : List XI := [J 60 (.fieldAddr 5 (.t 7)), J 61 (.load false 1 (.t 60)), J 62 (.move (.t 11)), J 63 (.indexAddr 1 (.t 61) (.t 62)), J 64 (.load false 1 (.t 63)), J 65 (.move (.t 6)), J 66 (.call Am9 [(.t 64), (.t 65)]), J 12 (.move (.t 66))]
def AK7 : List XI := [J 67 (.move (.t 12)), J 68 (.bin .geq (.t 67) (kI 0))]
def Av5 : List XI := [J 69 (.fieldAddr 5 (.t 8)), J 70 (.load false 1 (.t 69)), J 71 (.fieldAddr 0 (.t 5)), J 72 (.load false 1 (.t 71)), J 73 (.move (.t 12)), J 74 (.indexAddr 6 (.t 72) (.t 73)), J 75 (.load true 6 (.t 74)), J 76 (.buildSlice 6 [(.t 75)]), J 77 (.append AO 6 88 (.t 70) (.t 76)), J 78 (.fieldAddr 5 (.t 8)), { dst := none, op := .store 1 (.t 78) (.t 77) }]
def AH8 : List XI := [J 79 (.move (.t 9)), J 80 (.fieldAddr 1 (.t 5)), J 81 (.load false 1 (.t 80)), J 82 (.move (.t 12)), J 83 (.indexAddr 1 (.t 81) (.t 82)), J 84 (.load false 1 (.t 83)), J 85 (.bin .add (.t 79) (.t 84)), J 9 (.move (.t 85))]
def AK0 : List XI := [J 86 (.move (.t 10)), J 87 (.fieldAddr 2 (.t 5)), J 88 (.load false 1 (.t 87)), J 89 (.move (.t 12)), J 90 (.indexAddr 1 (.t 88) (.t 89)), J 91 (.load false 1 (.t 90)), J 92 (.bin .add (.t 91) (kI 1)), J 93 (.minmax true (.t 86) [(.t 92)]), J 10 (.move (.t 93))]
def XZ : List XI := [J 58 (.move (.t 11)), J 59 (.bin .add (.t 58) (kI 1)), J 11 (.move (.t 59))]
def AG0 : XC :=
 (.seq (sr AR3
 (.cond (.t 57)
 .skip
 (.exit 2)))
 (.seq (.block 3 (sr AU4
 (sr AK7
 (.cond (.t 68)
 (.seq (.regionS Av5 1)
 (sr AH8
 (.region AK0)))
 .skip))))
 (.region XZ)))
def AG8 : List XI := [J 95 (.move (.t 9)), J 96 (.move (.t 10)), J 97 (.call Ax5 [(.t 95), (.t 96)]), J 94 (.move (.t 97)), J 98 (.extract (.t 94) 0), J 99 (.extract (.t 94) 1), J 9 (.move (.t 98)), J 10 (.move (.t 99))]
def AG1 : List XI := [J 100 (.fieldAddr 0 (.t 5)), J 101 (.load false 1 (.t 100)), J 102 (.load true 6 (.t 8)), J 103 (.buildSlice 6 [(.t 102)]), J 104 (.append AO 6 88 (.t 101) (.t 103)), J 105 (.fieldAddr 0 (.t 5)), { dst := none, op := .store 1 (.t 105) (.t 104) }]
def AL9 : List XI := [J 106 (.fieldAddr 1 (.t 5)), J 107 (.load false 1 (.t 106)), J 108 (.move (.t 9)), J 109 (.buildSlice 1 [(.t 108)]), J 110 (.append A7 1 8 (.t 107) (.t 109)), J 111 (.fieldAddr 1 (.t 5)), { dst := none, op := .store 1 (.t 111) (.t 110) }]
def AF5 : List XI := [J 112 (.fieldAddr 2 (.t 5)), J 113 (.load false 1 (.t 112)), J 114 (.move (.t 10)), J 115 (.buildSlice 1 [(.t 114)]), J 116 (.append A7 1 8 (.t 113) (.t 115)), J 117 (.fieldAddr 2 (.t 5)), { dst := none, op := .store 1 (.t 117) (.t 116) }]
def Av0 : List XI := [J 32 (.move (.t 6)), J 33 (.bin .add (.t 32) (kI 1)), J 6 (.move (.t 33))]
def AA9 : XC :=
 (.seq (sr AS5
 (.cond (.t 31)
 .skip
 (.exit 0)))
 (.seq (.block 1 (sr AV5
 (sr AW4
 (sr AZ2
 (.seq (sr AZ3
 (.block 2 (.loop AG0)))
 (sr AG8
 (sr AG1
 (sr AL9
 (.region AF5)))))))))
 (.region Av0)))
def AL5 : List XI := [J 13 (.move (kI 0))]
def Aw5 : List XI := [J 118 (.move (.t 13)), J 119 (.move (.t 1)), J 120 (.lenR (.t 119)), J 121 (.bin .lss (.t 118) (.t 120)), J 122 (.move (.t 121)), Jt 123 122 (.move (.t 13)), Jt 124 122 (.bin .lss (.t 123) (kI 50)), J 125 (.pick (.t 122) (.t 124) kF)]
def AM0 : List XI := [J 128 (.move (.t 1)), J 129 (.move (.t 13)), J 130 (.indexAddr 8 (.t 128) (.t 129)), J 131 (.load true 8 (.t 130)), J 14 (.alloc [(.d (.int .i64 0)), (.d (.str ⟨#[]⟩)), (.d (.str ⟨#[]⟩)), (.d (.int .i64 0)), (.ex []), (.ex []), (.ex []), (.ex [])]), { dst := none, op := .store 8 (.t 14) (.t 131) }]
def AF1 : List XI := [J 132 (.fieldAddr 0 (.t 14)), J 133 (.load false 1 (.t 132)), J 134 (.fieldAddr 1 (.t 14)), J 135 (.load false 1 (.t 134)), J 136 (.fieldAddr 2 (.t 14)), J 137 (.load false 1 (.t 136)), J 138 (.fieldAddr 3 (.t 14)), J 139 (.load false 1 (.t 138)), J 140 (.fieldAddr 4 (.t 14)), J 141 (.load false 1 (.t 140)), J 142 (.build [(.d (.int .i64 0)), (.d (.str ⟨#[]⟩)), (.d (.str ⟨#[]⟩)), (.d (.int .i64 0)), (.ex []), (.ex []), (.ex []), (.ex [])] [(0, 1, (.t 133)), (1, 1, (.t 135)), (2, 1, (.t 137)), (3, 1, (.t 139)), (4, 1, (.t 141))]), J 15 (.alloc [(.d (.int .i64 0)), (.d (.str ⟨#[]⟩)), (.d (.str ⟨#[]⟩)), (.d (.int .i64 0)), (.ex []), (.ex []), (.ex []), (.ex [])]), { dst := none, op := .store 8 (.t 15) (.t 142) }]
def AH0 : List XI := [J 16 (.move (kI 1)), J 17 (.move (kI 1))]
def AK8 : List XI := [J 18 (.move (kI 0))]
def Au4 : List XI := [J 143 (.move (.t 18)), J 144 (.fieldAddr 5 (.t 14)), J 145 (.load false 1 (.t 144)), J 146 (.lenR (.t 145)), J 147 (.bin .lss (.t 143) (.t 146)), J 148 (.move (.t 147)), Jt 149 148 (.move (.t 18)), Jt 150 148 (.bin .lss (.t 149) (kI 10)), J 151 (.pick (.t 148) (.t 150) kF)]
def AM6 : List XI := [J 154 (.fieldAddr 5 (.t 14)), J 155 (.load false 1 (.t 154)), J 156 (.move (.t 18)), J 157 (.indexAddr 1 (.t 155) (.t 156)), J 158 (.load false 1 (.t 157)), J 159 (.fieldAddr 0 (.t 5)), J 160 (.load false 1 (.t 159)), J 161 (.lenR (.t 160)), J 162 (.call Am9 [(.t 158), (.t 161)]), J 19 (.move (.t 162))]
def AM7 : List XI := [J 163 (.move (.t 19)), J 164 (.bin .geq (.t 163) (kI 0))]
def Ax8 : List XI := [J 165 (.fieldAddr 5 (.t 15)), J 166 (.load false 1 (.t 165)), J 167 (.fieldAddr 0 (.t 5)), J 168 (.load false 1 (.t 167)), J 169 (.move (.t 19)), J 170 (.indexAddr 6 (.t 168) (.t 169)), J 171 (.load true 6 (.t 170)), J 172 (.buildSlice 6 [(.t 171)]), J 173 (.append AO 6 88 (.t 166) (.t 172)), J 174 (.fieldAddr 5 (.t 15)), { dst := none, op := .store 1 (.t 174) (.t 173) }]
def AH3 : List XI := [J 175 (.move (.t 16)), J 176 (.fieldAddr 1 (.t 5)), J 177 (.load false 1 (.t 176)), J 178 (.move (.t 19)), J 179 (.indexAddr 1 (.t 177) (.t 178)), J 180 (.load false 1 (.t 179)), J 181 (.bin .add (.t 175) (.t 180)), J 16 (.move (.t 181))]
def AK5 : List XI := [J 182 (.move (.t 17)), J 183 (.fieldAddr 2 (.t 5)), J 184 (.load false 1 (.t 183)), J 185 (.move (.t 19)), J 186 (.indexAddr 1 (.t 184) (.t 185)), J 187 (.load false 1 (.t 186)), J 188 (.bin .add (.t 187) (kI 1)), J 189 (.minmax true (.t 182) [(.t 188)]), J 17 (.move (.t 189))]
def Ys : List XI := [J 152 (.move (.t 18)), J 153 (.bin .add (.t 152) (kI 1)), J 18 (.move (.t 153))]
def AC2 : XC :=
 (.seq (sr Au4
 (.cond (.t 151)
 .skip
 (.exit 6)))
 (.seq (.block 7 (.seq (.regionS AM6 1)
 (sr AM7
 (.cond (.t 164)
 (.seq (.regionS Ax8 1)
 (sr AH3
 (.region AK5)))
 .skip))))
 (.region Ys)))
def AI6 : List XI := [J 20 (.move (kI 0))]
def AB5 : List XI := [J 190 (.move (.t 20)), J 191 (.fieldAddr 6 (.t 14)), J 192 (.load false 1 (.t 191)), J 193 (.lenR (.t 192)), J 194 (.fieldAddr 7 (.t 14)), J 195 (.load false 1 (.t 194)), J 196 (.lenR (.t 195)), J 197 (.bin .add (.t 193) (.t 196)), J 198 (.bin .lss (.t 190) (.t 197)), J 199 (.move (.t 198)), Jt 200 199 (.move (.t 20)), Jt 201 199 (.bin .lss (.t 200) (kI 10)), J 202 (.pick (.t 199) (.t 201) kF)]
def AE6 : List XI := [J 205 (.move (.t 20)), J 206 (.fieldAddr 6 (.t 14)), J 207 (.load false 1 (.t 206)), J 208 (.lenR (.t 207)), J 209 (.bin .lss (.t 205) (.t 208)), J 21 (.move (.t 209))]
def AI5 : List XI := [J 22 (.move (kI (-1)))]
def AA8 : List XI := [J 210 (.move (.t 21))]
def AA7 : List XI := [J 211 (.fieldAddr 6 (.t 14)), J 212 (.load false 1 (.t 211)), J 213 (.move (.t 20)), J 214 (.indexAddr 1 (.t 212) (.t 213)), J 215 (.load false 1 (.t 214)), J 216 (.move (.t 13)), J 217 (.call Am9 [(.t 215), (.t 216)]), J 22 (.move (.t 217))]
def Av6 : List XI := [J 218 (.fieldAddr 7 (.t 14)), J 219 (.load false 1 (.t 218)), J 220 (.move (.t 20)), J 221 (.fieldAddr 6 (.t 14)), J 222 (.load false 1 (.t 221)), J 223 (.lenR (.t 222)), J 224 (.bin .sub (.t 220) (.t 223)), J 225 (.indexAddr 1 (.t 219) (.t 224)), J 226 (.load false 1 (.t 225)), J 227 (.move (.t 13)), J 228 (.call Am9 [(.t 226), (.t 227)]), J 22 (.move (.t 228))]
def Aw4 : List XI := [J 229 (.move (.t 22)), J 230 (.bin .lss (.t 229) (kI 0))]
def AM9 : List XI := [J 231 (.move (.t 16)), J 232 (.fieldAddr 4 (.t 5)), J 233 (.load false 1 (.t 232)), J 234 (.move (.t 22)), J 235 (.indexAddr 1 (.t 233) (.t 234)), J 236 (.load false 1 (.t 235)), J 237 (.bin .add (.t 231) (.t 236)), J 16 (.move (.t 237))]
def AH1 : List XI := [J 238 (.move (.t 17)), J 239 (.fieldAddr 5 (.t 5)), J 240 (.load false 1 (.t 239)), J 241 (.move (.t 22)), J 242 (.indexAddr 1 (.t 240) (.t 241)), J 243 (.load false 1 (.t 242)), J 244 (.bin .add (.t 243) (kI 1)), J 245 (.minmax true (.t 238) [(.t 244)]), J 17 (.move (.t 245))]
def AJ6 : List XI := [J 246 (.move (.t 21))]
def AG6 : List XI := [J 247 (.fieldAddr 6 (.t 15)), J 248 (.load false 1 (.t 247)), J 249 (.fieldAddr 3 (.t 5)), J 250 (.load false 1 (.t 249)), J 251 (.move (.t 22)), J 252 (.indexAddr 8 (.t 250) (.t 251)), J 253 (.load true 8 (.t 252)), J 254 (.buildSlice 8 [(.t 253)]), J 255 (.append AZ 8 144 (.t 248) (.t 254)), J 256 (.fieldAddr 6 (.t 15)), { dst := none, op := .store 1 (.t 256) (.t 255) }]
def Av3 : List XI := [J 257 (.fieldAddr 7 (.t 15)), J 258 (.load false 1 (.t 257)), J 259 (.fieldAddr 3 (.t 5)), J 260 (.load false 1 (.t 259)), J 261 (.move (.t 22)), J 262 (.indexAddr 8 (.t 260) (.t 261)), J 263 (.load true 8 (.t 262)), J 264 (.buildSlice 8 [(.t 263)]), J 265 (.append AZ 8 144 (.t 258) (.t 264)), J 266 (.fieldAddr 7 (.t 15)), { dst := none, op := .store 1 (.t 266) (.t 265) }]
def RV : List XI := [J 203 (.move (.t 20)), J 204 (.bin .add (.t 203) (kI 1)), J 20 (.move (.t 204))]
def AM2 : XC :=
 (.seq (sr AB5
 (.cond (.t 202)
 .skip
 (.exit 8)))
 (.seq (.block 9 (sr AE6
 (sr AI5
 (.seq (sr AA8
 (.cond (.t 210)
 (.region AA7)
 (.region Av6)))
 (.seq (sr Aw4
 (.cond (.t 230)
 (.exit 9)
 .skip))
 (sr AM9
 (sr AH1
 (sr AJ6
 (.cond (.t 246)
 (.regionS AG6 1)
 (.regionS Av3 1))))))))))
 (.region RV)))
def AB8 : List XI := [J 268 (.move (.t 16)), J 269 (.move (.t 17)), J 270 (.call Ax5 [(.t 268), (.t 269)]), J 267 (.move (.t 270)), J 271 (.extract (.t 267) 0), J 272 (.extract (.t 267) 1), J 16 (.move (.t 271)), J 17 (.move (.t 272))]
def AJ3 : List XI := [J 273 (.fieldAddr 3 (.t 5)), J 274 (.load false 1 (.t 273)), J 275 (.load true 8 (.t 15)), J 276 (.buildSlice 8 [(.t 275)]), J 277 (.append AZ 8 144 (.t 274) (.t 276)), J 278 (.fieldAddr 3 (.t 5)), { dst := none, op := .store 1 (.t 278) (.t 277) }]
def AG2 : List XI := [J 279 (.fieldAddr 4 (.t 5)), J 280 (.load false 1 (.t 279)), J 281 (.move (.t 16)), J 282 (.buildSlice 1 [(.t 281)]), J 283 (.append A7 1 8 (.t 280) (.t 282)), J 284 (.fieldAddr 4 (.t 5)), { dst := none, op := .store 1 (.t 284) (.t 283) }]
def AI4 : List XI := [J 285 (.fieldAddr 5 (.t 5)), J 286 (.load false 1 (.t 285)), J 287 (.move (.t 17)), J 288 (.buildSlice 1 [(.t 287)]), J 289 (.append A7 1 8 (.t 286) (.t 288)), J 290 (.fieldAddr 5 (.t 5)), { dst := none, op := .store 1 (.t 290) (.t 289) }]
def AC0 : List XI := [J 126 (.move (.t 13)), J 127 (.bin .add (.t 126) (kI 1)), J 13 (.move (.t 127))]
def AH6 : XC :=
 (.seq (sr Aw5
 (.cond (.t 125)
 .skip
 (.exit 4)))
 (.seq (.block 5 (sr AM0
 (sr AF1
 (sr AH0
 (.seq (sr AK8
 (.block 6 (.loop AC2)))
 (.seq (sr AI6
 (.block 8 (.loop AM2)))
 (sr AB8
 (sr AJ3
 (sr AG2
 (.region AI4))))))))))
 (.region AC0)))
def AK2 : List XI := [J 291 (.load true 6 (.t 5)), { dst := none, op := .store 6 (.t 4) (.t 291) }]
def BA5 : XC :=
 (sr AW3
 (sr AS0
 (.seq (sr AY7
 (.block 0 (.loop AA9)))
 (.seq (sr AL5
 (.block 4 (.loop AH6)))
 (sr AK2
 .ret)))))
theorem BZ2 : Fn PR Bf7 292 BA5 [.cell 4 true 6] := mF Tryz.call40 Tryz.func40 rfl rfl (by kernel_rfl) (by kernel_rfl)
def Bg7 : List XI := [J 4 (.move (kI 0)), J 5 (.move (kI 0))]
def Bj9 : List XI := [J 6 (.move (.t 0)), J 7 (.bin .geq (.t 6) (kI 1000)), J 8 (.move (.t 7)), Jf 9 8 (.move (.t 1)), Jf 10 8 (.bin .geq (.t 9) (kI 1000)), J 11 (.pick (.t 8) kT (.t 10))]
def Bj5 : List XI := [J 4 (.move (kI 1000)), J 5 (.move (kI 1000))]
def Bm3 : List XI := [J 12 (.move (.t 0)), J 13 (.move (.t 1)), J 4 (.move (.t 12)), J 5 (.move (.t 13))]
def BP9 : XC :=
 (sr Bg7
 (.seq (sr Bj9
 (.cond (.t 11)
 (sr Bj5
 .ret)
 .skip))
 (sr Bm3
 .ret)))
theorem Cd2 : Fn PR Ax5 14 BP9 [.tmp 4, .tmp 5] := mF Tryz.call41 Tryz.func41 rfl rfl (by kernel_rfl) (by kernel_rfl)
def AZ4 : List XI := [J 1 (.box (.t 0)), J 2 (.move kF)]
def AX0 : List XI := [J 6 (.fieldAddr 2 (.t 1)), J 7 (.load false 1 (.t 6)), J 8 (.bin .eql (.t 7) (kS #[])), J 3 (.move (.t 8))]
def AU0 : List XI := [J 4 (.move (kI 0))]
def AT5 : List XI := [J 9 (.move (.t 4)), J 10 (.fieldAddr 4 (.t 1)), J 11 (.load false 1 (.t 10)), J 12 (.lenR (.t 11)), J 13 (.bin .lss (.t 9) (.t 12))]
def Ao8 : List XI := [J 16 (.fieldAddr 4 (.t 1)), J 17 (.load false 1 (.t 16)), J 18 (.move (.t 4)), J 19 (.indexAddr 2 (.t 17) (.t 18)), J 20 (.fieldAddr 0 (.t 19)), J 21 (.load false 1 (.t 20)), J 22 (.call JJ [(.t 21)]), J 23 (.not (.t 22)), J 24 (.move (.t 23)), Jf 25 24 (.fieldAddr 4 (.t 1)), Jf 26 24 (.load false 1 (.t 25)), Jf 27 24 (.move (.t 4)), Jf 28 24 (.indexAddr 2 (.t 26) (.t 27)), Jf 29 24 (.fieldAddr 1 (.t 28)), Jf 30 24 (.load false 1 (.t 29)), Jf 31 24 (.bin .lss (.t 30) (kI 1)), J 32 (.pick (.t 24) kT (.t 31))]
def Aq2 : List XI := [J 33 (.move (.t 32)), Jf 34 33 (.fieldAddr 4 (.t 1)), Jf 35 33 (.load false 1 (.t 34)), Jf 36 33 (.move (.t 4)), Jf 37 33 (.indexAddr 2 (.t 35) (.t 36)), Jf 38 33 (.fieldAddr 1 (.t 37)), Jf 39 33 (.load false 1 (.t 38)), Jf 40 33 (.bin .gtr (.t 39) (kI 3)), J 41 (.pick (.t 33) kT (.t 40))]
def AT9 : List XI := Ao8 ++ (Aq2)
def AX8 : List XI := [J 2 (.move kF)]
def Aq7 : List XI := [J 42 (.move (.t 3)), J 43 (.move (.t 42)), Jf 44 43 (.fieldAddr 2 (.t 1)), Jf 45 43 (.load false 1 (.t 44)), Jf 46 43 (.fieldAddr 4 (.t 1)), Jf 47 43 (.load false 1 (.t 46)), Jf 48 43 (.move (.t 4)), Jf 49 43 (.indexAddr 2 (.t 47) (.t 48)), Jf 50 43 (.fieldAddr 0 (.t 49)), Jf 51 43 (.load false 1 (.t 50)), Jf 52 43 (.bin .eql (.t 45) (.t 51)), J 53 (.pick (.t 43) kT (.t 52))]
def U0 : List XI := [J 3 (.move (.t 53))]
def AW1 : List XI := Aq7 ++ (U0)
def AY3 : List XI := [J 5 (.move (kI 0))]
def AX1 : List XI := [J 54 (.move (.t 5)), J 55 (.move (.t 4)), J 56 (.bin .lss (.t 54) (.t 55))]
def AS3 : List XI := [J 59 (.fieldAddr 4 (.t 1)), J 60 (.load false 1 (.t 59)), J 61 (.move (.t 5)), J 62 (.indexAddr 2 (.t 60) (.t 61)), J 63 (.fieldAddr 0 (.t 62)), J 64 (.load false 1 (.t 63)), J 65 (.fieldAddr 4 (.t 1)), J 66 (.load false 1 (.t 65)), J 67 (.move (.t 4)), J 68 (.indexAddr 2 (.t 66) (.t 67)), J 69 (.fieldAddr 0 (.t 68)), J 70 (.load false 1 (.t 69)), J 71 (.bin .eql (.t 64) (.t 70))]
def AD6 : List XI := [J 2 (.move kF)]
def AN3 : List XI := [J 57 (.move (.t 5)), J 58 (.bin .add (.t 57) (kI 1)), J 5 (.move (.t 58))]
def AA3 : XC :=
 (.seq (sr AX1
 (.cond (.t 56)
 .skip
 (.exit 2)))
 (.seq (.block 3 (.seq (.regionS AS3 0)
 (.cond (.t 71)
 (sr AD6
 .ret)
 .skip)))
 (.region AN3)))
def AC4 : List XI := [J 14 (.move (.t 4)), J 15 (.bin .add (.t 14) (kI 1)), J 4 (.move (.t 15))]
def Ay9 : XC :=
 (.seq (sr AT5
 (.cond (.t 13)
 .skip
 (.exit 0)))
 (.seq (.block 1 (.seq (sr AT9
 (.cond (.t 41)
 (sr AX8
 .ret)
 .skip))
 (.seq (.regionS AW1 0)
 (sr AY3
 (.block 2 (.loop AA3))))))
 (.region AC4)))
def Ay2 : List XI := [J 72 (.fieldAddr 1 (.t 1)), J 73 (.load false 1 (.t 72)), J 74 (.bin .neq (.t 73) (kS #[])), J 75 (.move (.t 74)), Jt 76 75 (.fieldAddr 1 (.t 1)), Jt 77 75 (.load false 1 (.t 76)), Jt 78 75 (.call JJ [(.t 77)]), Jt 79 75 (.not (.t 78)), Jt 80 75 (.move (.t 79)), Jf 81 80 (.fieldAddr 4 (.t 1)), Jf 82 80 (.load false 1 (.t 81)), Jf 83 80 (.lenR (.t 82)), Jf 84 80 (.bin .gtr (.t 83) (kI 0)), Jt 85 75 (.pick (.t 80) kT (.t 84)), J 86 (.pick (.t 75) (.t 85) kF)]
def Xk : List XI := [J 2 (.move kF)]
def Ak1 : List XI := [J 87 (.fieldAddr 0 (.t 1)), J 88 (.load false 1 (.t 87)), J 89 (.call JJ [(.t 88)]), J 90 (.move (.t 89)), Jt 91 90 (.fieldAddr 4 (.t 1)), Jt 92 90 (.load false 1 (.t 91)), Jt 93 90 (.lenR (.t 92)), Jt 94 90 (.bin .leq (.t 93) (kI 8)), J 95 (.pick (.t 90) (.t 94) kF)]
def Af8 : List XI := [J 96 (.move (.t 95)), Jt 97 96 (.move (.t 3)), J 98 (.pick (.t 96) (.t 97) kF)]
def Al2 : List XI := [J 99 (.move (.t 98)), Jt 100 99 (.fieldAddr 3 (.t 1)), Jt 101 99 (.load false 1 (.t 100)), Jt 102 99 (.bin .geq (.t 101) (kI 1)), J 103 (.pick (.t 99) (.t 102) kF)]
def Sq : List XI := [J 104 (.move (.t 103)), Jt 105 104 (.fieldAddr 3 (.t 1)), Jt 106 104 (.load false 1 (.t 105)), Jt 107 104 (.bin .leq (.t 106) (kI 2000)), J 108 (.pick (.t 104) (.t 107) kF)]
def K5 : List XI := [J 2 (.move (.t 108))]
def AE0 : List XI := Ak1 ++ (Af8 ++ (Al2 ++ (Sq ++ (K5))))
def Bk1 : XC :=
 (sr AZ4
 (sr AX0
 (.seq (sr AU0
 (.block 0 (.loop Ay9)))
 (.seq (sr Ay2
 (.cond (.t 86)
 (sr Xk
 .ret)
 .skip))
 (sr AE0
 .ret)))))
theorem By1 : Fn PR Ad4 109 Bk1 [.tmp 2] := mF Tryz.call42 Tryz.func42 rfl rfl (by kernel_rfl) (by kernel_rfl)
def AF6 : List XI := [J 2 (.move kF)]
def Az1 : List XI := [J 3 (.move (kI 0))]
def AK6 : List XI := [J 4 (.move (.t 3)), J 5 (.move (.t 0)), J 6 (.lenR (.t 5)), J 7 (.bin .lss (.t 4) (.t 6))]
def AL3 : List XI := [J 10 (.move (.t 0)), J 11 (.move (.t 3)), J 12 (.indexAddr 8 (.t 10) (.t 11)), J 13 (.load true 8 (.t 12)), J 14 (.call Te [(.t 13)]), J 15 (.not (.t 14))]
def AM4 : List XI := [J 2 (.move kF)]
def AJ2 : List XI := [J 8 (.move (.t 3)), J 9 (.bin .add (.t 8) (kI 1)), J 3 (.move (.t 9))]
def AA0 : XC :=
 (.seq (sr AK6
 (.cond (.t 7)
 .skip
 (.exit 0)))
 (.seq (.block 1 (sr AL3
 (.cond (.t 15)
 (sr AM4
 .ret)
 .skip)))
 (.region AJ2)))
def Au8 : List XI := [J 2 (.move kT)]
def AQ6 : XC :=
 (sr AF6
 (.seq (sr Az1
 (.block 0 (.loop AA0)))
 (sr Au8
 .ret)))
theorem Bs8 : Fn PR Gx 16 AQ6 [.tmp 2] := mF Tryz.call43 Tryz.func43 rfl rfl (by kernel_rfl) (by kernel_rfl)
def Zc : List XI := [J 2 (.box (.t 0)), J 3 (.box (.t 1)), J 4 (.move (kI 0))]
def Y1 : List XI := [J 7 (.load true 6 (.t 3)), J 8 (.call AD9 [(.t 7)]), J 9 (.not (.t 8))]
def YL : List XI := [J 4 (.move (kI 1))]
def Y0 : List XI := [J 11 (.fieldAddr 1 (.t 2)), J 12 (.load false 1 (.t 11)), J 13 (.fieldAddr 1 (.t 3)), J 14 (.load false 1 (.t 13)), J 15 (.call H9 [(.t 12), (.t 14)]), J 10 (.move (.t 15)), J 16 (.extract (.t 10) 0), J 17 (.extract (.t 10) 1), J 5 (.move (.t 16)), J 6 (.move (.t 17))]
def Bc5 : List XI := [J 18 (.move (.t 6)), J 19 (.not (.t 18)), J 20 (.move (.t 19)), Jt 21 20 (.fieldAddr 1 (.t 3)), Jt 22 20 (.load false 1 (.t 21)), Jt 23 20 (.bin .neq (.t 22) (kS #[])), J 24 (.pick (.t 20) (.t 23) kF)]
def Bc2 : List XI := [J 4 (.move (kI 8))]
def Bb7 : List XI := [J 4 (.move (kI 0))]
def Yt : XC :=
 (sr Zc
 (.seq (sr Y1
 (.cond (.t 9)
 (sr YL
 .ret)
 .skip))
 (.seq (sr Y0
 (sr Bc5
 (.cond (.t 24)
 (sr Bc2
 .ret)
 .skip)))
 (sr Bb7
 .ret))))
theorem AM5 : Fn PR KX 25 Yt [.tmp 4] := mF Tryz.call44 Tryz.func44 rfl rfl (by kernel_rfl) (by kernel_rfl)
def AQ9 : List XI := [J 2 (.box (.t 0)), J 3 (.box (.t 1)), J 4 (.move (.c .nilp))]
def AR0 : List XI := [J 8 (.load true 5 (.t 2)), J 9 (.load true 6 (.t 3)), J 10 (.build [(.ex []), (.ex []), (.ex []), (.ex []), (.ex []), (.d (.str ⟨#[]⟩)), (.d (.str ⟨#[]⟩)), (.d (.str ⟨#[]⟩)), (.d (.int .i64 0)), (.ex []), (.ex []), (.ex [])] [(0, 5, (.t 8)), (5, 6, (.t 9))]), J 11 (.box (.t 10)), J 5 (.move (.t 11))]
def AQ5 : List XI := [J 12 (.fieldAddr 4 (.t 3)), J 13 (.load false 1 (.t 12)), J 14 (.lenR (.t 13)), J 15 (.move (kI 0))]
def AQ7 : List XI := [J 16 (.bin .lss (.t 15) (.t 14))]
def AO8 : List XI := [J 17 (.indexAddr 2 (.t 13) (.t 15)), J 18 (.load true 2 (.t 17)), J 7 (.alloc [(.d (.str ⟨#[]⟩)), (.d (.int .i64 0))]), { dst := none, op := .store 2 (.t 7) (.t 18) }]
def AN8 : List XI := [J 19 (.move (.t 5)), J 20 (.move (.t 5)), J 21 (.nilCheck (.t 20)), J 22 (.fieldAddr 11 (.t 21)), J 23 (.load false 1 (.t 22)), J 24 (.fieldAddr 1 (.t 7)), J 25 (.load false 1 (.t 24)), J 26 (.build [(.d (.int .i64 0)), (.ex [])] [(0, 1, (.t 25))]), J 27 (.fieldAddr 0 (.t 7)), J 28 (.load false 1 (.t 27)), J 29 (.build [(.d (.int .i64 0)), (.ex []), (.d (.str ⟨#[]⟩)), (.d (.bool false))] [(0, 2, (.t 26)), (2, 1, (.t 28)), (3, 1, kF)]), J 30 (.buildSlice 4 [(.t 29)]), J 31 (.append K3 4 56 (.t 23) (.t 30)), J 32 (.nilCheck (.t 19)), J 33 (.fieldAddr 11 (.t 32)), { dst := none, op := .store 1 (.t 33) (.t 31) }]
def AQ2 : List XI := [J 34 (.bin .add (.t 15) (kI 1)), J 15 (.move (.t 34))]
def AO7 : XC :=
 (sr AQ7
 (.seq (.cond (.t 16)
 .skip
 (.exit 0))
 (.seq (.block 1 (sr AO8
 (.regionS AN8 1)))
 (.region AQ2))))
def AR2 : List XI := [J 35 (.move (.t 5)), J 4 (.move (.t 35))]
def Ao6 : XC :=
 (sr AQ9
 (sr AR0
 (.seq (sr AQ5
 (.block 0 (.loop AO7)))
 (sr AR2
 .ret))))
theorem Bp2 : Fn PR MI 36 Ao6 [.tmp 4] := mF Tryz.call45 Tryz.func45 rfl rfl (by kernel_rfl) (by kernel_rfl)
def Xa : List XI := [J 6 (.move (.c (.ex []))), J 7 (.move kF)]
def XN : List XI := [J 15 (.move (.t 1)), J 16 (.lenR (.t 15)), J 17 (.move (kI 0))]
def Xs : List XI := [J 18 (.bin .lss (.t 17) (.t 16))]
def YG : List XI := [J 19 (.move (.t 17)), J 20 (.indexAddr 8 (.t 15) (.t 17)), J 21 (.load true 8 (.t 20)), J 9 (.alloc [(.d (.int .i64 0)), (.d (.str ⟨#[]⟩)), (.d (.str ⟨#[]⟩)), (.d (.int .i64 0)), (.ex []), (.ex []), (.ex []), (.ex [])]), J 8 (.move (.t 19)), { dst := none, op := .store 8 (.t 9) (.t 21) }]
def X7 : List XI := [J 23 (.move (.t 0)), J 24 (.load true 8 (.t 9)), J 25 (.call KM [(.t 23), (.t 24)]), J 22 (.move (.t 25)), J 26 (.extract (.t 22) 0), J 27 (.extract (.t 22) 1), J 28 (.extract (.t 22) 2), J 10 (.move (.t 26)), J 11 (.move (.t 27)), J 12 (.move (.t 28))]
def X8 : List XI := [J 29 (.move (.t 12)), J 30 (.not (.t 29))]
def XW : List XI := [J 31 (.move (.t 2)), J 32 (.move (.t 8)), J 33 (.bin .add (.t 31) (.t 32)), J 34 (.buildSlice 1 [(.t 33)]), J 6 (.move (.t 34)), J 7 (.move kT)]
def Yh : List XI := [J 36 (.move (.t 11)), J 37 (.fieldAddr 6 (.t 9)), J 38 (.load false 1 (.t 37)), J 39 (.call DK [(.t 36), (.t 38), (kI 0)]), J 35 (.move (.t 39)), J 40 (.extract (.t 35) 0), J 41 (.extract (.t 35) 1), J 13 (.move (.t 40)), J 14 (.move (.t 41))]
def X9 : List XI := [J 42 (.move (.t 14)), J 43 (.not (.t 42))]
def Yr : List XI := [J 45 (.move (.t 11)), J 46 (.fieldAddr 7 (.t 9)), J 47 (.load false 1 (.t 46)), J 48 (.fieldAddr 6 (.t 9)), J 49 (.load false 1 (.t 48)), J 50 (.lenR (.t 49)), J 51 (.call DK [(.t 45), (.t 47), (.t 50)]), J 44 (.move (.t 51)), J 52 (.extract (.t 44) 0), J 53 (.extract (.t 44) 1), J 13 (.move (.t 52)), J 14 (.move (.t 53))]
def VD : List XI := [J 54 (.move (.t 14))]
def WS : List XI := [J 55 (.move (.t 2)), J 56 (.move (.t 8)), J 57 (.bin .add (.t 55) (.t 56)), J 58 (.buildSlice 1 [(.t 57)]), J 59 (.move (.t 13)), J 60 (.append A7 1 8 (.t 58) (.t 59)), J 6 (.move (.t 60)), J 7 (.move kT)]
def VK : List XI := [J 61 (.move (.t 10)), J 0 (.move (.t 61))]
def Va : List XI := [J 62 (.bin .add (.t 17) (kI 1)), J 17 (.move (.t 62))]
def W5 : XC :=
 (sr Xs
 (.seq (.cond (.t 18)
 .skip
 (.exit 0))
 (.seq (.block 1 (sr YG
 (sr X7
 (.seq (sr X8
 (.cond (.t 30)
 (sr XW
 .ret)
 .skip))
 (sr Yh
 (.seq (sr X9
 (.cond (.t 43)
 (.region Yr)
 .skip))
 (.seq (sr VD
 (.cond (.t 54)
 (sr WS
 .ret)
 .skip))
 (.region VK))))))))
 (.region Va))))
def V6 : List XI := [J 6 (.move (.c (.ex []))), J 7 (.move kF)]
def Qu : XC :=
 (sr Xa
 (.seq (sr XN
 (.block 0 (.loop W5)))
 (sr V6
 .ret)))
theorem An5 : Fn PR DK 63 Qu [.tmp 6, .tmp 7] := mF Tryz.call46 Tryz.func46 rfl rfl (by kernel_rfl) (by kernel_rfl)
def Bb1 : List XI := [J 2 (.box (.t 0)), J 3 (.box (.t 1)), J 4 (.move kF)]
def Bb3 : List XI := [J 11 (.fieldAddr 2 (.t 3)), J 12 (.load false 1 (.t 11)), J 13 (.bin .eql (.t 12) (kS #[]))]
def Ba6 : List XI := [J 4 (.move kT)]
def Bc1 : List XI := [J 15 (.fieldAddr 4 (.t 3)), J 16 (.load false 1 (.t 15)), J 17 (.fieldAddr 2 (.t 3)), J 18 (.load false 1 (.t 17)), J 19 (.call Uw [(.t 16), (.t 18), (.c (.fn Bi8 [] []))]), J 14 (.move (.t 19)), J 20 (.extract (.t 14) 0), J 21 (.extract (.t 14) 1), J 5 (.alloc [(.d (.str ⟨#[]⟩)), (.d (.int .i64 0))]), { dst := none, op := .store 2 (.t 5) (.t 20) }, J 6 (.move (.t 21))]
def AZ7 : List XI := [J 22 (.load true 6 (.t 3)), J 23 (.call BX7 [(.t 22)]), J 24 (.load true 6 (.t 3)), { dst := some 25, op := .call BQ7 [(.t 24)], nm := 1 }, { dst := some 26, op := .append Gy 1 16 (.t 23) (.t 25), nm := 2 }, J 27 (.lenR (.t 26)), J 28 (.move (kI 0))]
def Bc4 : List XI := [J 29 (.bin .lss (.t 28) (.t 27))]
def Ba4 : List XI := [J 30 (.indexAddr 1 (.t 26) (.t 28)), J 31 (.load false 1 (.t 30)), J 8 (.move (.t 31))]
def AZ8 : List XI := [J 33 (.load true 5 (.t 2)), J 34 (.move (.t 8)), J 35 (.call JB [(.t 33), (.t 34)]), J 32 (.move (.t 35)), J 36 (.extract (.t 32) 0), J 37 (.extract (.t 32) 1), J 9 (.alloc [(.d (.str ⟨#[]⟩)), (.ex []), (.ex []), (.d (.int .i64 0)), (.d (.int .i64 0)), (.d (.int .i64 0))]), { dst := none, op := .store 6 (.t 9) (.t 36) }, J 10 (.move (.t 37))]
def Ay1 : List XI := [J 38 (.move (.t 10)), J 39 (.move (.t 38)), Jt 40 39 (.fieldAddr 4 (.t 9)), Jt 41 39 (.load false 1 (.t 40)), Jt 42 39 (.bin .gtr (.t 41) (kI 1)), J 43 (.pick (.t 39) (.t 42) kF)]
def AJ5 : List XI := [J 44 (.move (.t 43)), Jt 45 44 (.fieldAddr 5 (.t 9)), Jt 46 44 (.load false 1 (.t 45)), Jt 47 44 (.bin .lss (.t 46) (kI 0)), Jt 48 44 (.move (.t 47)), Jf 49 48 (.fieldAddr 5 (.t 9)), Jf 50 48 (.load false 1 (.t 49)), Jf 51 48 (.fieldAddr 1 (.t 9)), Jf 52 48 (.load false 1 (.t 51)), Jf 53 48 (.lenR (.t 52)), Jf 54 48 (.bin .geq (.t 50) (.t 53)), Jt 55 44 (.pick (.t 48) kT (.t 54)), Jt 56 44 (.move (.t 55)), Jf 57 56 (.fieldAddr 1 (.t 9)), Jf 58 56 (.load false 1 (.t 57)), Jf 59 56 (.fieldAddr 5 (.t 9)), Jf 60 56 (.load false 1 (.t 59)), Jf 61 56 (.indexAddr 2 (.t 58) (.t 60)), Jf 62 56 (.fieldAddr 1 (.t 61)), Jf 63 56 (.load false 1 (.t 62)), Jf 64 56 (.fieldAddr 1 (.t 5)), Jf 65 56 (.load false 1 (.t 64)), Jf 66 56 (.bin .neq (.t 63) (.t 65)), Jt 67 44 (.pick (.t 56) kT (.t 66)), J 68 (.pick (.t 44) (.t 67) kF)]
def Bb2 : List XI := Ay1 ++ (AJ5)
def Ba5 : List XI := [J 4 (.move kF)]
def AO3 : List XI := [J 69 (.bin .add (.t 28) (kI 1)), J 28 (.move (.t 69))]
def AQ1 : XC :=
 (sr Bc4
 (.seq (.cond (.t 29)
 .skip
 (.exit 0))
 (.seq (.block 1 (sr Ba4
 (sr AZ8
 (.seq (.regionS Bb2 0)
 (.cond (.t 68)
 (sr Ba5
 .ret)
 .skip)))))
 (.region AO3))))
def AP7 : List XI := [J 4 (.move kT)]
def Ax7 : XC :=
 (sr Bb1
 (.seq (sr Bb3
 (.cond (.t 13)
 (sr Ba6
 .ret)
 .skip))
 (sr Bc1
 (.seq (.seq (.regionD AZ7 [[], [0], [], [2, 1, 0], [1, 0, 3, 2], [4, 1, 0, 3, 2], []] 3)
 (.block 0 (.loop AQ1)))
 (sr AP7
 .ret)))))
theorem Bv4 : Fn PR XP 70 Ax7 [.tmp 4] := mF Tryz.call47 Tryz.func47 rfl rfl (by kernel_rfl) (by kernel_rfl)
def XL : List XI := [J 2 (.move (.c (.ex []))), J 3 (.move (kI 0))]
def Xp : List XI := [J 4 (.move (.c (.ex [])))]
def Xn : List XI := [J 5 (.move (kI 0))]
def Xg : List XI := [J 16 (.move (.t 5)), J 17 (.move (.t 0)), J 18 (.lenS (.t 17)), J 19 (.bin .lss (.t 16) (.t 18))]
def Xq : List XI := [J 20 (.move (.t 0)), J 21 (.move (.t 5)), J 22 (.indexStr (.t 20) (.t 21)), J 6 (.move (.t 22))]
def Uy : List XI := [J 41 (.move (.t 6)), J 42 (.bin .eql (.t 41) (.c (.d (.int .u8 32)))), J 43 (.move (.t 42)), Jf 44 43 (.move (.t 6)), Jf 45 43 (.bin .eql (.t 44) (.c (.d (.int .u8 9)))), J 46 (.pick (.t 43) kT (.t 45))]
def U1 : List XI := [J 47 (.move (.t 46)), Jf 48 47 (.move (.t 6)), Jf 49 47 (.bin .eql (.t 48) (.c (.d (.int .u8 10)))), J 50 (.pick (.t 47) kT (.t 49))]
def UR : List XI := [J 40 (.move (.t 50))]
def XG : List XI := Uy ++ (U1 ++ (UR))
def Xm : List XI := [J 51 (.move (.t 5)), J 52 (.bin .add (.t 51) (kI 1)), J 5 (.move (.t 52))]
def UV : List XI := [J 54 (.move (.t 6)), J 55 (.bin .eql (.t 54) (.c (.d (.int .u8 47)))), J 56 (.move (.t 55)), Jt 57 56 (.move (.t 5)), Jt 58 56 (.bin .add (.t 57) (kI 1)), Jt 59 56 (.move (.t 0)), Jt 60 56 (.lenS (.t 59)), Jt 61 56 (.bin .lss (.t 58) (.t 60)), J 62 (.pick (.t 56) (.t 61) kF)]
def UT : List XI := [J 63 (.move (.t 62)), Jt 64 63 (.move (.t 0)), Jt 65 63 (.move (.t 5)), Jt 66 63 (.bin .add (.t 65) (kI 1)), Jt 67 63 (.indexStr (.t 64) (.t 66)), Jt 68 63 (.bin .eql (.t 67) (.c (.d (.int .u8 47)))), J 69 (.pick (.t 63) (.t 68) kF)]
def U3 : List XI := [J 53 (.move (.t 69))]
def YK : List XI := UV ++ (UT ++ (U3))
def XT : List XI := [J 70 (.move (.t 5)), J 71 (.move (.t 0)), J 72 (.lenS (.t 71)), J 73 (.bin .lss (.t 70) (.t 72)), J 74 (.move (.t 73)), Jt 75 74 (.move (.t 0)), Jt 76 74 (.move (.t 5)), Jt 77 74 (.indexStr (.t 75) (.t 76)), Jt 78 74 (.bin .neq (.t 77) (.c (.d (.int .u8 10)))), J 79 (.pick (.t 74) (.t 78) kF)]
def Xl : List XI := [J 80 (.move (.t 5)), J 81 (.bin .add (.t 80) (kI 1)), J 5 (.move (.t 81))]
def WU : XC :=
 (.seq (sr XT
 (.cond (.t 79)
 .skip
 (.exit 3)))
 (.block 4 (.region Xl)))
def VO : List XI := [J 83 (.move (.t 6)), J 84 (.bin .eql (.t 83) (.c (.d (.int .u8 39)))), J 82 (.move (.t 84))]
def VE : List XI := [J 7 (.move (.c (.ex [])))]
def Vk : List XI := [J 85 (.move (.t 5)), J 86 (.bin .add (.t 85) (kI 1)), J 8 (.move (.t 86))]
def TG : List XI := [J 87 (.move (.t 8)), J 88 (.move (.t 0)), J 89 (.lenS (.t 88)), J 90 (.bin .lss (.t 87) (.t 89)), J 91 (.move (.t 90)), Jt 92 91 (.move (.t 0)), Jt 93 91 (.move (.t 8)), Jt 94 91 (.indexStr (.t 92) (.t 93)), Jt 95 91 (.bin .neq (.t 94) (.c (.d (.int .u8 10)))), J 96 (.pick (.t 91) (.t 95) kF)]
def TB : List XI := [J 97 (.move (.t 96)), Jt 98 97 (.move (.t 0)), Jt 99 97 (.move (.t 8)), Jt 100 97 (.indexStr (.t 98) (.t 99)), Jt 101 97 (.bin .neq (.t 100) (.c (.d (.int .u8 39)))), Jt 102 97 (.move (.t 101)), Jf 103 102 (.move (.t 8)), Jf 104 102 (.bin .add (.t 103) (kI 1)), Jf 105 102 (.move (.t 0)), Jf 106 102 (.lenS (.t 105)), Jf 107 102 (.bin .lss (.t 104) (.t 106)), Jf 108 102 (.move (.t 107)), Jt 109 108 (.move (.t 0)), Jt 110 108 (.move (.t 8)), Jt 111 108 (.bin .add (.t 110) (kI 1)), Jt 112 108 (.indexStr (.t 109) (.t 111)), Jt 113 108 (.bin .eql (.t 112) (.c (.d (.int .u8 39)))), Jf 114 102 (.pick (.t 108) (.t 113) kF), Jt 115 97 (.pick (.t 102) kT (.t 114)), J 116 (.pick (.t 97) (.t 115) kF)]
def WO : List XI := TG ++ (TB)
def V5 : List XI := [J 117 (.move (.t 7)), J 118 (.move (.t 0)), J 119 (.move (.t 8)), J 120 (.indexStr (.t 118) (.t 119)), J 121 (.buildSlice 1 [(.t 120)]), J 122 (.append BZ3 1 1 (.t 117) (.t 121)), J 7 (.move (.t 122))]
def Ww : List XI := [J 123 (.move (.t 0)), J 124 (.move (.t 8)), J 125 (.indexStr (.t 123) (.t 124)), J 126 (.bin .eql (.t 125) (.c (.d (.int .u8 39))))]
def Wg : List XI := [J 127 (.move (.t 8)), J 128 (.bin .add (.t 127) (kI 1)), J 8 (.move (.t 128))]
def VB : List XI := [J 129 (.move (.t 8)), J 130 (.bin .add (.t 129) (kI 1)), J 8 (.move (.t 130))]
def Vc : XC :=
 (.seq (sr WO
 (.cond (.t 116)
 .skip
 (.exit 5)))
 (.block 6 (sr V5
 (.seq (sr Ww
 (.cond (.t 126)
 (.region Wg)
 .skip))
 (.region VB)))))
def TH : List XI := [J 131 (.move (.t 8)), J 132 (.move (.t 0)), J 133 (.lenS (.t 132)), J 134 (.bin .geq (.t 131) (.t 133)), J 135 (.move (.t 134)), Jf 136 135 (.move (.t 0)), Jf 137 135 (.move (.t 8)), Jf 138 135 (.indexStr (.t 136) (.t 137)), Jf 139 135 (.bin .eql (.t 138) (.c (.d (.int .u8 10)))), J 140 (.pick (.t 135) kT (.t 139))]
def Tz : List XI := [J 141 (.move (.t 140)), Jf 142 141 (.move (.t 7)), Jf 143 141 (.lenR (.t 142)), Jf 144 141 (.bin .gtr (.t 143) (kI 200)), J 145 (.pick (.t 141) kT (.t 144))]
def VI : List XI := TH ++ (Tz)
def V7 : List XI := [J 146 (.move (.t 5)), J 2 (.move (.c (.ex []))), J 3 (.move (.t 146))]
def WC : List XI := [J 147 (.move (.t 4)), J 148 (.move (.t 7)), J 149 (.bad), J 150 (.move (.t 5)), J 151 (.build [(.d (.int .i64 0)), (.d (.str ⟨#[]⟩)), (.d (.int .i64 0)), (.d (.int .i64 0))] [(0, 1, (kI 2)), (1, 1, (.t 149)), (2, 1, (kI 0)), (3, 1, (.t 150))]), J 152 (.buildSlice 4 [(.t 151)]), J 153 (.append IV 4 40 (.t 147) (.t 152)), J 4 (.move (.t 153))]
def WY : List XI := [J 154 (.move (.t 8)), J 155 (.bin .add (.t 154) (kI 1)), J 5 (.move (.t 155))]
def Wn : List XI := [J 157 (.move (.t 6)), J 158 (.call Hb [(.t 157)]), J 156 (.move (.t 158))]
def Wf : List XI := [J 159 (.move (.t 5)), J 9 (.move (.t 159))]
def VV : List XI := [J 160 (.move (.t 9)), J 161 (.move (.t 0)), J 162 (.lenS (.t 161)), J 163 (.bin .lss (.t 160) (.t 162)), J 164 (.move (.t 163)), Jt 165 164 (.move (.t 0)), Jt 166 164 (.move (.t 9)), Jt 167 164 (.indexStr (.t 165) (.t 166)), Jt 168 164 (.call Hb [(.t 167)]), J 169 (.pick (.t 164) (.t 168) kF)]
def VQ : List XI := [J 170 (.move (.t 9)), J 171 (.bin .add (.t 170) (kI 1)), J 9 (.move (.t 171))]
def VL : XC :=
 (.seq (sr VV
 (.cond (.t 169)
 .skip
 (.exit 7)))
 (.block 8 (.region VQ)))
def W2 : List XI := [J 172 (.move (.t 0)), J 173 (.move (.t 5)), J 174 (.move (.t 9)), J 175 (.sliceS (.t 172) (some (.t 173)) (some (.t 174))), J 10 (.move (.t 175))]
def VT : List XI := [J 176 (.move (.t 10)), J 177 (.move (.t 5)), J 178 (.build [(.d (.int .i64 0)), (.d (.str ⟨#[]⟩)), (.d (.int .i64 0)), (.d (.int .i64 0))] [(0, 1, (kI 3)), (1, 1, (.t 176)), (2, 1, (kI 0)), (3, 1, (.t 177))]), J 11 (.alloc [(.d (.int .i64 0)), (.d (.str ⟨#[]⟩)), (.d (.int .i64 0)), (.d (.int .i64 0))]), { dst := none, op := .store 4 (.t 11) (.t 178) }]
def Wx : List XI := [J 179 (.move (.t 10)), J 180 (.call E1 [(.t 179)]), J 12 (.move (.t 180))]
def Vw : List XI := [J 181 (.move (.t 6)), J 182 (.bin .geq (.t 181) (.c (.d (.int .u8 48)))), J 183 (.move (.t 182)), Jt 184 183 (.move (.t 6)), Jt 185 183 (.bin .leq (.t 184) (.c (.d (.int .u8 57)))), J 186 (.pick (.t 183) (.t 185) kF)]
def VY : List XI := [J 188 (.move (.t 10)), J 189 (.call Ao0 [(.t 188)]), J 187 (.move (.t 189)), J 190 (.extract (.t 187) 0), J 191 (.extract (.t 187) 1), J 13 (.move (.t 190)), J 14 (.move (.t 191))]
def Vt : List XI := [J 192 (.move (.t 10)), J 193 (.move (.t 13)), J 194 (.move (.t 5)), J 195 (.build [(.d (.int .i64 0)), (.d (.str ⟨#[]⟩)), (.d (.int .i64 0)), (.d (.int .i64 0))] [(0, 1, (kI 1)), (1, 1, (.t 192)), (2, 1, (.t 193)), (3, 1, (.t 194))]), { dst := none, op := .store 4 (.t 11) (.t 195) }]
def V0 : List XI := [J 196 (.move (.t 14)), J 197 (.bin .eql (.t 196) (kI 0)), J 12 (.move (.t 197))]
def Vq : List XI := [J 198 (.move (.t 12)), J 199 (.not (.t 198))]
def Wi : List XI := [J 200 (.move (.t 5)), J 2 (.move (.c (.ex []))), J 3 (.move (.t 200))]
def V2 : List XI := [J 201 (.move (.t 4)), J 202 (.load true 4 (.t 11)), J 203 (.buildSlice 4 [(.t 202)]), J 204 (.append IV 4 40 (.t 201) (.t 203)), J 4 (.move (.t 204))]
def WN : List XI := [J 205 (.move (.t 9)), J 5 (.move (.t 205))]
def Ve : List XI := [J 23 (.move (.t 0)), J 24 (.move (.t 5)), J 25 (.sliceS (.t 23) (some (.t 24)) none), J 26 (.call JQ [(.t 25)]), J 15 (.move (.t 26))]
def W6 : List XI := [J 27 (.move (.t 15)), J 28 (.bin .eql (.t 27) (kS #[]))]
def VC : List XI := [J 29 (.move (.t 5)), J 2 (.move (.c (.ex []))), J 3 (.move (.t 29))]
def Wt : List XI := [J 30 (.move (.t 4)), J 31 (.move (.t 15)), J 32 (.move (.t 5)), J 33 (.build [(.d (.int .i64 0)), (.d (.str ⟨#[]⟩)), (.d (.int .i64 0)), (.d (.int .i64 0))] [(0, 1, (kI 0)), (1, 1, (.t 31)), (2, 1, (kI 0)), (3, 1, (.t 32))]), J 34 (.buildSlice 4 [(.t 33)]), J 35 (.append IV 4 40 (.t 30) (.t 34)), J 4 (.move (.t 35))]
def Wk : List XI := [J 36 (.move (.t 5)), J 37 (.move (.t 15)), J 38 (.lenS (.t 37)), J 39 (.bin .add (.t 36) (.t 38)), J 5 (.move (.t 39))]
def W7 : XC :=
 (.seq (sr Xg
 (.cond (.t 19)
 .skip
 (.exit 0)))
 (.block 1 (sr Xq
 (.block 2 (sr XG
 (.cond (.t 40)
 (.region Xm)
 (sr YK
 (.cond (.t 53)
 (.block 3 (.loop WU))
 (sr VO
 (.cond (.t 82)
 (sr VE
 (sr Vk
 (.seq (.block 5 (.loop Vc))
 (.seq (sr VI
 (.cond (.t 145)
 (sr V7
 .ret)
 .skip))
 (sr WC
 (.region WY))))))
 (sr Wn
 (.cond (.t 156)
 (sr Wf
 (.seq (.block 7 (.loop VL))
 (sr W2
 (sr VT
 (sr Wx
 (.seq (sr Vw
 (.cond (.t 186)
 (sr VY
 (sr Vt
 (.region V0)))
 .skip))
 (.seq (sr Vq
 (.cond (.t 199)
 (sr Wi
 .ret)
 .skip))
 (sr V2
 (.region WN)))))))))
 (sr Ve
 (.seq (sr W6
 (.cond (.t 28)
 (sr VC
 .ret)
 .skip))
 (sr Wt
 (.region Wk))))))))))))))))
def VZ : List XI := [J 206 (.move (.t 4)), J 2 (.move (.t 206)), J 3 (.move (kI (-1)))]
def Qq : XC :=
 (sr XL
 (sr Xp
 (sr Xn
 (.seq (.block 0 (.loop W7))
 (sr VZ
 .ret)))))
theorem An4 : Fn PR IU 207 Qq [.tmp 2, .tmp 3] := mF Tryz.call48 Tryz.func48 rfl rfl (by kernel_rfl) (by kernel_rfl)
def Q9 : List XI := [J 2 (.alloc [(.d (.str ⟨#[]⟩)), (.d (.str ⟨#[]⟩)), (.d (.str ⟨#[]⟩)), (.d (.int .i64 0)), (.ex []), (.ex [])])]
def R0 : List XI := [J 7 (.move (.t 0)), J 8 (.call AI [(.t 7), (kS #[112, 114, 111, 99])])]
def Q2 : List XI := [J 9 (.move (.t 0)), J 10 (.call AL [(.t 9)]), J 11 (.build [(.d (.str ⟨#[]⟩)), (.d (.str ⟨#[]⟩)), (.d (.str ⟨#[]⟩)), (.d (.int .i64 0)), (.ex []), (.ex [])] [(0, 1, (.t 10)), (3, 1, (kI 100))]), J 3 (.alloc [(.d (.str ⟨#[]⟩)), (.d (.str ⟨#[]⟩)), (.d (.str ⟨#[]⟩)), (.d (.int .i64 0)), (.ex []), (.ex [])]), { dst := none, op := .store 6 (.t 3) (.t 11) }]
def QT : List XI := [J 12 (.move (.t 0)), J 13 (.call AI [(.t 12), (kS #[40])])]
def Q3 : List XI := [J 14 (.move (.t 0)), J 15 (.call Bn [(.t 14)])]
def QG : List XI := [J 16 (.move (.t 0)), J 17 (.call AX [(.t 16), (kS #[41])]), J 18 (.not (.t 17)), J 4 (.move (.t 18))]
def QW : List XI := [J 19 (.move (.t 4))]
def QQ : List XI := [J 22 (.move (.t 0)), J 23 (.call AL [(.t 22)]), J 24 (.build [(.d (.str ⟨#[]⟩)), (.d (.int .i64 0))] [(0, 1, (.t 23))]), J 5 (.alloc [(.d (.str ⟨#[]⟩)), (.d (.int .i64 0))]), { dst := none, op := .store 2 (.t 5) (.t 24) }]
def RU : List XI := [J 29 (.move (.t 0)), J 30 (.call AD [(.t 29), (kS #[105, 110, 116])]), J 28 (.move (.t 30))]
def RI : List XI := [J 31 (.fieldAddr 1 (.t 5)), { dst := none, op := .store 1 (.t 31) (kI 1) }]
def Qb : List XI := [J 33 (.move (.t 0)), J 34 (.call AD [(.t 33), (kS #[116, 101, 120, 116])]), J 32 (.move (.t 34))]
def Oh : List XI := [J 35 (.fieldAddr 1 (.t 5)), { dst := none, op := .store 1 (.t 35) (kI 2) }]
def Ox : List XI := [J 37 (.move (.t 0)), J 38 (.call AD [(.t 37), (kS #[98, 111, 111, 108])]), J 36 (.move (.t 38))]
def Oo : List XI := [J 39 (.fieldAddr 1 (.t 5)), { dst := none, op := .store 1 (.t 39) (kI 3) }]
def Qj : List XI := [J 25 (.move (.t 0)), J 26 (.nilCheck (.t 25)), J 27 (.fieldAddr 4 (.t 26)), { dst := none, op := .store 1 (.t 27) kT }]
def Pe : List XI := [J 40 (.fieldAddr 4 (.t 3)), J 41 (.load false 1 (.t 40)), J 42 (.load true 2 (.t 5)), J 43 (.buildSlice 2 [(.t 42)]), J 44 (.append UG 2 24 (.t 41) (.t 43)), J 45 (.fieldAddr 4 (.t 3)), { dst := none, op := .store 1 (.t 45) (.t 44) }]
def NW : List XI := [J 20 (.move (.t 0)), J 21 (.call AD [(.t 20), (kS #[44])]), J 4 (.move (.t 21))]
def O0 : XC :=
 (.seq (sr QW
 (.cond (.t 19)
 .skip
 (.exit 0)))
 (.seq (.block 1 (sr QQ
 (.seq (.block 2 (sr RU
 (.cond (.t 28)
 (.region RI)
 (sr Qb
 (.cond (.t 32)
 (.region Oh)
 (sr Ox
 (.cond (.t 36)
 (.region Oo)
 (.region Qj))))))))
 (.region Pe))))
 (.region NW)))
def O6 : List XI := [J 46 (.move (.t 0)), J 47 (.call AI [(.t 46), (kS #[41])])]
def OW : List XI := [J 48 (.move (.t 0)), J 49 (.nilCheck (.t 48)), J 50 (.fieldAddr 2 (.t 49)), J 51 (.load false 1 (.t 50)), J 52 (.bin .sub (.t 51) (kI 1)), J 53 (.nilCheck (.t 48)), J 54 (.fieldAddr 2 (.t 53)), { dst := none, op := .store 1 (.t 54) (.t 52) }]
def OA : List XI := [J 55 (.move (.t 0)), J 56 (.call AD [(.t 55), (kS #[111, 110])])]
def Po : List XI := [J 57 (.move (.t 0)), J 58 (.call AL [(.t 57)]), J 59 (.fieldAddr 2 (.t 3)), { dst := none, op := .store 1 (.t 59) (.t 58) }]
def NV : List XI := [J 60 (.move (.t 0)), J 61 (.call AD [(.t 60), (kS #[102, 114, 111, 109])])]
def Pw : List XI := [J 62 (.move (.t 0)), J 63 (.call AL [(.t 62)]), J 64 (.fieldAddr 1 (.t 3)), { dst := none, op := .store 1 (.t 64) (.t 63) }]
def OI : List XI := [J 65 (.move (.t 0)), J 66 (.call AD [(.t 65), (kS #[102, 117, 101, 108])])]
def NF : List XI := [J 67 (.move (.t 0)), J 68 (.call Fz [(.t 67)]), J 6 (.move (.t 68))]
def Ok : List XI := [J 69 (.fieldAddr 3 (.t 3)), { dst := none, op := .store 1 (.t 69) (kI 2001) }]
def PQ : List XI := [J 70 (.move (.t 6)), J 71 (.bin .lss (.t 70) (kI 2001))]
def OR : List XI := [J 72 (.move (.t 6)), J 73 (.fieldAddr 3 (.t 3)), { dst := none, op := .store 1 (.t 73) (.t 72) }]
def O1 : List XI := [J 74 (.move (.t 0)), J 75 (.call Cv [(.t 74)]), J 76 (.fieldAddr 5 (.t 3)), { dst := none, op := .store 1 (.t 76) (.t 75) }]
def Of : List XI := [J 77 (.load true 6 (.t 3)), { dst := none, op := .store 6 (.t 2) (.t 77) }]
def JG : XC :=
 (sr Q9
 (sr R0
 (sr Q2
 (sr QT
 (sr Q3
 (.seq (sr QG
 (.block 0 (.loop O0)))
 (sr O6
 (sr OW
 (.seq (sr OA
 (.cond (.t 56)
 (.region Po)
 (sr NV
 (.cond (.t 61)
 (.region Pw)
 .skip))))
 (.seq (sr OI
 (.cond (.t 66)
 (sr NF
 (sr Ok
 (sr PQ
 (.cond (.t 71)
 (.region OR)
 .skip))))
 .skip))
 (sr O1
 (sr Of
 .ret))))))))))))
theorem UU : Fn PR Ga 78 JG [.cell 2 true 6] := mF Tryz.call49 Tryz.func49 rfl rfl (by kernel_rfl) (by kernel_rfl)
def Rd : List XI := [J 4 (.move (kI 0))]
def QB : List XI := [J 5 (.move (.t 0)), J 6 (.nilCheck (.t 5)), J 7 (.fieldAddr 3 (.t 6)), J 8 (.load false 1 (.t 7))]
def Rs : List XI := [J 4 (.move (kI (-2)))]
def Q4 : List XI := [J 9 (.move (.t 0)), J 10 (.nilCheck (.t 9)), J 11 (.fieldAddr 1 (.t 10)), J 12 (.load false 1 (.t 11)), J 13 (.move (.t 0)), J 14 (.nilCheck (.t 13)), J 15 (.fieldAddr 0 (.t 14)), J 16 (.load false 1 (.t 15)), J 17 (.lenR (.t 16)), J 18 (.bin .lss (.t 12) (.t 17))]
def RB : List XI := [J 19 (.move (.t 0)), J 20 (.nilCheck (.t 19)), J 21 (.fieldAddr 0 (.t 20)), J 22 (.load false 1 (.t 21)), J 23 (.move (.t 0)), J 24 (.nilCheck (.t 23)), J 25 (.fieldAddr 1 (.t 24)), J 26 (.load false 1 (.t 25)), J 27 (.indexAddr 4 (.t 22) (.t 26)), J 28 (.fieldAddr 3 (.t 27)), J 29 (.load false 1 (.t 28)), J 4 (.move (.t 29))]
def QC : List XI := [J 30 (.move (.t 0)), J 31 (.nilCheck (.t 30)), J 32 (.fieldAddr 4 (.t 31)), J 33 (.load false 1 (.t 32))]
def RS : List XI := [J 34 (.move (.t 1)), J 4 (.move (.t 34))]
def QX : List XI := [J 4 (.move (kI (-1)))]
def Je : XC :=
 (sr Rd
 (.seq (sr QB
 (.cond (.t 8)
 (sr Rs
 .ret)
 .skip))
 (.seq (.seq (.regionS Q4 0)
 (.cond (.t 18)
 (.seq (.regionS RB 0)
 .ret)
 .skip))
 (.seq (sr QC
 (.cond (.t 33)
 (sr RS
 .ret)
 .skip))
 (sr QX
 .ret)))))
theorem UQ : Fn PR F0 35 Je [.tmp 4] := mF Tryz.call50 Tryz.func50 rfl rfl (by kernel_rfl) (by kernel_rfl)
def Yb : List XI := [J 1 (.box (.t 0)), J 2 (.move kF)]
def YE : List XI := [J 6 (.fieldAddr 5 (.t 1)), J 7 (.load false 1 (.t 6)), J 8 (.call AN1 [(.t 7)]), J 5 (.move (.t 8)), J 9 (.extract (.t 5) 0), J 10 (.extract (.t 5) 1), J 3 (.move (.t 9)), J 4 (.move (.t 10))]
def UX : List XI := [J 11 (.move (.t 3)), J 12 (.bin .leq (.t 11) (kI 300)), J 13 (.move (.t 12)), Jt 14 13 (.move (.t 4)), Jt 15 13 (.bin .leq (.t 14) (kI 12)), J 16 (.pick (.t 13) (.t 15) kF)]
def Ux : List XI := [J 17 (.move (.t 16)), Jt 18 17 (.load true 6 (.t 1)), Jt 19 17 (.call Ad4 [(.t 18)]), J 20 (.pick (.t 17) (.t 19) kF)]
def U6 : List XI := [J 21 (.move (.t 20)), Jt 22 21 (.fieldAddr 5 (.t 1)), Jt 23 21 (.load false 1 (.t 22)), Jt 24 21 (.call Gx [(.t 23)]), J 25 (.pick (.t 21) (.t 24) kF)]
def UI : List XI := [J 2 (.move (.t 25))]
def Xi : List XI := UX ++ (Ux ++ (U6 ++ (UI)))
def Qs : XC :=
 (sr Yb
 (sr YE
 (sr Xi
 .ret)))
theorem An8 : Fn PR I1 26 Qs [.tmp 2] := mF Tryz.call51 Tryz.func51 rfl rfl (by kernel_rfl) (by kernel_rfl)
def Sb : List XI := [J 6 (.alloc [(.d (.int .i64 0)), (.d (.int .i64 0))])]
def Tt : List XI := [J 7 (.alloc [(.d (.int .i64 0)), (.d (.int .i64 0))])]
def Tr : List XI := [J 10 (.move (.t 0)), J 11 (.lenR (.t 10)), J 12 (.move (kI 0))]
def Tp : List XI := [J 13 (.bin .lss (.t 12) (.t 11))]
def SQ : List XI := [J 14 (.indexAddr 8 (.t 10) (.t 12)), J 15 (.load true 8 (.t 14)), J 9 (.alloc [(.d (.int .i64 0)), (.d (.str ⟨#[]⟩)), (.d (.str ⟨#[]⟩)), (.d (.int .i64 0)), (.ex []), (.ex []), (.ex []), (.ex [])]), { dst := none, op := .store 8 (.t 9) (.t 15) }]
def SM : List XI := [J 16 (.call Ls [(.t 7)]), J 17 (.move (.t 16)), Jf 18 17 (.move (.t 1)), Jf 19 17 (.bin .geq (.t 18) (kI 1000)), J 20 (.pick (.t 17) kT (.t 19))]
def Sy : List XI := [J 21 (.build [(.d (.int .i64 0)), (.d (.int .i64 0))] [(0, 1, (kI 1000)), (1, 1, (kI 1000))]), { dst := none, op := .store 2 (.t 6) (.t 21) }]
def Sj : List XI := [J 22 (.move (.t 2)), J 23 (.load true 8 (.t 9)), J 24 (.move (.t 1)), J 25 (.dyn (.t 22) [(.t 23), (.t 24)]), J 26 (.call H6 [(.t 7), (.t 25)])]
def Tn : List XI := [J 27 (.bin .add (.t 12) (kI 1)), J 12 (.move (.t 27))]
def Sf : XC :=
 (sr Tp
 (.seq (.cond (.t 13)
 .skip
 (.exit 0))
 (.seq (.block 1 (sr SQ
 (.seq (sr SM
 (.cond (.t 20)
 (sr Sy
 .ret)
 .skip))
 (.region Sj))))
 (.region Tn))))
def Qp : List XI := [J 28 (.load true 2 (.t 7)), { dst := none, op := .store 2 (.t 6) (.t 28) }]
def O9 : XC :=
 (sr Sb
 (sr Tt
 (.seq (sr Tr
 (.block 0 (.loop Sf)))
 (sr Qp
 .ret))))
theorem Ze : Fn PR FK 29 O9 [.cell 6 true 2] := mF Tryz.call69 Tryz.func69 rfl rfl (by kernel_rfl) (by kernel_rfl)
def Aj5 : List XI := [J 2 (.box (.t 0)), J 4 (.alloc [(.d (.int .i64 0)), (.d (.int .i64 0))])]
def Aj9 : List XI := [J 6 (.fieldAddr 5 (.t 2)), J 7 (.load false 1 (.t 6)), J 8 (.move (.t 1)), J 9 (.bin .add (.t 8) (kI 1)), J 10 (.call Hn [(.t 7), (.t 9), (.c (.fn GS [] []))]), J 5 (.alloc [(.d (.int .i64 0)), (.d (.int .i64 0))]), { dst := none, op := .store 2 (.t 5) (.t 10) }]
def Ag7 : List XI := [J 11 (.fieldAddr 6 (.t 2)), J 12 (.load false 1 (.t 11)), J 13 (.move (.t 1)), J 14 (.bin .add (.t 13) (kI 1)), J 15 (.call FK [(.t 12), (.t 14), (.c (.fn FS [] []))]), J 16 (.call H6 [(.t 5), (.t 15)])]
def Ac8 : List XI := [J 17 (.fieldAddr 7 (.t 2)), J 18 (.load false 1 (.t 17)), J 19 (.move (.t 1)), J 20 (.bin .add (.t 19) (kI 1)), J 21 (.call FK [(.t 18), (.t 20), (.c (.fn FS [] []))]), J 22 (.call H6 [(.t 5), (.t 21)])]
def Al5 : List XI := [J 23 (.load true 2 (.t 5)), J 24 (.call AL2 [(.t 23)]), { dst := none, op := .store 2 (.t 4) (.t 24) }]
def Ac7 : XC :=
 (sr Aj5
 (sr Aj9
 (sr Ag7
 (sr Ac8
 (sr Al5
 .ret)))))
theorem AX5 : Fn PR FS 25 Ac7 [.cell 4 true 2] := mF Tryz.call70 Tryz.func70 rfl rfl (by kernel_rfl) (by kernel_rfl)
def AW7 : List XI := [J 1 (.box (.t 0)), J 2 (.move kF)]
def AS4 : List XI := [J 3 (.move (.c (.ex [])))]
def AY5 : List XI := [J 6 (.fieldAddr 4 (.t 1)), J 7 (.load false 1 (.t 6)), J 8 (.lenR (.t 7)), J 9 (.move (kI 0))]
def AY9 : List XI := [J 10 (.bin .lss (.t 9) (.t 8))]
def AT6 : List XI := [J 11 (.indexAddr 2 (.t 7) (.t 9)), J 12 (.load true 2 (.t 11)), J 5 (.alloc [(.d (.str ⟨#[]⟩)), (.d (.int .i64 0))]), { dst := none, op := .store 2 (.t 5) (.t 12) }]
def AY6 : List XI := [J 13 (.fieldAddr 1 (.t 5)), J 14 (.load false 1 (.t 13)), J 15 (.call Kt [(.t 14), (kI 1), (kI 3)]), J 16 (.not (.t 15))]
def AV2 : List XI := [J 2 (.move kF)]
def AW6 : List XI := [J 17 (.move (.t 3)), J 18 (.fieldAddr 0 (.t 5)), J 19 (.load false 1 (.t 18)), J 20 (.buildSlice 1 [(.t 19)]), J 21 (.append Gy 1 16 (.t 17) (.t 20)), J 3 (.move (.t 21))]
def AX4 : List XI := [J 22 (.bin .add (.t 9) (kI 1)), J 9 (.move (.t 22))]
def AS8 : XC :=
 (sr AY9
 (.seq (.cond (.t 10)
 .skip
 (.exit 0))
 (.seq (.block 1 (sr AT6
 (.seq (sr AY6
 (.cond (.t 16)
 (sr AV2
 .ret)
 .skip))
 (.region AW6))))
 (.region AX4))))
def Af3 : List XI := [J 23 (.fieldAddr 0 (.t 1)), J 24 (.load false 1 (.t 23)), J 25 (.buildSlice 1 [(.t 24)]), J 26 (.call JK [(.t 25)]), J 27 (.not (.t 26)), J 28 (.move (.t 27)), Jf 29 28 (.move (.t 3)), Jf 30 28 (.lenR (.t 29)), Jf 31 28 (.bin .gtr (.t 30) (kI 8)), J 32 (.pick (.t 28) kT (.t 31))]
def Af7 : List XI := [J 33 (.move (.t 32)), Jf 34 33 (.move (.t 3)), Jf 35 33 (.call JK [(.t 34)]), Jf 36 33 (.not (.t 35)), J 37 (.pick (.t 33) kT (.t 36))]
def Ak8 : List XI := [J 38 (.move (.t 37)), Jf 39 38 (.move (.t 3)), Jf 40 38 (.call Mu [(.t 39)]), Jf 41 38 (.not (.t 40)), J 42 (.pick (.t 38) kT (.t 41))]
def Aj2 : List XI := [J 43 (.move (.t 42)), Jf 44 43 (.fieldAddr 3 (.t 1)), Jf 45 43 (.load false 1 (.t 44)), Jf 46 43 (.call Kt [(.t 45), (kI 1), (kI 2000)]), Jf 47 43 (.not (.t 46)), J 48 (.pick (.t 43) kT (.t 47))]
def AC1 : List XI := Af3 ++ (Af7 ++ (Ak8 ++ (Aj2)))
def AI8 : List XI := [J 2 (.move kF)]
def AI7 : List XI := [J 49 (.fieldAddr 1 (.t 1)), J 50 (.load false 1 (.t 49)), J 51 (.bin .neq (.t 50) (kS #[]))]
def Ab5 : List XI := [J 52 (.fieldAddr 1 (.t 1)), J 53 (.load false 1 (.t 52)), J 54 (.buildSlice 1 [(.t 53)]), J 55 (.call JK [(.t 54)]), J 56 (.move (.t 55)), Jt 57 56 (.move (.t 3)), Jt 58 56 (.lenR (.t 57)), Jt 59 56 (.bin .eql (.t 58) (kI 0)), J 60 (.pick (.t 56) (.t 59) kF)]
def SW : List XI := [J 61 (.move (.t 60)), Jt 62 61 (.fieldAddr 2 (.t 1)), Jt 63 61 (.load false 1 (.t 62)), Jt 64 61 (.bin .eql (.t 63) (kS #[])), J 65 (.pick (.t 61) (.t 64) kF)]
def Ll : List XI := [J 2 (.move (.t 65))]
def AL1 : List XI := Ab5 ++ (SW ++ (Ll))
def Ag4 : List XI := [J 66 (.fieldAddr 2 (.t 1)), J 67 (.load false 1 (.t 66)), J 68 (.bin .eql (.t 67) (kS #[])), J 69 (.move (.t 68)), Jf 70 69 (.move (.t 3)), Jf 71 69 (.fieldAddr 2 (.t 1)), Jf 72 69 (.load false 1 (.t 71)), Jf 73 69 (.call B5 [(.t 70), (.t 72)]), J 74 (.pick (.t 69) kT (.t 73))]
def S7 : List XI := [J 2 (.move (.t 74))]
def Az9 : List XI := Ag4 ++ (S7)
def Be2 : XC :=
 (sr AW7
 (sr AS4
 (.seq (sr AY5
 (.block 0 (.loop AS8)))
 (.seq (sr AC1
 (.cond (.t 48)
 (sr AI8
 .ret)
 .skip))
 (.seq (sr AI7
 (.cond (.t 51)
 (sr AL1
 .ret)
 .skip))
 (sr Az9
 .ret))))))
theorem BA3 : Fn PR AC7 75 Be2 [.tmp 2] := mF Tryz.call71 Tryz.func71 rfl rfl (by kernel_rfl) (by kernel_rfl)
def Vb : List XI := [J 2 (.move kF)]
def S9 : List XI := [J 3 (.move (.t 0)), J 4 (.nilCheck (.t 3)), J 5 (.fieldAddr 0 (.t 4)), J 6 (.load false 1 (.t 5)), J 7 (.bin .leq (.t 6) (kI 300)), J 8 (.move (.t 7)), Jt 9 8 (.move (.t 0)), Jt 10 8 (.nilCheck (.t 9)), Jt 11 8 (.fieldAddr 1 (.t 10)), Jt 12 8 (.load false 1 (.t 11)), Jt 13 8 (.bin .leq (.t 12) (kI 12)), J 14 (.pick (.t 8) (.t 13) kF)]
def JO : List XI := [J 2 (.move (.t 14))]
def VH : List XI := S9 ++ (JO)
def Uv : XC :=
 (sr Vb
 (sr VH
 .ret))
theorem Ap6 : Fn PR My 15 Uv [.tmp 2] := mF Tryz.call72 Tryz.func72 rfl rfl (by kernel_rfl) (by kernel_rfl)
def AD5 : List XI := [J 2 (.move kF)]
def AB4 : List XI := [J 3 (.move (.t 0)), J 4 (.call BV [(.t 3), (.c (.fn GN [] []))]), J 5 (.not (.t 4)), J 2 (.move (.t 5))]
def AR1 : XC :=
 (sr AD5
 (sr AB4
 .ret))
theorem Br6 : Fn PR Gw 6 AR1 [.tmp 2] := mF Tryz.call73 Tryz.func73 rfl rfl (by kernel_rfl) (by kernel_rfl)
def Rf : List XI := [J 4 (.alloc [(.d (.int .i64 0)), (.d (.int .i64 0)), (.d (.str ⟨#[]⟩)), (.d (.str ⟨#[]⟩)), (.d (.str ⟨#[]⟩)), (.ex [])])]
def Rv : List XI := [J 5 (.alloc [(.d (.int .i64 0)), (.d (.int .i64 0)), (.d (.str ⟨#[]⟩)), (.d (.str ⟨#[]⟩)), (.d (.str ⟨#[]⟩)), (.ex [])])]
def Ra : List XI := [J 6 (.move (kI 9))]
def Ri : List XI := [J 12 (.move (.t 1)), J 13 (.bin .leq (.t 12) (kI 2)), J 14 (.move (.t 13)), Jt 15 14 (.move (.t 0)), Jt 16 14 (.call AD [(.t 15), (kS #[110, 111, 116])]), J 17 (.pick (.t 14) (.t 16) kF)]
def QZ : List XI := [J 18 (.move (.t 0)), J 19 (.call Bn [(.t 18)])]
def QL : List XI := [J 20 (.move (.t 0)), J 21 (.call KB [(.t 20)]), J 7 (.alloc [(.d (.int .i64 0)), (.d (.int .i64 0)), (.d (.str ⟨#[]⟩)), (.d (.str ⟨#[]⟩)), (.d (.str ⟨#[]⟩)), (.ex [])]), { dst := none, op := .store 6 (.t 7) (.t 21) }]
def RE : List XI := [J 22 (.move (.t 0)), J 23 (.nilCheck (.t 22)), J 24 (.fieldAddr 2 (.t 23)), J 25 (.load false 1 (.t 24)), J 26 (.bin .sub (.t 25) (kI 1)), J 27 (.nilCheck (.t 22)), J 28 (.fieldAddr 2 (.t 27)), { dst := none, op := .store 1 (.t 28) (.t 26) }]
def RQ : List XI := [J 29 (.load true 6 (.t 7)), J 30 (.buildSlice 6 [(.t 29)]), J 31 (.build [(.d (.int .i64 0)), (.d (.int .i64 0)), (.d (.str ⟨#[]⟩)), (.d (.str ⟨#[]⟩)), (.d (.str ⟨#[]⟩)), (.ex [])] [(0, 1, (kI 19)), (5, 1, (.t 30))]), { dst := none, op := .store 6 (.t 5) (.t 31) }]
def Rc : List XI := [J 6 (.move (kI 2))]
def RK : List XI := [J 32 (.move (.t 0)), J 33 (.call Dz [(.t 32)]), { dst := none, op := .store 6 (.t 5) (.t 33) }]
def Pf : List XI := [J 34 (.move (.t 0)), J 35 (.nilCheck (.t 34)), J 36 (.fieldAddr 4 (.t 35)), J 37 (.load false 1 (.t 36)), J 38 (.not (.t 37))]
def PW : List XI := [J 40 (.move (.t 0)), J 41 (.call FX [(.t 40)]), J 39 (.move (.t 41)), J 42 (.extract (.t 39) 0), J 43 (.extract (.t 39) 1), J 8 (.move (.t 42)), J 9 (.move (.t 43))]
def Md : List XI := [J 44 (.move (.t 9)), J 45 (.bin .eql (.t 44) (kI 0)), J 46 (.move (.t 45)), Jf 47 46 (.move (.t 9)), Jf 48 46 (.move (.t 1)), Jf 49 46 (.bin .lss (.t 47) (.t 48)), J 50 (.pick (.t 46) kT (.t 49))]
def LK : List XI := [J 51 (.move (.t 50)), Jf 52 51 (.move (.t 9)), Jf 53 51 (.move (.t 6)), Jf 54 51 (.bin .gtr (.t 52) (.t 53)), J 55 (.pick (.t 51) kT (.t 54))]
def NX : List XI := Md ++ (LK)
def Pc : List XI := [J 56 (.load true 6 (.t 5)), { dst := none, op := .store 6 (.t 4) (.t 56) }]
def Nv : List XI := [J 57 (.move (.t 0)), J 58 (.nilCheck (.t 57)), J 59 (.fieldAddr 1 (.t 58)), J 60 (.load false 1 (.t 59)), J 61 (.bin .add (.t 60) (kI 1)), J 62 (.nilCheck (.t 57)), J 63 (.fieldAddr 1 (.t 62)), { dst := none, op := .store 1 (.t 63) (.t 61) }]
def Od : List XI := [J 64 (.move (.t 9)), J 65 (.bin .add (.t 64) (kI 1)), J 10 (.move (.t 65))]
def OE : List XI := [J 66 (.move (.t 9)), J 67 (.bin .eql (.t 66) (kI 2))]
def N9 : List XI := [J 10 (.move (kI 2))]
def O8 : List XI := [J 11 (.alloc [(.d (.int .i64 0)), (.d (.int .i64 0)), (.d (.str ⟨#[]⟩)), (.d (.str ⟨#[]⟩)), (.d (.str ⟨#[]⟩)), (.ex [])])]
def NG : List XI := [J 68 (.move (.t 9)), J 69 (.bin .eql (.t 68) (kI 2))]
def OV : List XI := [J 70 (.move (.t 0)), J 71 (.call KB [(.t 70)]), { dst := none, op := .store 6 (.t 11) (.t 71) }]
def Ql : List XI := [J 72 (.move (.t 9)), J 73 (.bin .eql (.t 72) (kI 1))]
def OJ : List XI := [J 74 (.move (.t 0)), J 75 (.call Bb [(.t 74), (kI 2)]), { dst := none, op := .store 6 (.t 11) (.t 75) }]
def Pl : List XI := [J 76 (.move (.t 0)), J 77 (.move (.t 10)), J 78 (.call Bb [(.t 76), (.t 77)]), { dst := none, op := .store 6 (.t 11) (.t 78) }]
def Qa : List XI := [J 79 (.move (.t 8)), J 80 (.load true 6 (.t 5)), J 81 (.load true 6 (.t 11)), J 82 (.buildSlice 6 [(.t 80), (.t 81)]), J 83 (.build [(.d (.int .i64 0)), (.d (.int .i64 0)), (.d (.str ⟨#[]⟩)), (.d (.str ⟨#[]⟩)), (.d (.str ⟨#[]⟩)), (.ex [])] [(0, 1, (.t 79)), (5, 1, (.t 82))]), { dst := none, op := .store 6 (.t 5) (.t 83) }]
def Qk : List XI := [J 84 (.move (.t 9)), J 6 (.move (.t 84))]
def Pu : List XI := [J 85 (.move (.t 9)), J 86 (.bin .eql (.t 85) (kI 3))]
def Nx : List XI := [J 6 (.move (kI 2))]
def N6 : XC :=
 (.seq (sr Pf
 (.cond (.t 38)
 .skip
 (.exit 0)))
 (.block 1 (sr PW
 (.seq (sr NX
 (.cond (.t 55)
 (sr Pc
 .ret)
 .skip))
 (sr Nv
 (sr Od
 (.seq (sr OE
 (.cond (.t 67)
 (.region N9)
 .skip))
 (sr O8
 (.seq (sr NG
 (.cond (.t 69)
 (.region OV)
 (sr Ql
 (.cond (.t 73)
 (.region OJ)
 (.region Pl)))))
 (sr Qa
 (sr Qk
 (sr Pu
 (.cond (.t 86)
 (.region Nx)
 .skip)))))))))))))
def PI : List XI := [J 87 (.load true 6 (.t 5)), { dst := none, op := .store 6 (.t 4) (.t 87) }]
def JC : XC :=
 (sr Rf
 (sr Rv
 (sr Ra
 (.seq (sr Ri
 (.cond (.t 17)
 (sr QZ
 (sr QL
 (sr RE
 (sr RQ
 (.region Rc)))))
 (.region RK)))
 (.seq (.block 0 (.loop N6))
 (sr PI
 .ret))))))
theorem Us : Fn PR Bb 88 JC [.cell 4 true 6] := mF Tryz.call81 Tryz.func81 rfl rfl (by kernel_rfl) (by kernel_rfl)
def BJ0 : List XI := [J 1 (.box (.t 0)), J 2 (.move (kI 0)), J 3 (.move (kI 0))]
def BL6 : List XI := [J 4 (.move (kI 1)), J 5 (.move (kI 1))]
def BN4 : List XI := [J 6 (.move (kI 0))]
def BK1 : List XI := [J 9 (.move (.t 6)), J 10 (.fieldAddr 5 (.t 1)), J 11 (.load false 1 (.t 10)), J 12 (.lenR (.t 11)), J 13 (.bin .lss (.t 9) (.t 12))]
def BI9 : List XI := [J 17 (.fieldAddr 5 (.t 1)), J 18 (.load false 1 (.t 17)), J 19 (.move (.t 6)), J 20 (.indexAddr 6 (.t 18) (.t 19)), J 21 (.load true 6 (.t 20)), J 22 (.call Bc7 [(.t 21)]), J 16 (.move (.t 22)), J 23 (.extract (.t 16) 0), J 24 (.extract (.t 16) 1), J 7 (.move (.t 23)), J 8 (.move (.t 24))]
def BL0 : List XI := [J 25 (.move (.t 4)), J 26 (.move (.t 7)), J 27 (.bin .add (.t 25) (.t 26)), J 4 (.move (.t 27))]
def BN2 : List XI := [J 28 (.move (.t 5)), J 29 (.move (.t 8)), J 30 (.bin .add (.t 29) (kI 1)), J 31 (.minmax true (.t 28) [(.t 30)]), J 5 (.move (.t 31))]
def BJ2 : List XI := [J 14 (.move (.t 6)), J 15 (.bin .add (.t 14) (kI 1)), J 6 (.move (.t 15))]
def BH0 : XC :=
 (.seq (sr BK1
 (.cond (.t 13)
 .skip
 (.exit 0)))
 (.seq (.block 1 (sr BI9
 (sr BL0
 (.region BN2))))
 (.region BJ2)))
def BJ3 : List XI := [J 32 (.move (.t 4)), J 33 (.move (.t 5)), J 2 (.move (.t 32)), J 3 (.move (.t 33))]
def BO9 : XC :=
 (sr BJ0
 (sr BL6
 (.seq (sr BN4
 (.block 0 (.loop BH0)))
 (sr BJ3
 .ret))))
theorem Cd7 : Fn PR Bc7 34 BO9 [.tmp 2, .tmp 3] := mF Tryz.call82 Tryz.func82 rfl rfl (by kernel_rfl) (by kernel_rfl)
def Y9 : List XI := [J 1 (.box (.t 0)), J 2 (.move kF)]
def YN : List XI := [J 6 (.fieldAddr 0 (.t 1)), J 7 (.load false 1 (.t 6)), J 8 (.build [(.d (.int .i64 0)), (.d (.int .i64 0)), (.d (.str ⟨#[]⟩)), (.d (.str ⟨#[]⟩)), (.d (.str ⟨#[]⟩)), (.ex [])] [(0, 1, (.t 7))]), J 3 (.alloc [(.d (.int .i64 0)), (.d (.int .i64 0)), (.d (.str ⟨#[]⟩)), (.d (.str ⟨#[]⟩)), (.d (.str ⟨#[]⟩)), (.ex [])]), { dst := none, op := .store 6 (.t 3) (.t 8) }]
def Zd : List XI := [J 4 (.move (kI 0))]
def Zg : List XI := [J 10 (.fieldAddr 0 (.t 1)), J 11 (.load false 1 (.t 10)), J 12 (.bin .eql (.t 11) (kI 1)), J 9 (.move (.t 12))]
def Y7 : List XI := [J 13 (.fieldAddr 1 (.t 1)), J 14 (.load false 1 (.t 13)), J 15 (.minmax true (.t 14) [(kI 0)]), J 16 (.fieldAddr 1 (.t 3)), { dst := none, op := .store 1 (.t 16) (.t 15) }]
def YR : List XI := [J 18 (.fieldAddr 0 (.t 1)), J 19 (.load false 1 (.t 18)), J 20 (.bin .eql (.t 19) (kI 2)), J 17 (.move (.t 20))]
def YU : List XI := [J 21 (.fieldAddr 2 (.t 1)), J 22 (.load false 1 (.t 21)), J 23 (.fieldAddr 2 (.t 3)), { dst := none, op := .store 1 (.t 23) (.t 22) }]
def YM : List XI := [J 24 (.fieldAddr 2 (.t 1)), J 25 (.load false 1 (.t 24)), J 26 (.lenS (.t 25)), J 27 (.bin .gtr (.t 26) (kI 200))]
def Za : List XI := [J 2 (.move kF)]
def YQ : List XI := [J 29 (.fieldAddr 0 (.t 1)), J 30 (.load false 1 (.t 29)), J 31 (.bin .eql (.t 30) (kI 3)), J 28 (.move (.t 31))]
def Wy : List XI := [J 32 (.fieldAddr 1 (.t 1)), J 33 (.load false 1 (.t 32)), J 34 (.minmax true (.t 33) [(kI 0)]), J 35 (.minmax false (.t 34) [(kI 1)]), J 36 (.fieldAddr 1 (.t 3)), { dst := none, op := .store 1 (.t 36) (.t 35) }]
def SN : List XI := [J 38 (.fieldAddr 0 (.t 1)), J 39 (.load false 1 (.t 38)), J 40 (.bin .eql (.t 39) (kI 4)), J 41 (.move (.t 40)), Jf 42 41 (.fieldAddr 0 (.t 1)), Jf 43 41 (.load false 1 (.t 42)), Jf 44 41 (.bin .eql (.t 43) (kI 5)), J 45 (.pick (.t 41) kT (.t 44))]
def Sx : List XI := [J 46 (.move (.t 45)), Jf 47 46 (.fieldAddr 0 (.t 1)), Jf 48 46 (.load false 1 (.t 47)), Jf 49 46 (.bin .geq (.t 48) (kI 21)), Jf 50 46 (.move (.t 49)), Jt 51 50 (.fieldAddr 0 (.t 1)), Jt 52 50 (.load false 1 (.t 51)), Jt 53 50 (.bin .leq (.t 52) (kI 24)), Jf 54 46 (.pick (.t 50) (.t 53) kF), J 55 (.pick (.t 46) kT (.t 54))]
def G6 : List XI := [J 37 (.move (.t 55))]
def WX : List XI := SN ++ (Sx ++ (G6))
def Vi : List XI := [J 56 (.fieldAddr 3 (.t 1)), J 57 (.load false 1 (.t 56)), J 58 (.fieldAddr 3 (.t 3)), { dst := none, op := .store 1 (.t 58) (.t 57) }]
def We : List XI := [J 59 (.fieldAddr 3 (.t 1)), J 60 (.load false 1 (.t 59)), J 61 (.call JJ [(.t 60)]), J 62 (.not (.t 61))]
def Wl : List XI := [J 2 (.move kF)]
def Wp : List XI := [J 63 (.fieldAddr 0 (.t 1)), J 64 (.load false 1 (.t 63)), J 65 (.bin .eql (.t 64) (kI 5))]
def Wc : List XI := [J 66 (.fieldAddr 2 (.t 1)), J 67 (.load false 1 (.t 66)), J 68 (.fieldAddr 2 (.t 3)), { dst := none, op := .store 1 (.t 68) (.t 67) }]
def V8 : List XI := [J 69 (.fieldAddr 2 (.t 1)), J 70 (.load false 1 (.t 69)), J 71 (.call JJ [(.t 70)]), J 72 (.not (.t 71))]
def Vm : List XI := [J 2 (.move kF)]
def Vj : List XI := [J 73 (.fieldAddr 0 (.t 1)), J 74 (.load false 1 (.t 73)), J 75 (.bin .gtr (.t 74) (kI 5))]
def WZ : List XI := [J 76 (.fieldAddr 4 (.t 1)), J 77 (.load false 1 (.t 76)), J 78 (.fieldAddr 4 (.t 3)), { dst := none, op := .store 1 (.t 78) (.t 77) }]
def V1 : List XI := [J 4 (.move (kI 2))]
def Vu : List XI := [J 79 (.fieldAddr 0 (.t 1)), J 80 (.load false 1 (.t 79)), J 81 (.bin .eql (.t 80) (kI 21))]
def Wz : List XI := [J 4 (.move (kI 1))]
def VN : List XI := [J 82 (.fieldAddr 4 (.t 1)), J 83 (.load false 1 (.t 82)), J 84 (.call JJ [(.t 83)]), J 85 (.not (.t 84))]
def Vn : List XI := [J 2 (.move kF)]
def SB : List XI := [J 87 (.fieldAddr 0 (.t 1)), J 88 (.load false 1 (.t 87)), J 89 (.bin .geq (.t 88) (kI 6)), J 90 (.move (.t 89)), Jt 91 90 (.fieldAddr 0 (.t 1)), Jt 92 90 (.load false 1 (.t 91)), Jt 93 90 (.bin .leq (.t 92) (kI 18)), J 94 (.pick (.t 90) (.t 93) kF)]
def JN : List XI := [J 86 (.move (.t 94))]
def WW : List XI := SB ++ (JN)
def Wv : List XI := [J 4 (.move (kI 2))]
def Tm : List XI := [J 96 (.fieldAddr 0 (.t 1)), J 97 (.load false 1 (.t 96)), J 98 (.bin .eql (.t 97) (kI 19)), J 99 (.move (.t 98)), Jf 100 99 (.fieldAddr 0 (.t 1)), Jf 101 99 (.load false 1 (.t 100)), Jf 102 99 (.bin .eql (.t 101) (kI 20)), J 103 (.pick (.t 99) kT (.t 102))]
def JT : List XI := [J 95 (.move (.t 103))]
def Vo : List XI := Tm ++ (JT)
def Mo : List XI := [J 4 (.move (kI 1))]
def Wu : List XI := [J 2 (.move kF)]
def Sk : List XI := [J 104 (.fieldAddr 1 (.t 1)), J 105 (.load false 1 (.t 104)), J 106 (.fieldAddr 1 (.t 3)), J 107 (.load false 1 (.t 106)), J 108 (.bin .neq (.t 105) (.t 107)), J 109 (.move (.t 108)), Jf 110 109 (.fieldAddr 2 (.t 1)), Jf 111 109 (.load false 1 (.t 110)), Jf 112 109 (.fieldAddr 2 (.t 3)), Jf 113 109 (.load false 1 (.t 112)), Jf 114 109 (.bin .neq (.t 111) (.t 113)), J 115 (.pick (.t 109) kT (.t 114))]
def So : List XI := [J 116 (.move (.t 115)), Jf 117 116 (.fieldAddr 3 (.t 1)), Jf 118 116 (.load false 1 (.t 117)), Jf 119 116 (.fieldAddr 3 (.t 3)), Jf 120 116 (.load false 1 (.t 119)), Jf 121 116 (.bin .neq (.t 118) (.t 120)), J 122 (.pick (.t 116) kT (.t 121))]
def S2 : List XI := [J 123 (.move (.t 122)), Jf 124 123 (.fieldAddr 4 (.t 1)), Jf 125 123 (.load false 1 (.t 124)), Jf 126 123 (.fieldAddr 4 (.t 3)), Jf 127 123 (.load false 1 (.t 126)), Jf 128 123 (.bin .neq (.t 125) (.t 127)), J 129 (.pick (.t 123) kT (.t 128))]
def SO : List XI := [J 130 (.move (.t 129)), Jf 131 130 (.fieldAddr 5 (.t 1)), Jf 132 130 (.load false 1 (.t 131)), Jf 133 130 (.lenR (.t 132)), Jf 134 130 (.move (.t 4)), Jf 135 130 (.bin .neq (.t 133) (.t 134)), J 136 (.pick (.t 130) kT (.t 135))]
def WB : List XI := Sk ++ (So ++ (S2 ++ (SO)))
def VM : List XI := [J 2 (.move kF)]
def Vf : List XI := [J 5 (.move (kI 0))]
def VP : List XI := [J 137 (.move (.t 5)), J 138 (.move (.t 4)), J 139 (.bin .lss (.t 137) (.t 138))]
def W0 : List XI := [J 142 (.fieldAddr 5 (.t 1)), J 143 (.load false 1 (.t 142)), J 144 (.move (.t 5)), J 145 (.indexAddr 6 (.t 143) (.t 144)), J 146 (.load true 6 (.t 145)), J 147 (.call FT [(.t 146)]), J 148 (.not (.t 147))]
def Vd : List XI := [J 2 (.move kF)]
def V3 : List XI := [J 140 (.move (.t 5)), J 141 (.bin .add (.t 140) (kI 1)), J 5 (.move (.t 141))]
def Vv : XC :=
 (.seq (sr VP
 (.cond (.t 139)
 .skip
 (.exit 1)))
 (.seq (.block 2 (sr W0
 (.cond (.t 148)
 (sr Vd
 .ret)
 .skip)))
 (.region V3)))
def Wo : List XI := [J 2 (.move kT)]
def Ym : XC :=
 (sr Y9
 (sr YN
 (sr Zd
 (.seq (.block 0 (sr Zg
 (.cond (.t 9)
 (.region Y7)
 (sr YR
 (.cond (.t 17)
 (sr YU
 (sr YM
 (.cond (.t 27)
 (sr Za
 .ret)
 .skip)))
 (sr YQ
 (.cond (.t 28)
 (.region Wy)
 (sr WX
 (.cond (.t 37)
 (sr Vi
 (.seq (sr We
 (.cond (.t 62)
 (sr Wl
 .ret)
 .skip))
 (.seq (sr Wp
 (.cond (.t 65)
 (sr Wc
 (sr V8
 (.cond (.t 72)
 (sr Vm
 .ret)
 .skip)))
 .skip))
 (sr Vj
 (.cond (.t 75)
 (sr WZ
 (sr V1
 (.seq (sr Vu
 (.cond (.t 81)
 (.region Wz)
 .skip))
 (sr VN
 (.cond (.t 85)
 (sr Vn
 .ret)
 .skip)))))
 .skip)))))
 (sr WW
 (.cond (.t 86)
 (.region Wv)
 (sr Vo
 (.cond (.t 95)
 (.region Mo)
 (sr Wu
 .ret))))))))))))))
 (.seq (sr WB
 (.cond (.t 136)
 (sr VM
 .ret)
 .skip))
 (.seq (sr Vf
 (.block 1 (.loop Vv)))
 (sr Wo
 .ret)))))))
theorem AH2 : Fn PR FT 149 Ym [.tmp 2] := mF Tryz.call83 Tryz.func83 rfl rfl (by kernel_rfl) (by kernel_rfl)
def Bh5 : List XI := [J 4 (.move (kI 0))]
def Bm6 : List XI := [J 5 (.move (.t 1)), J 6 (.bin .eql (.t 5) (kI 0))]
def Bm0 : List XI := [J 4 (.move (kI (-1)))]
def Bl3 : List XI := [J 7 (.move (.t 1)), J 8 (.bin .sub (.t 7) (kI 1)), J 9 (.move (.t 0)), J 10 (.toInt .u64 (.t 9)), J 11 (.move (.t 1)), J 12 (.toInt .u64 (.t 11)), J 13 (.bin .rem (.t 10) (.t 12)), J 14 (.toInt .i64 (.t 13)), J 15 (.bin .sub (.t 8) (.t 14)), J 4 (.move (.t 15))]
def BO6 : XC :=
 (sr Bh5
 (.seq (sr Bm6
 (.cond (.t 6)
 (sr Bm0
 .ret)
 .skip))
 (sr Bl3
 .ret)))
theorem Cc8 : Fn PR Am9 16 BO6 [.tmp 4] := mF Tryz.call84 Tryz.func84 rfl rfl (by kernel_rfl) (by kernel_rfl)
def Be6 : List XI := [J 2 (.move kF)]
def AI0 : List XI := [J 3 (.move (.t 0)), J 4 (.call E1 [(.t 3)]), J 5 (.move (.t 4)), Jt 6 5 (.move (.t 0)), Jt 7 5 (.call M9 [(.t 6)]), Jt 8 5 (.not (.t 7)), J 9 (.pick (.t 5) (.t 8) kF)]
def Yx : List XI := [J 2 (.move (.t 9))]
def Bg1 : List XI := AI0 ++ (Yx)
def Bt5 : XC :=
 (sr Be6
 (sr Bg1
 .ret))
theorem BQ3 : Fn PR JJ 10 Bt5 [.tmp 2] := mF Tryz.call85 Tryz.func85 rfl rfl (by kernel_rfl) (by kernel_rfl)
def AX7 : List XI := [J 1 (.box (.t 0)), J 2 (.move kF)]
def AS1 : List XI := [J 10 (.fieldAddr 0 (.t 1)), J 11 (.load false 1 (.t 10)), J 12 (.bin .lss (.t 11) (kI 1)), J 13 (.move (.t 12)), Jf 14 13 (.fieldAddr 0 (.t 1)), Jf 15 13 (.load false 1 (.t 14)), Jf 16 13 (.bin .gtr (.t 15) (kI 10)), J 17 (.pick (.t 13) kT (.t 16))]
def AV0 : List XI := [J 2 (.move kF)]
def AR7 : List XI := [J 18 (.buildSlice 1 [(kS #[]), (kS #[110]), (kS #[110]), (kS #[115]), (kS #[110, 115, 99]), (kS #[110, 115]), (kS #[110, 115, 78, 98]), (kS #[98, 101]), (kS #[115]), (kS #[]), (kS #[])]), J 3 (.move (.t 18))]
def AT1 : List XI := [J 19 (.move (.t 3)), J 20 (.fieldAddr 0 (.t 1)), J 21 (.load false 1 (.t 20)), J 22 (.indexAddr 1 (.t 19) (.t 21)), J 23 (.load false 1 (.t 22)), J 4 (.move (.t 23))]
def AR5 : List XI := [J 24 (.move (.t 4)), J 25 (.call Ah2 [(.t 24), (.c (.d (.int .u8 110)))]), J 26 (.fieldAddr 1 (.t 1)), J 27 (.load false 1 (.t 26)), J 28 (.bin .neq (.t 27) (kS #[])), J 29 (.eqBool true (.t 25) (.t 28)), J 30 (.move (.t 29)), Jf 31 30 (.move (.t 4)), { dst := some 32, op := .call Ah2 [(.t 31), (.c (.d (.int .u8 115)))], guard := some (30, false), nm := 1 }, Jf 33 30 (.fieldAddr 2 (.t 1)), Jf 34 30 (.load false 1 (.t 33)), Jf 35 30 (.bin .neq (.t 34) (kS #[])), Jf 36 30 (.eqBool true (.t 32) (.t 35)), J 37 (.pick (.t 30) kT (.t 36)), J 38 (.move (.t 37)), Jf 39 38 (.move (.t 4)), { dst := some 40, op := .call Ah2 [(.t 39), (.c (.d (.int .u8 110)))], guard := some (38, false), nm := 2 }, Jf 41 38 (.move (.t 40)), Jt 42 41 (.fieldAddr 1 (.t 1)), Jt 43 41 (.load false 1 (.t 42)), { dst := some 44, op := .call JJ [(.t 43)], guard := some (41, true), nm := 3 }, Jt 45 41 (.not (.t 44)), Jf 46 38 (.pick (.t 41) (.t 45) kF), J 47 (.pick (.t 38) kT (.t 46)), J 48 (.move (.t 47)), Jf 49 48 (.move (.t 4)), { dst := some 50, op := .call Ah2 [(.t 49), (.c (.d (.int .u8 115)))], guard := some (48, false), nm := 4 }, Jf 51 48 (.move (.t 50)), Jt 52 51 (.fieldAddr 2 (.t 1)), Jt 53 51 (.load false 1 (.t 52)), { dst := some 54, op := .call JJ [(.t 53)], guard := some (51, true), nm := 5 }, Jt 55 51 (.not (.t 54)), Jf 56 48 (.pick (.t 51) (.t 55) kF), J 57 (.pick (.t 48) kT (.t 56))]
def KG : List XI := [J 2 (.move kF)]
def AU7 : List XI := [J 58 (.move (.t 4)), J 59 (.call Ah2 [(.t 58), (.c (.d (.int .u8 99)))]), J 60 (.fieldAddr 4 (.t 1)), J 61 (.load false 1 (.t 60)), J 62 (.lenR (.t 61)), J 63 (.bin .gtr (.t 62) (kI 0)), J 64 (.eqBool true (.t 59) (.t 63)), J 65 (.move (.t 64)), Jf 66 65 (.fieldAddr 4 (.t 1)), Jf 67 65 (.load false 1 (.t 66)), Jf 68 65 (.lenR (.t 67)), Jf 69 65 (.bin .gtr (.t 68) (kI 8)), J 70 (.pick (.t 65) kT (.t 69)), J 71 (.move (.t 70)), Jf 72 71 (.move (.t 4)), { dst := some 73, op := .call Ah2 [(.t 72), (.c (.d (.int .u8 78)))], guard := some (71, false), nm := 1 }, Jf 74 71 (.not (.t 73)), Jf 75 71 (.move (.t 74)), Jt 76 75 (.fieldAddr 3 (.t 1)), Jt 77 75 (.load false 1 (.t 76)), Jt 78 75 (.bin .neq (.t 77) (kI 0)), Jf 79 71 (.pick (.t 75) (.t 78) kF), J 80 (.pick (.t 71) kT (.t 79)), J 81 (.move (.t 80)), Jf 82 81 (.fieldAddr 3 (.t 1)), Jf 83 81 (.load false 1 (.t 82)), Jf 84 81 (.bin .lss (.t 83) (kI 0)), J 85 (.pick (.t 81) kT (.t 84)), J 86 (.move (.t 85)), Jf 87 86 (.fieldAddr 3 (.t 1)), Jf 88 86 (.load false 1 (.t 87)), Jf 89 86 (.bin .gtr (.t 88) (kI 1000)), J 90 (.pick (.t 86) kT (.t 89)), J 91 (.move (.t 90)), Jf 92 91 (.move (.t 4)), { dst := some 93, op := .call Ah2 [(.t 92), (.c (.d (.int .u8 98)))], guard := some (91, false), nm := 2 }, Jf 94 91 (.not (.t 93)), Jf 95 91 (.move (.t 94)), Jt 96 95 (.fieldAddr 6 (.t 1)), Jt 97 95 (.load false 1 (.t 96)), Jt 98 95 (.lenR (.t 97)), Jt 99 95 (.bin .gtr (.t 98) (kI 0)), Jf 100 91 (.pick (.t 95) (.t 99) kF), J 101 (.pick (.t 91) kT (.t 100)), J 102 (.move (.t 101)), Jf 103 102 (.move (.t 4)), { dst := some 104, op := .call Ah2 [(.t 103), (.c (.d (.int .u8 101)))], guard := some (102, false), nm := 3 }, Jf 105 102 (.not (.t 104)), Jf 106 102 (.move (.t 105)), Jt 107 106 (.fieldAddr 7 (.t 1)), Jt 108 106 (.load false 1 (.t 107)), Jt 109 106 (.lenR (.t 108)), Jt 110 106 (.bin .gtr (.t 109) (kI 0)), Jf 111 102 (.pick (.t 106) (.t 110) kF), J 112 (.pick (.t 102) kT (.t 111))]
def Df : List XI := [J 2 (.move kF)]
def AR6 : List XI := [J 5 (.move (kI 0))]
def Av2 : List XI := [J 113 (.move (.t 5)), J 114 (.fieldAddr 4 (.t 1)), J 115 (.load false 1 (.t 114)), J 116 (.lenR (.t 115)), J 117 (.bin .lss (.t 113) (.t 116))]
def AE9 : List XI := [J 120 (.fieldAddr 4 (.t 1)), J 121 (.load false 1 (.t 120)), J 122 (.move (.t 5)), J 123 (.indexAddr 1 (.t 121) (.t 122)), J 124 (.load false 1 (.t 123)), J 125 (.call JJ [(.t 124)]), J 126 (.not (.t 125))]
def AK3 : List XI := [J 2 (.move kF)]
def AG3 : List XI := [J 6 (.move (kI 0))]
def AF8 : List XI := [J 127 (.move (.t 6)), J 128 (.move (.t 5)), J 129 (.bin .lss (.t 127) (.t 128))]
def AN5 : List XI := [J 132 (.fieldAddr 4 (.t 1)), J 133 (.load false 1 (.t 132)), J 134 (.move (.t 6)), J 135 (.indexAddr 1 (.t 133) (.t 134)), J 136 (.load false 1 (.t 135)), J 137 (.fieldAddr 4 (.t 1)), J 138 (.load false 1 (.t 137)), J 139 (.move (.t 5)), J 140 (.indexAddr 1 (.t 138) (.t 139)), J 141 (.load false 1 (.t 140)), J 142 (.bin .eql (.t 136) (.t 141))]
def AE8 : List XI := [J 2 (.move kF)]
def AE7 : List XI := [J 130 (.move (.t 6)), J 131 (.bin .add (.t 130) (kI 1)), J 6 (.move (.t 131))]
def Av4 : XC :=
 (.seq (sr AF8
 (.cond (.t 129)
 .skip
 (.exit 2)))
 (.seq (.block 3 (.seq (.regionS AN5 0)
 (.cond (.t 142)
 (sr AE8
 .ret)
 .skip)))
 (.region AE7)))
def AD7 : List XI := [J 118 (.move (.t 5)), J 119 (.bin .add (.t 118) (kI 1)), J 5 (.move (.t 119))]
def AC5 : XC :=
 (.seq (sr Av2
 (.cond (.t 117)
 .skip
 (.exit 0)))
 (.seq (.block 1 (.seq (sr AE9
 (.cond (.t 126)
 (sr AK3
 .ret)
 .skip))
 (sr AG3
 (.block 2 (.loop Av4)))))
 (.region AD7)))
def Ay0 : List XI := [J 143 (.fieldAddr 5 (.t 1)), J 144 (.load false 1 (.t 143)), J 145 (.lenR (.t 144)), J 7 (.move (.t 145))]
def Aj1 : List XI := [J 146 (.fieldAddr 0 (.t 1)), J 147 (.load false 1 (.t 146)), J 148 (.bin .eql (.t 147) (kI 3)), J 149 (.move (.t 148)), Jf 150 149 (.fieldAddr 0 (.t 1)), Jf 151 149 (.load false 1 (.t 150)), Jf 152 149 (.bin .eql (.t 151) (kI 8)), J 153 (.pick (.t 149) kT (.t 152))]
def SR : List XI := [J 154 (.move (.t 153)), Jf 155 154 (.fieldAddr 0 (.t 1)), Jf 156 154 (.load false 1 (.t 155)), Jf 157 154 (.bin .eql (.t 156) (kI 10)), J 158 (.pick (.t 154) kT (.t 157))]
def Lu : List XI := [J 8 (.move (.t 158))]
def AA1 : List XI := Aj1 ++ (SR ++ (Lu))
def Aj4 : List XI := [J 159 (.move (.t 8)), J 160 (.move (.t 159)), Jt 161 160 (.move (.t 7)), Jt 162 160 (.bin .lss (.t 161) (kI 1)), Jt 163 160 (.move (.t 162)), Jf 164 163 (.move (.t 7)), Jf 165 163 (.bin .gtr (.t 164) (kI 8)), Jt 166 160 (.pick (.t 163) kT (.t 165)), J 167 (.pick (.t 160) (.t 166) kF)]
def Ac5 : List XI := [J 168 (.move (.t 167)), Jf 169 168 (.move (.t 8)), Jf 170 168 (.not (.t 169)), Jf 171 168 (.move (.t 170)), Jt 172 171 (.move (.t 7)), Jt 173 171 (.fieldAddr 4 (.t 1)), Jt 174 171 (.load false 1 (.t 173)), Jt 175 171 (.lenR (.t 174)), Jt 176 171 (.bin .add (kI 1) (.t 175)), Jt 177 171 (.bin .neq (.t 172) (.t 176)), Jf 178 168 (.pick (.t 171) (.t 177) kF), J 179 (.pick (.t 168) kT (.t 178))]
def Aw8 : List XI := Aj4 ++ (Ac5)
def Yj : List XI := [J 2 (.move kF)]
def Ay3 : List XI := [J 9 (.move (kI 0))]
def AH9 : List XI := [J 180 (.move (.t 9)), J 181 (.move (.t 7)), J 182 (.bin .lss (.t 180) (.t 181))]
def AC8 : List XI := [J 185 (.fieldAddr 5 (.t 1)), J 186 (.load false 1 (.t 185)), J 187 (.move (.t 9)), J 188 (.indexAddr 6 (.t 186) (.t 187)), J 189 (.load true 6 (.t 188)), J 190 (.call FT [(.t 189)]), J 191 (.not (.t 190))]
def Aw2 : List XI := [J 2 (.move kF)]
def AE3 : List XI := [J 183 (.move (.t 9)), J 184 (.bin .add (.t 183) (kI 1)), J 9 (.move (.t 184))]
def AL0 : XC :=
 (.seq (sr AH9
 (.cond (.t 182)
 .skip
 (.exit 4)))
 (.seq (.block 5 (sr AC8
 (.cond (.t 191)
 (sr Aw2
 .ret)
 .skip)))
 (.region AE3)))
def Af5 : List XI := [J 192 (.fieldAddr 6 (.t 1)), J 193 (.load false 1 (.t 192)), J 194 (.call Gx [(.t 193)]), J 195 (.move (.t 194)), Jt 196 195 (.fieldAddr 7 (.t 1)), Jt 197 195 (.load false 1 (.t 196)), Jt 198 195 (.call Gx [(.t 197)]), J 199 (.pick (.t 195) (.t 198) kF)]
def SP : List XI := [J 2 (.move (.t 199))]
def AM8 : List XI := Af5 ++ (SP)
def Bi6 : XC :=
 (sr AX7
 (.seq (sr AS1
 (.cond (.t 17)
 (sr AV0
 .ret)
 .skip))
 (sr AR7
 (sr AT1
 (.seq (.seq (.regionD AR5 [[], [0], [], [2], [3, 2], [1, 0, 4, 3, 2], [5, 1, 0, 4, 3, 2], [6, 5, 1, 0, 4, 3, 2], [7, 6, 5, 1, 0, 4, 3, 2], [6, 5, 1, 0, 4, 3, 2], [9, 6, 5, 1, 0, 4, 3, 2], [10, 9, 6, 5, 1, 0, 4, 3, 2], [8, 7, 6, 5, 1, 0, 4, 3, 2, 11, 10, 9], [6, 5, 1, 0, 4, 3, 2, 12, 8, 7, 11, 10, 9], [13, 6, 5, 1, 0, 4, 3, 2, 12, 8, 7, 11, 10, 9], [14, 13, 6, 5, 1, 0, 4, 3, 2, 12, 8, 7, 11, 10, 9], [15, 14, 13, 6, 5, 1, 0, 4, 3, 2, 12, 8, 7, 11, 10, 9], [16, 15, 14, 13, 6, 5, 1, 0, 4, 3, 2, 12, 8, 7, 11, 10, 9], [17, 16, 15, 14, 13, 6, 5, 1, 0, 4, 3, 2, 12, 8, 7, 11, 10, 9], [18, 17, 16, 15, 14, 13, 6, 5, 1, 0, 4, 3, 2, 12, 8, 7, 11, 10, 9], [19, 18, 17, 16, 15, 14, 13, 6, 5, 1, 0, 4, 3, 2, 12, 8, 7, 11, 10, 9], [20, 19, 18, 17, 16, 15, 14, 13, 6, 5, 1, 0, 4, 3, 2, 12, 8, 7, 11, 10, 9], [17, 16, 15, 14, 13, 6, 5, 1, 0, 4, 3, 2, 12, 8, 7, 11, 10, 9, 21, 20, 19, 18], [14, 13, 6, 5, 1, 0, 4, 3, 2, 12, 8, 7, 11, 10, 9, 22, 17, 16, 15, 21, 20, 19, 18], [23, 14, 13, 6, 5, 1, 0, 4, 3, 2, 12, 8, 7, 11, 10, 9, 22, 17, 16, 15, 21, 20, 19, 18], [24, 23, 14, 13, 6, 5, 1, 0, 4, 3, 2, 12, 8, 7, 11, 10, 9, 22, 17, 16, 15, 21, 20, 19, 18], [25, 24, 23, 14, 13, 6, 5, 1, 0, 4, 3, 2, 12, 8, 7, 11, 10, 9, 22, 17, 16, 15, 21, 20, 19, 18], [26, 25, 24, 23, 14, 13, 6, 5, 1, 0, 4, 3, 2, 12, 8, 7, 11, 10, 9, 22, 17, 16, 15, 21, 20, 19, 18], [27, 26, 25, 24, 23, 14, 13, 6, 5, 1, 0, 4, 3, 2, 12, 8, 7, 11, 10, 9, 22, 17, 16, 15, 21, 20, 19, 18], [28, 27, 26, 25, 24, 23, 14, 13, 6, 5, 1, 0, 4, 3, 2, 12, 8, 7, 11, 10, 9, 22, 17, 16, 15, 21, 20, 19, 18], [29, 28, 27, 26, 25, 24, 23, 14, 13, 6, 5, 1, 0, 4, 3, 2, 12, 8, 7, 11, 10, 9, 22, 17, 16, 15, 21, 20, 19, 18], [30, 29, 28, 27, 26, 25, 24, 23, 14, 13, 6, 5, 1, 0, 4, 3, 2, 12, 8, 7, 11, 10, 9, 22, 17, 16, 15, 21, 20, 19, 18], [27, 26, 25, 24, 23, 14, 13, 6, 5, 1, 0, 4, 3, 2, 12, 8, 7, 11, 10, 9, 22, 17, 16, 15, 21, 20, 19, 18, 31, 30, 29, 28], [24, 23, 14, 13, 6, 5, 1, 0, 4, 3, 2, 12, 8, 7, 11, 10, 9, 22, 17, 16, 15, 21, 20, 19, 18, 32, 27, 26, 25, 31, 30, 29, 28]] 6)
 (.cond (.t 57)
 (sr KG
 .ret)
 .skip))
 (.seq (.seq (.regionD AU7 [[], [0], [], [2], [3, 2], [4, 3, 2], [1, 0, 5, 4, 3, 2], [6, 1, 0, 5, 4, 3, 2], [7, 6, 1, 0, 5, 4, 3, 2], [8, 7, 6, 1, 0, 5, 4, 3, 2], [9, 8, 7, 6, 1, 0, 5, 4, 3, 2], [10, 9, 8, 7, 6, 1, 0, 5, 4, 3, 2], [7, 6, 1, 0, 5, 4, 3, 2, 11, 10, 9, 8], [12, 7, 6, 1, 0, 5, 4, 3, 2, 11, 10, 9, 8], [13, 12, 7, 6, 1, 0, 5, 4, 3, 2, 11, 10, 9, 8], [14, 13, 12, 7, 6, 1, 0, 5, 4, 3, 2, 11, 10, 9, 8], [15, 14, 13, 12, 7, 6, 1, 0, 5, 4, 3, 2, 11, 10, 9, 8], [16, 15, 14, 13, 12, 7, 6, 1, 0, 5, 4, 3, 2, 11, 10, 9, 8], [17, 16, 15, 14, 13, 12, 7, 6, 1, 0, 5, 4, 3, 2, 11, 10, 9, 8], [18, 17, 16, 15, 14, 13, 12, 7, 6, 1, 0, 5, 4, 3, 2, 11, 10, 9, 8], [19, 18, 17, 16, 15, 14, 13, 12, 7, 6, 1, 0, 5, 4, 3, 2, 11, 10, 9, 8], [17, 16, 15, 14, 13, 12, 7, 6, 1, 0, 5, 4, 3, 2, 11, 10, 9, 8, 20, 19, 18], [13, 12, 7, 6, 1, 0, 5, 4, 3, 2, 11, 10, 9, 8, 21, 17, 16, 15, 14, 20, 19, 18], [22, 13, 12, 7, 6, 1, 0, 5, 4, 3, 2, 11, 10, 9, 8, 21, 17, 16, 15, 14, 20, 19, 18], [23, 22, 13, 12, 7, 6, 1, 0, 5, 4, 3, 2, 11, 10, 9, 8, 21, 17, 16, 15, 14, 20, 19, 18], [24, 23, 22, 13, 12, 7, 6, 1, 0, 5, 4, 3, 2, 11, 10, 9, 8, 21, 17, 16, 15, 14, 20, 19, 18], [25, 24, 23, 22, 13, 12, 7, 6, 1, 0, 5, 4, 3, 2, 11, 10, 9, 8, 21, 17, 16, 15, 14, 20, 19, 18], [23, 22, 13, 12, 7, 6, 1, 0, 5, 4, 3, 2, 11, 10, 9, 8, 21, 17, 16, 15, 14, 20, 19, 18, 26, 25, 24], [27, 23, 22, 13, 12, 7, 6, 1, 0, 5, 4, 3, 2, 11, 10, 9, 8, 21, 17, 16, 15, 14, 20, 19, 18, 26, 25, 24], [28, 27, 23, 22, 13, 12, 7, 6, 1, 0, 5, 4, 3, 2, 11, 10, 9, 8, 21, 17, 16, 15, 14, 20, 19, 18, 26, 25, 24], [29, 28, 27, 23, 22, 13, 12, 7, 6, 1, 0, 5, 4, 3, 2, 11, 10, 9, 8, 21, 17, 16, 15, 14, 20, 19, 18, 26, 25, 24], [30, 29, 28, 27, 23, 22, 13, 12, 7, 6, 1, 0, 5, 4, 3, 2, 11, 10, 9, 8, 21, 17, 16, 15, 14, 20, 19, 18, 26, 25, 24], [28, 27, 23, 22, 13, 12, 7, 6, 1, 0, 5, 4, 3, 2, 11, 10, 9, 8, 21, 17, 16, 15, 14, 20, 19, 18, 26, 25, 24, 31, 30, 29], [32, 28, 27, 23, 22, 13, 12, 7, 6, 1, 0, 5, 4, 3, 2, 11, 10, 9, 8, 21, 17, 16, 15, 14, 20, 19, 18, 26, 25, 24, 31, 30, 29], [33, 32, 28, 27, 23, 22, 13, 12, 7, 6, 1, 0, 5, 4, 3, 2, 11, 10, 9, 8, 21, 17, 16, 15, 14, 20, 19, 18, 26, 25, 24, 31, 30, 29], [34, 33, 32, 28, 27, 23, 22, 13, 12, 7, 6, 1, 0, 5, 4, 3, 2, 11, 10, 9, 8, 21, 17, 16, 15, 14, 20, 19, 18, 26, 25, 24, 31, 30, 29], [35, 34, 33, 32, 28, 27, 23, 22, 13, 12, 7, 6, 1, 0, 5, 4, 3, 2, 11, 10, 9, 8, 21, 17, 16, 15, 14, 20, 19, 18, 26, 25, 24, 31, 30, 29], [36, 35, 34, 33, 32, 28, 27, 23, 22, 13, 12, 7, 6, 1, 0, 5, 4, 3, 2, 11, 10, 9, 8, 21, 17, 16, 15, 14, 20, 19, 18, 26, 25, 24, 31, 30, 29], [37, 36, 35, 34, 33, 32, 28, 27, 23, 22, 13, 12, 7, 6, 1, 0, 5, 4, 3, 2, 11, 10, 9, 8, 21, 17, 16, 15, 14, 20, 19, 18, 26, 25, 24, 31, 30, 29], [38, 37, 36, 35, 34, 33, 32, 28, 27, 23, 22, 13, 12, 7, 6, 1, 0, 5, 4, 3, 2, 11, 10, 9, 8, 21, 17, 16, 15, 14, 20, 19, 18, 26, 25, 24, 31, 30, 29], [39, 38, 37, 36, 35, 34, 33, 32, 28, 27, 23, 22, 13, 12, 7, 6, 1, 0, 5, 4, 3, 2, 11, 10, 9, 8, 21, 17, 16, 15, 14, 20, 19, 18, 26, 25, 24, 31, 30, 29], [40, 39, 38, 37, 36, 35, 34, 33, 32, 28, 27, 23, 22, 13, 12, 7, 6, 1, 0, 5, 4, 3, 2, 11, 10, 9, 8, 21, 17, 16, 15, 14, 20, 19, 18, 26, 25, 24, 31, 30, 29], [37, 36, 35, 34, 33, 32, 28, 27, 23, 22, 13, 12, 7, 6, 1, 0, 5, 4, 3, 2, 11, 10, 9, 8, 21, 17, 16, 15, 14, 20, 19, 18, 26, 25, 24, 31, 30, 29, 41, 40, 39, 38], [33, 32, 28, 27, 23, 22, 13, 12, 7, 6, 1, 0, 5, 4, 3, 2, 11, 10, 9, 8, 21, 17, 16, 15, 14, 20, 19, 18, 26, 25, 24, 31, 30, 29, 42, 37, 36, 35, 34, 41, 40, 39, 38], [43, 33, 32, 28, 27, 23, 22, 13, 12, 7, 6, 1, 0, 5, 4, 3, 2, 11, 10, 9, 8, 21, 17, 16, 15, 14, 20, 19, 18, 26, 25, 24, 31, 30, 29, 42, 37, 36, 35, 34, 41, 40, 39, 38], [44, 43, 33, 32, 28, 27, 23, 22, 13, 12, 7, 6, 1, 0, 5, 4, 3, 2, 11, 10, 9, 8, 21, 17, 16, 15, 14, 20, 19, 18, 26, 25, 24, 31, 30, 29, 42, 37, 36, 35, 34, 41, 40, 39, 38], [45, 44, 43, 33, 32, 28, 27, 23, 22, 13, 12, 7, 6, 1, 0, 5, 4, 3, 2, 11, 10, 9, 8, 21, 17, 16, 15, 14, 20, 19, 18, 26, 25, 24, 31, 30, 29, 42, 37, 36, 35, 34, 41, 40, 39, 38], [46, 45, 44, 43, 33, 32, 28, 27, 23, 22, 13, 12, 7, 6, 1, 0, 5, 4, 3, 2, 11, 10, 9, 8, 21, 17, 16, 15, 14, 20, 19, 18, 26, 25, 24, 31, 30, 29, 42, 37, 36, 35, 34, 41, 40, 39, 38], [47, 46, 45, 44, 43, 33, 32, 28, 27, 23, 22, 13, 12, 7, 6, 1, 0, 5, 4, 3, 2, 11, 10, 9, 8, 21, 17, 16, 15, 14, 20, 19, 18, 26, 25, 24, 31, 30, 29, 42, 37, 36, 35, 34, 41, 40, 39, 38], [48, 47, 46, 45, 44, 43, 33, 32, 28, 27, 23, 22, 13, 12, 7, 6, 1, 0, 5, 4, 3, 2, 11, 10, 9, 8, 21, 17, 16, 15, 14, 20, 19, 18, 26, 25, 24, 31, 30, 29, 42, 37, 36, 35, 34, 41, 40, 39, 38], [49, 48, 47, 46, 45, 44, 43, 33, 32, 28, 27, 23, 22, 13, 12, 7, 6, 1, 0, 5, 4, 3, 2, 11, 10, 9, 8, 21, 17, 16, 15, 14, 20, 19, 18, 26, 25, 24, 31, 30, 29, 42, 37, 36, 35, 34, 41, 40, 39, 38], [50, 49, 48, 47, 46, 45, 44, 43, 33, 32, 28, 27, 23, 22, 13, 12, 7, 6, 1, 0, 5, 4, 3, 2, 11, 10, 9, 8, 21, 17, 16, 15, 14, 20, 19, 18, 26, 25, 24, 31, 30, 29, 42, 37, 36, 35, 34, 41, 40, 39, 38], [51, 50, 49, 48, 47, 46, 45, 44, 43, 33, 32, 28, 27, 23, 22, 13, 12, 7, 6, 1, 0, 5, 4, 3, 2, 11, 10, 9, 8, 21, 17, 16, 15, 14, 20, 19, 18, 26, 25, 24, 31, 30, 29, 42, 37, 36, 35, 34, 41, 40, 39, 38], [48, 47, 46, 45, 44, 43, 33, 32, 28, 27, 23, 22, 13, 12, 7, 6, 1, 0, 5, 4, 3, 2, 11, 10, 9, 8, 21, 17, 16, 15, 14, 20, 19, 18, 26, 25, 24, 31, 30, 29, 42, 37, 36, 35, 34, 41, 40, 39, 38, 52, 51, 50, 49], [44, 43, 33, 32, 28, 27, 23, 22, 13, 12, 7, 6, 1, 0, 5, 4, 3, 2, 11, 10, 9, 8, 21, 17, 16, 15, 14, 20, 19, 18, 26, 25, 24, 31, 30, 29, 42, 37, 36, 35, 34, 41, 40, 39, 38, 53, 48, 47, 46, 45, 52, 51, 50, 49]] 4)
 (.cond (.t 112)
 (sr Df
 .ret)
 .skip))
 (.seq (sr AR6
 (.block 0 (.loop AC5)))
 (sr Ay0
 (sr AA1
 (.seq (sr Aw8
 (.cond (.t 179)
 (sr Yj
 .ret)
 .skip))
 (.seq (sr Ay3
 (.block 4 (.loop AL0)))
 (sr AM8
 .ret))))))))))))
theorem BB7 : Fn PR Te 200 Bi6 [.tmp 2] := mF Tryz.call86 Tryz.func86 rfl rfl (by kernel_rfl) (by kernel_rfl)
def AG9 : List XI := [J 4 (.move (.c (.ex []))), J 5 (.move kF)]
def AA4 : List XI := [J 9 (.move (.t 0)), J 10 (.move (.t 1)), J 11 (.call F8 [(.t 9), (.t 10), (.c (.fn AO4 [] []))]), J 8 (.move (.t 11)), J 12 (.extract (.t 8) 0), J 13 (.extract (.t 8) 1), J 6 (.alloc [(.d (.str ⟨#[]⟩)), (.ex [])]), { dst := none, op := .store 2 (.t 6) (.t 12) }, J 7 (.move (.t 13))]
def Az8 : List XI := [J 14 (.fieldAddr 1 (.t 6)), J 15 (.load false 1 (.t 14)), J 16 (.call Cd [(.t 15)]), J 17 (.move (.t 7)), J 4 (.move (.t 16)), J 5 (.move (.t 17))]
def Ab8 : XC :=
 (sr AG9
 (sr AA4
 (sr Az8
 .ret)))
theorem Bk4 : Fn PR H9 18 Ab8 [.tmp 4, .tmp 5] := mF Tryz.call87 Tryz.func87 rfl rfl (by kernel_rfl) (by kernel_rfl)
def Ac6 : List XI := [J 3 (.box (.t 1)), J 4 (.move (.c .nilp)), J 5 (.move (.c .nilp)), J 6 (.move kF)]
def Ad1 : List XI := [J 20 (.fieldAddr 0 (.t 3)), J 21 (.load false 1 (.t 20))]
def Ak2 : List XI := [J 23 (.bin .eql (.t 21) (kI 1)), J 22 (.move (.t 23))]
def Af4 : List XI := [J 24 (.move (.t 0)), J 25 (.fieldAddr 5 (.t 3)), J 26 (.load false 1 (.t 25)), J 27 (.indexAddr 6 (.t 26) (kI 0)), J 28 (.load true 6 (.t 27)), J 29 (.call Br [(.t 24), (.t 28)]), J 7 (.move (.t 29))]
def Af6 : List XI := [J 31 (.move (.t 0)), J 32 (.move (.t 7)), J 33 (.build [(.d (.int .i64 0)), (.ex [])] [(0, 1, (.t 32))]), J 34 (.fieldAddr 1 (.t 3)), J 35 (.load false 1 (.t 34)), J 36 (.build [(.d (.int .i64 0)), (.ex []), (.d (.str ⟨#[]⟩)), (.d (.bool false))] [(0, 2, (.t 33)), (2, 1, (.t 35)), (3, 1, kT)]), J 37 (.call He [(.t 31), (.t 36)]), J 30 (.move (.t 37)), J 38 (.extract (.t 30) 0), J 39 (.extract (.t 30) 1), J 8 (.move (.t 38)), J 9 (.move (.t 39))]
def Ye : List XI := [J 40 (.move (.t 8)), J 41 (.move (.t 0)), J 42 (.move (.t 9)), J 43 (.move (.t 42)), Jt 44 43 (.move (.t 7)), Jt 45 43 (.bin .neq (.t 44) (kI 0)), J 46 (.pick (.t 43) (.t 45) kF)]
def X5 : List XI := [J 4 (.move (.t 40)), J 5 (.move (.t 41)), J 6 (.move (.t 46))]
def Ak6 : List XI := Ye ++ (X5)
def Ai9 : List XI := [J 48 (.bin .eql (.t 21) (kI 2)), J 47 (.move (.t 48))]
def Af1 : List XI := [J 50 (.move (.t 0)), J 51 (.fieldAddr 1 (.t 3)), J 52 (.load false 1 (.t 51)), J 53 (.call Ee [(.t 50), (.t 52)]), J 49 (.move (.t 53)), J 54 (.extract (.t 49) 0), J 55 (.extract (.t 49) 1), J 10 (.alloc [(.d (.int .i64 0)), (.ex []), (.d (.str ⟨#[]⟩)), (.d (.bool false))]), { dst := none, op := .store 4 (.t 10) (.t 54) }, J 11 (.move (.t 55))]
def Ah9 : List XI := [J 56 (.move (.t 0)), J 57 (.move (.t 0)), J 58 (.fieldAddr 3 (.t 10)), J 59 (.load false 1 (.t 58)), J 60 (.move (.t 59)), Jt 61 60 (.move (.t 0)), Jt 62 60 (.fieldAddr 5 (.t 3)), Jt 63 60 (.load false 1 (.t 62)), Jt 64 60 (.indexAddr 6 (.t 63) (kI 0)), Jt 65 60 (.load true 6 (.t 64)), Jt 66 60 (.call Br [(.t 61), (.t 65)]), Jt 67 60 (.fieldAddr 0 (.t 10)), Jt 68 60 (.fieldAddr 0 (.t 67)), Jt 69 60 (.load false 1 (.t 68)), Jt 70 60 (.bin .eql (.t 66) (.t 69)), J 71 (.pick (.t 60) (.t 70) kF), J 4 (.move (.t 56)), J 5 (.move (.t 57)), J 6 (.move (.t 71))]
def Ab9 : List XI := [J 73 (.bin .eql (.t 21) (kI 3)), J 72 (.move (.t 73))]
def ZK : List XI := [J 75 (.move (.t 0)), J 76 (.nilCheck (.t 75)), J 77 (.fieldAddr 0 (.t 76)), J 78 (.load true 5 (.t 77)), J 79 (.fieldAddr 2 (.t 3)), J 80 (.load false 1 (.t 79)), J 81 (.call JB [(.t 78), (.t 80)]), J 74 (.move (.t 81)), J 82 (.extract (.t 74) 0), J 83 (.extract (.t 74) 1), { dst := some 12, op := .alloc [(.d (.str ⟨#[]⟩)), (.ex []), (.ex []), (.d (.int .i64 0)), (.d (.int .i64 0)), (.d (.int .i64 0))], nm := 1 }, { dst := none, op := .store 6 (.t 12) (.t 82) }, J 13 (.move (.t 83))]
def W8 : List XI := [J 84 (.move (.t 0)), J 85 (.move (.t 0)), J 86 (.move (.t 13)), J 87 (.move (.t 86)), Jt 88 87 (.move (.t 0)), Jt 89 87 (.fieldAddr 5 (.t 3)), Jt 90 87 (.load false 1 (.t 89)), Jt 91 87 (.fieldAddr 1 (.t 12)), Jt 92 87 (.load false 1 (.t 91)), Jt 93 87 (.call TT [(.t 88), (.t 90), (.t 92)]), J 94 (.pick (.t 87) (.t 93) kF)]
def Wj : List XI := [J 4 (.move (.t 84)), J 5 (.move (.t 85)), J 6 (.move (.t 94))]
def Zx : List XI := W8 ++ (Wj)
def Ab3 : List XI := [J 96 (.bin .eql (.t 21) (kI 8)), J 95 (.move (.t 96))]
def Ab4 : List XI := [J 98 (.move (.t 0)), J 99 (.nilCheck (.t 98)), J 100 (.fieldAddr 0 (.t 99)), J 101 (.load true 5 (.t 100)), J 102 (.fieldAddr 2 (.t 3)), J 103 (.load false 1 (.t 102)), J 104 (.call BG0 [(.t 101), (.t 103)]), J 97 (.move (.t 104)), J 105 (.extract (.t 97) 0), J 106 (.extract (.t 97) 1), J 14 (.move (.t 105)), J 15 (.move (.t 106))]
def Vs : List XI := [J 107 (.move (.t 0)), J 108 (.move (.t 0)), J 109 (.move (.t 15)), J 110 (.move (.t 109)), Jt 111 110 (.move (.t 0)), Jt 112 110 (.fieldAddr 5 (.t 3)), Jt 113 110 (.load false 1 (.t 112)), Jt 114 110 (.move (.t 14)), Jt 115 110 (.call TT [(.t 111), (.t 113), (.t 114)]), J 116 (.pick (.t 110) (.t 115) kF)]
def Wa : List XI := [J 4 (.move (.t 107)), J 5 (.move (.t 108)), J 6 (.move (.t 116))]
def Zn : List XI := Vs ++ (Wa)
def Zu : List XI := [J 118 (.bin .eql (.t 21) (kI 4)), J 117 (.move (.t 118))]
def ZC : List XI := [J 119 (.bin .eql (.t 21) (kI 5)), J 117 (.move (.t 119))]
def Zv : List XI := [J 120 (.move (.t 0)), J 121 (.move (.t 0)), J 122 (.move (.t 0)), J 123 (.load true 8 (.t 3)), J 124 (.call Ai4 [(.t 122), (.t 123)]), J 4 (.move (.t 120)), J 5 (.move (.t 121)), J 6 (.move (.t 124))]
def ZV : List XI := [J 126 (.bin .eql (.t 21) (kI 6)), J 125 (.move (.t 126))]
def Ab0 : List XI := [J 128 (.move (.t 0)), J 129 (.fieldAddr 1 (.t 3)), J 130 (.load false 1 (.t 129)), J 131 (.fieldAddr 2 (.t 3)), J 132 (.load false 1 (.t 131)), J 133 (.call G3 [(.t 128), (.t 130), (.t 132)]), J 127 (.move (.t 133)), J 134 (.extract (.t 127) 0), J 135 (.extract (.t 127) 1), J 16 (.move (.t 134)), J 17 (.move (.t 135))]
def VS : List XI := [J 136 (.move (.t 0)), J 137 (.move (.t 16)), J 138 (.move (.t 17)), J 139 (.move (.t 138)), Jt 140 139 (.move (.t 16)), Jt 141 139 (.fieldAddr 5 (.t 3)), Jt 142 139 (.load false 1 (.t 141)), Jt 143 139 (.indexAddr 6 (.t 142) (kI 0)), Jt 144 139 (.load true 6 (.t 143)), Jt 145 139 (.call Br [(.t 140), (.t 144)]), Jt 146 139 (.bin .eql (.t 145) (kI 3)), J 147 (.pick (.t 139) (.t 146) kF)]
def Vz : List XI := [J 4 (.move (.t 136)), J 5 (.move (.t 137)), J 6 (.move (.t 147))]
def Z0 : List XI := VS ++ (Vz)
def Aa2 : List XI := [J 149 (.bin .eql (.t 21) (kI 7)), J 148 (.move (.t 149))]
def ZN : List XI := [J 150 (.move (.t 0)), J 151 (.move (.t 0)), J 152 (.move (.t 0)), J 153 (.fieldAddr 5 (.t 3)), J 154 (.load false 1 (.t 153)), J 155 (.indexAddr 6 (.t 154) (kI 0)), J 156 (.load true 6 (.t 155)), J 157 (.call Br [(.t 152), (.t 156)]), J 158 (.bin .eql (.t 157) (kI 3)), J 4 (.move (.t 150)), J 5 (.move (.t 151)), J 6 (.move (.t 158))]
def Aa6 : List XI := [J 160 (.bin .eql (.t 21) (kI 9)), J 159 (.move (.t 160))]
def Z3 : List XI := [J 161 (.move (.t 0)), J 162 (.move (.t 0)), J 163 (.move (.t 0)), J 164 (.fieldAddr 5 (.t 3)), J 165 (.load false 1 (.t 164)), J 166 (.indexAddr 6 (.t 165) (kI 0)), J 167 (.load true 6 (.t 166)), J 168 (.call Br [(.t 163), (.t 167)]), J 169 (.bin .eql (.t 168) (kI 1)), J 4 (.move (.t 161)), J 5 (.move (.t 162)), J 6 (.move (.t 169))]
def Aa1 : List XI := [J 170 (.fieldAddr 5 (.t 3)), J 171 (.load false 1 (.t 170)), J 172 (.lenR (.t 171)), J 173 (.move (kI 0))]
def ZL : List XI := [J 174 (.bin .lss (.t 173) (.t 172))]
def ZU : List XI := [J 175 (.indexAddr 6 (.t 171) (.t 173)), J 176 (.load true 6 (.t 175)), J 19 (.alloc [(.d (.int .i64 0)), (.d (.int .i64 0)), (.d (.str ⟨#[]⟩)), (.d (.str ⟨#[]⟩)), (.d (.str ⟨#[]⟩)), (.ex [])]), { dst := none, op := .store 6 (.t 19) (.t 176) }]
def Aa3 : List XI := [J 177 (.move (.t 0)), J 178 (.load true 6 (.t 19)), J 179 (.call Br [(.t 177), (.t 178)]), J 180 (.bin .neq (.t 179) (kI 0)), J 6 (.move (.t 180))]
def Ab2 : List XI := [J 181 (.move (.t 6)), J 182 (.not (.t 181))]
def Zk : List XI := [J 183 (.bin .add (.t 173) (kI 1)), J 173 (.move (.t 183))]
def ZB : XC :=
 (sr ZL
 (.seq (.cond (.t 174)
 .skip
 (.exit 1))
 (.seq (.block 2 (sr ZU
 (sr Aa3
 (sr Ab2
 (.cond (.t 182)
 (.exit 1)
 .skip)))))
 (.region Zk))))
def Aa8 : List XI := [J 184 (.move (.t 0)), J 185 (.move (.t 0)), J 186 (.move (.t 6)), J 4 (.move (.t 184)), J 5 (.move (.t 185)), J 6 (.move (.t 186))]
def T3 : XC :=
 (sr Ac6
 (.seq (sr Ad1
 (.block 0 (sr Ak2
 (.cond (.t 22)
 (sr Af4
 (sr Af6
 (sr Ak6
 .ret)))
 (sr Ai9
 (.cond (.t 47)
 (sr Af1
 (.seq (.regionD Ah9 [[], [], [], [2], [3, 2], [4, 3, 2], [4, 3, 2], [6, 4, 3, 2], [7, 6, 4, 3, 2], [8, 7, 6, 4, 3, 2], [5, 4, 3, 2, 9, 8, 7, 6], [4, 3, 2], [11, 4, 3, 2], [12, 11, 4, 3, 2], [10, 5, 4, 3, 2, 9, 8, 7, 6, 13, 12, 11], [4, 3, 2, 14, 10, 5, 9, 8, 7, 6, 13, 12, 11], [0, 10, 5, 4, 3, 2, 9, 8, 7, 6], [1, 16, 0, 10, 5, 4, 3, 2, 9, 8, 7, 6], [15, 4, 3, 2, 14, 10, 5, 9, 8, 7, 6, 13, 12, 11, 17, 1, 16, 0]] 1)
 .ret))
 (sr Ab9
 (.cond (.t 72)
 (.seq (.regionD ZK [[], [0], [1, 0], [2, 1, 0], [], [4], [3, 2, 1, 0, 5, 4], [6, 3, 2, 1, 0, 5, 4], [7, 6, 3, 2, 1, 0, 5, 4], [7, 6, 3, 2, 1, 0, 5, 4], [], [10, 8, 7, 6, 3, 2, 1, 0, 5, 4], [9, 7, 6, 3, 2, 1, 0, 5, 4, 11, 10, 8]] 2)
 (sr Zx
 .ret))
 (sr Ab3
 (.cond (.t 95)
 (.seq (.regionS Ab4 1)
 (sr Zn
 .ret))
 (.seq (sr Zu
 (.cond (.t 117)
 .skip
 (.region ZC)))
 (.cond (.t 117)
 (sr Zv
 .ret)
 (sr ZV
 (.cond (.t 125)
 (sr Ab0
 (sr Z0
 .ret))
 (sr Aa2
 (.cond (.t 148)
 (sr ZN
 .ret)
 (sr Aa6
 (.cond (.t 159)
 (sr Z3
 .ret)
 .skip))))))))))))))))))
 (.seq (sr Aa1
 (.block 1 (.loop ZB)))
 (sr Aa8
 .ret))))
theorem AD4 : Fn PR KM 187 T3 [.tmp 4, .tmp 5, .tmp 6] := mF Tryz.call88 Tryz.func88 rfl rfl (by kernel_rfl) (by kernel_rfl)
def AN7 : List XI := [J 2 (.box (.t 0)), J 4 (.alloc [(.d (.str ⟨#[]⟩)), (.ex []), (.ex []), (.d (.int .i64 0)), (.d (.int .i64 0)), (.d (.int .i64 0))]), J 5 (.move kF)]
def AO6 : List XI := [J 6 (.fieldAddr 0 (.t 2)), J 7 (.load false 1 (.t 6)), J 8 (.move (.t 1)), J 9 (.call F3 [(.t 7), (.t 8), (.c (.fn PY [] []))]), J 10 (.extract (.t 9) 0), J 11 (.extract (.t 9) 1), { dst := none, op := .store 6 (.t 4) (.t 10) }, J 5 (.move (.t 11))]
def Ap4 : XC :=
 (sr AN7
 (sr AO6
 .ret))
theorem Bo8 : Fn PR JB 12 Ap4 [.cell 4 true 6, .tmp 5] := mF Tryz.call93 Tryz.func93 rfl rfl (by kernel_rfl) (by kernel_rfl)
def Aa4 : List XI := [J 2 (.move kF)]
def VW : List XI := [J 3 (.move (.t 0)), J 4 (.bin .geq (.t 3) (.c (.d (.int .u8 97)))), J 5 (.move (.t 4)), Jt 6 5 (.move (.t 0)), Jt 7 5 (.bin .leq (.t 6) (.c (.d (.int .u8 122)))), J 8 (.pick (.t 5) (.t 7) kF)]
def W9 : List XI := [J 9 (.move (.t 8)), Jf 10 9 (.move (.t 0)), Jf 11 9 (.bin .geq (.t 10) (.c (.d (.int .u8 65)))), Jf 12 9 (.move (.t 11)), Jt 13 12 (.move (.t 0)), Jt 14 12 (.bin .leq (.t 13) (.c (.d (.int .u8 90)))), Jf 15 9 (.pick (.t 12) (.t 14) kF), J 16 (.pick (.t 9) kT (.t 15))]
def WA : List XI := [J 17 (.move (.t 16)), Jf 18 17 (.move (.t 0)), Jf 19 17 (.bin .geq (.t 18) (.c (.d (.int .u8 48)))), Jf 20 17 (.move (.t 19)), Jt 21 20 (.move (.t 0)), Jt 22 20 (.bin .leq (.t 21) (.c (.d (.int .u8 57)))), Jf 23 17 (.pick (.t 20) (.t 22) kF), J 24 (.pick (.t 17) kT (.t 23))]
def WH : List XI := [J 25 (.move (.t 24)), Jf 26 25 (.move (.t 0)), Jf 27 25 (.bin .eql (.t 26) (.c (.d (.int .u8 95)))), J 28 (.pick (.t 25) kT (.t 27))]
def WL : List XI := [J 2 (.move (.t 28))]
def Zo : List XI := VW ++ (W9 ++ (WA ++ (WH ++ (WL))))
def Sh : XC :=
 (sr Aa4
 (sr Zo
 .ret))
theorem Au1 : Fn PR Hb 29 Sh [.tmp 2] := mF Tryz.call94 Tryz.func94 rfl rfl (by kernel_rfl) (by kernel_rfl)
def KZ : List XI := [J 2 (.move kF)]
def KY : List XI := [J 6 (.move (.t 0)), J 7 (.lenS (.t 6)), J 8 (.bin .lss (.t 7) (kI 1)), J 9 (.move (.t 8)), Jf 10 9 (.move (.t 0)), Jf 11 9 (.lenS (.t 10)), Jf 12 9 (.bin .gtr (.t 11) (kI 16)), J 13 (.pick (.t 9) kT (.t 12))]
def Lj : List XI := [J 2 (.move kF)]
def Lv : List XI := [J 3 (.move (kI 0))]
def Lx : List XI := [J 14 (.move (.t 3)), J 15 (.move (.t 0)), J 16 (.lenS (.t 15)), J 17 (.bin .lss (.t 14) (.t 16))]
def Ld : List XI := [J 20 (.move (.t 0)), J 21 (.move (.t 3)), J 22 (.indexStr (.t 20) (.t 21)), J 4 (.move (.t 22))]
def Js : List XI := [J 23 (.move (.t 4)), J 24 (.bin .geq (.t 23) (.c (.d (.int .u8 97)))), J 25 (.move (.t 24)), Jt 26 25 (.move (.t 4)), Jt 27 25 (.bin .leq (.t 26) (.c (.d (.int .u8 122)))), J 28 (.pick (.t 25) (.t 27) kF)]
def F6 : List XI := [J 5 (.move (.t 28))]
def KO : List XI := Js ++ (F6)
def KN : List XI := [J 29 (.move (.t 5)), J 30 (.not (.t 29)), J 31 (.move (.t 30)), Jt 32 31 (.move (.t 3)), Jt 33 31 (.bin .eql (.t 32) (kI 0)), Jt 34 31 (.move (.t 33)), Jf 35 34 (.move (.t 4)), Jf 36 34 (.bin .geq (.t 35) (.c (.d (.int .u8 48)))), Jf 37 34 (.move (.t 36)), Jt 38 37 (.move (.t 4)), Jt 39 37 (.bin .leq (.t 38) (.c (.d (.int .u8 57)))), Jf 40 34 (.pick (.t 37) (.t 39) kF), Jf 41 34 (.not (.t 40)), Jf 42 34 (.move (.t 41)), Jt 43 42 (.move (.t 4)), Jt 44 42 (.bin .neq (.t 43) (.c (.d (.int .u8 95)))), Jf 45 34 (.pick (.t 42) (.t 44) kF), Jt 46 31 (.pick (.t 34) kT (.t 45)), J 47 (.pick (.t 31) (.t 46) kF)]
def E3 : List XI := [J 2 (.move kF)]
def C4 : List XI := [J 18 (.move (.t 3)), J 19 (.bin .add (.t 18) (kI 1)), J 3 (.move (.t 19))]
def Kl : XC :=
 (.seq (sr Lx
 (.cond (.t 17)
 .skip
 (.exit 0)))
 (.seq (.block 1 (sr Ld
 (sr KO
 (sr KN
 (.cond (.t 47)
 (sr E3
 .ret)
 .skip)))))
 (.region C4)))
def Kc : List XI := [J 2 (.move kT)]
def IZ : XC :=
 (sr KZ
 (.seq (sr KY
 (.cond (.t 13)
 (sr Lj
 .ret)
 .skip))
 (.seq (sr Lv
 (.block 0 (.loop Kl)))
 (sr Kc
 .ret))))
theorem Qr : Fn PR E1 48 IZ [.tmp 2] := mF Tryz.call95 Tryz.func95 rfl rfl (by kernel_rfl) (by kernel_rfl)
def ZX : List XI := [J 2 (.move (kS #[]))]
def W1 : List XI := [J 5 (.move (.t 0)), J 6 (.lenS (.t 5)), J 7 (.bin .gtr (.t 6) (kI 1)), J 8 (.move (.t 7)), Jt 9 8 (.move (.t 0)), Jt 10 8 (.indexStr (.t 9) (kI 1)), Jt 11 8 (.bin .eql (.t 10) (.c (.d (.int .u8 61)))), J 12 (.pick (.t 8) (.t 11) kF)]
def Wh : List XI := [J 13 (.move (.t 12)), Jt 14 13 (.move (.t 0)), Jt 15 13 (.indexStr (.t 14) (kI 0)), Jt 16 13 (.bin .eql (.t 15) (.c (.d (.int .u8 60)))), Jt 17 13 (.move (.t 16)), Jf 18 17 (.move (.t 0)), Jf 19 17 (.indexStr (.t 18) (kI 0)), Jf 20 17 (.bin .eql (.t 19) (.c (.d (.int .u8 33)))), Jt 21 13 (.pick (.t 17) kT (.t 20)), Jt 22 13 (.move (.t 21)), Jf 23 22 (.move (.t 0)), Jf 24 22 (.indexStr (.t 23) (kI 0)), Jf 25 22 (.bin .eql (.t 24) (.c (.d (.int .u8 62)))), Jt 26 13 (.pick (.t 22) kT (.t 25)), J 27 (.pick (.t 13) (.t 26) kF)]
def Zq : List XI := W1 ++ (Wh)
def ZQ : List XI := [J 28 (.move (.t 0)), J 29 (.sliceS (.t 28) none (some (kI 2))), J 2 (.move (.t 29))]
def Z5 : List XI := [J 3 (.move (kS #[40, 41, 123, 125, 91, 93, 44, 59, 58, 46, 43, 45, 42, 47, 37, 60, 61, 62]))]
def Z7 : List XI := [J 4 (.move (kI 0))]
def ZO : List XI := [J 30 (.move (.t 4)), J 31 (.move (.t 3)), J 32 (.lenS (.t 31)), J 33 (.bin .lss (.t 30) (.t 32))]
def Zy : List XI := [J 36 (.move (.t 0)), J 37 (.lenS (.t 36)), J 38 (.bin .gtr (.t 37) (kI 0)), J 39 (.move (.t 38)), Jt 40 39 (.move (.t 0)), Jt 41 39 (.indexStr (.t 40) (kI 0)), Jt 42 39 (.move (.t 3)), Jt 43 39 (.move (.t 4)), Jt 44 39 (.indexStr (.t 42) (.t 43)), Jt 45 39 (.bin .eql (.t 41) (.t 44)), J 46 (.pick (.t 39) (.t 45) kF)]
def Zm : List XI := [J 47 (.move (.t 0)), J 48 (.sliceS (.t 47) none (some (kI 1))), J 2 (.move (.t 48))]
def Aa7 : List XI := [J 34 (.move (.t 4)), J 35 (.bin .add (.t 34) (kI 1)), J 4 (.move (.t 35))]
def ZH : XC :=
 (.seq (sr ZO
 (.cond (.t 33)
 .skip
 (.exit 0)))
 (.seq (.block 1 (.seq (.regionS Zy 0)
 (.cond (.t 46)
 (sr Zm
 .ret)
 .skip)))
 (.region Aa7)))
def Yo : List XI := [J 2 (.move (kS #[]))]
def Td : XC :=
 (sr ZX
 (.seq (sr Zq
 (.cond (.t 27)
 (sr ZQ
 .ret)
 .skip))
 (sr Z5
 (.seq (sr Z7
 (.block 0 (.loop ZH)))
 (sr Yo
 .ret)))))
theorem Au3 : Fn PR JQ 49 Td [.tmp 2] := mF Tryz.call97 Tryz.func97 rfl rfl (by kernel_rfl) (by kernel_rfl)
def QH : List XI := [J 4 (.move (.t 0)), J 5 (.move (.t 1)), J 6 (.call AX [(.t 4), (.t 5)])]
def Rg : List XI := [J 7 (.move (.t 0)), J 8 (.nilCheck (.t 7)), J 9 (.fieldAddr 1 (.t 8)), J 10 (.load false 1 (.t 9)), J 11 (.bin .add (.t 10) (kI 1)), J 12 (.nilCheck (.t 7)), J 13 (.fieldAddr 1 (.t 12)), { dst := none, op := .store 1 (.t 13) (.t 11) }]
def RL : List XI := [J 14 (.move (.t 0)), J 15 (.nilCheck (.t 14)), J 16 (.fieldAddr 4 (.t 15)), { dst := none, op := .store 1 (.t 16) kT }]
def I5 : XC :=
 (sr QH
 (.cond (.t 6)
 (.region Rg)
 (.region RL)))
theorem US : Fn PR AI 17 I5 [] := mF Tryz.call98 Tryz.func98 rfl rfl (by kernel_rfl) (by kernel_rfl)
def QD : List XI := [J 2 (.move (kS #[]))]
def Rq : List XI := [J 3 (.move (.t 0)), J 4 (.call CF [(.t 3), (kI 3)]), J 5 (.not (.t 4)), J 6 (.move (.t 5)), Jf 7 6 (.move (.t 0)), Jf 8 6 (.nilCheck (.t 7)), Jf 9 6 (.fieldAddr 0 (.t 8)), Jf 10 6 (.load false 1 (.t 9)), Jf 11 6 (.move (.t 0)), Jf 12 6 (.nilCheck (.t 11)), Jf 13 6 (.fieldAddr 1 (.t 12)), Jf 14 6 (.load false 1 (.t 13)), Jf 15 6 (.indexAddr 4 (.t 10) (.t 14)), Jf 16 6 (.fieldAddr 1 (.t 15)), Jf 17 6 (.load false 1 (.t 16)), { dst := some 18, op := .call M9 [(.t 17)], guard := some (6, false), nm := 1 }, J 19 (.pick (.t 6) kT (.t 18))]
def RA : List XI := [J 20 (.move (.t 0)), J 21 (.nilCheck (.t 20)), J 22 (.fieldAddr 4 (.t 21)), { dst := none, op := .store 1 (.t 22) kT }]
def Re : List XI := [J 2 (.move (kS #[]))]
def Rn : List XI := [J 23 (.move (.t 0)), J 24 (.nilCheck (.t 23)), J 25 (.fieldAddr 1 (.t 24)), J 26 (.load false 1 (.t 25)), J 27 (.bin .add (.t 26) (kI 1)), J 28 (.nilCheck (.t 23)), J 29 (.fieldAddr 1 (.t 28)), { dst := none, op := .store 1 (.t 29) (.t 27) }]
def QM : List XI := [J 30 (.move (.t 0)), J 31 (.nilCheck (.t 30)), J 32 (.fieldAddr 0 (.t 31)), J 33 (.load false 1 (.t 32)), J 34 (.move (.t 0)), J 35 (.nilCheck (.t 34)), J 36 (.fieldAddr 1 (.t 35)), J 37 (.load false 1 (.t 36)), J 38 (.bin .sub (.t 37) (kI 1)), J 39 (.indexAddr 4 (.t 33) (.t 38)), J 40 (.fieldAddr 1 (.t 39)), J 41 (.load false 1 (.t 40)), J 2 (.move (.t 41))]
def Jd : XC :=
 (sr QD
 (.seq (.seq (.regionS Rq 2)
 (.cond (.t 19)
 (sr RA
 (sr Re
 .ret))
 .skip))
 (sr Rn
 (.seq (.regionS QM 0)
 .ret))))
theorem Un : Fn PR AL 42 Jd [.tmp 2] := mF Tryz.call99 Tryz.func99 rfl rfl (by kernel_rfl) (by kernel_rfl)
def PP : List XI := [J 2 (.move (.t 0)), J 3 (.nilCheck (.t 2)), J 4 (.fieldAddr 2 (.t 3)), J 5 (.load false 1 (.t 4)), J 6 (.bin .add (.t 5) (kI 1)), J 7 (.nilCheck (.t 2)), J 8 (.fieldAddr 2 (.t 7)), { dst := none, op := .store 1 (.t 8) (.t 6) }]
def PS : List XI := [J 9 (.move (.t 0)), J 10 (.nilCheck (.t 9)), J 11 (.fieldAddr 2 (.t 10)), J 12 (.load false 1 (.t 11)), J 13 (.bin .gtr (.t 12) (kI 60)), J 14 (.move (.t 13)), Jt 15 14 (.move (.t 0)), Jt 16 14 (.nilCheck (.t 15)), Jt 17 14 (.fieldAddr 4 (.t 16)), Jt 18 14 (.load false 1 (.t 17)), Jt 19 14 (.not (.t 18)), J 20 (.pick (.t 14) (.t 19) kF)]
def PC : List XI := [J 21 (.move (.t 0)), J 22 (.nilCheck (.t 21)), J 23 (.fieldAddr 3 (.t 22)), { dst := none, op := .store 1 (.t 23) kT }]
def Nw : List XI := [J 24 (.move (.t 0)), J 25 (.nilCheck (.t 24)), J 26 (.fieldAddr 4 (.t 25)), { dst := none, op := .store 1 (.t 26) kT }]
def IP : XC :=
 (sr PP
 (sr PS
 (.cond (.t 20)
 (sr PC
 (.region Nw))
 .skip)))
theorem TA : Fn PR Bn 27 IP [] := mF Tryz.call100 Tryz.func100 rfl rfl (by kernel_rfl) (by kernel_rfl)
def Ty : List XI := [J 4 (.move kF)]
def QJ : List XI := [J 5 (.move (.t 0)), J 6 (.nilCheck (.t 5)), J 7 (.fieldAddr 4 (.t 6)), J 8 (.load false 1 (.t 7)), J 9 (.not (.t 8)), J 10 (.move (.t 9)), Jt 11 10 (.move (.t 0)), Jt 12 10 (.nilCheck (.t 11)), Jt 13 10 (.fieldAddr 1 (.t 12)), Jt 14 10 (.load false 1 (.t 13)), Jt 15 10 (.move (.t 0)), Jt 16 10 (.nilCheck (.t 15)), Jt 17 10 (.fieldAddr 0 (.t 16)), Jt 18 10 (.load false 1 (.t 17)), Jt 19 10 (.lenR (.t 18)), Jt 20 10 (.bin .lss (.t 14) (.t 19)), J 21 (.pick (.t 10) (.t 20) kF)]
def Ru : List XI := [J 22 (.move (.t 21)), Jt 23 22 (.move (.t 0)), Jt 24 22 (.nilCheck (.t 23)), Jt 25 22 (.fieldAddr 0 (.t 24)), Jt 26 22 (.load false 1 (.t 25)), Jt 27 22 (.move (.t 0)), Jt 28 22 (.nilCheck (.t 27)), Jt 29 22 (.fieldAddr 1 (.t 28)), Jt 30 22 (.load false 1 (.t 29)), Jt 31 22 (.indexAddr 4 (.t 26) (.t 30)), Jt 32 22 (.load true 4 (.t 31)), Jt 33 22 (.move (.t 1)), Jt 34 22 (.call JP [(.t 32), (.t 33)]), J 35 (.pick (.t 22) (.t 34) kF)]
def QU : List XI := [J 4 (.move (.t 35))]
def TC : List XI := QJ ++ (Ru ++ (QU))
def KT : XC :=
 (sr Ty
 (.seq (.regionS TC 1)
 .ret))
theorem XK : Fn PR AX 36 KT [.tmp 4] := mF Tryz.call101 Tryz.func101 rfl rfl (by kernel_rfl) (by kernel_rfl)
def SJ : List XI := [J 4 (.move kF)]
def Ss : List XI := [J 5 (.move (.t 0)), J 6 (.move (.t 1)), J 7 (.call AX [(.t 5), (.t 6)]), J 8 (.not (.t 7))]
def Sl : List XI := [J 4 (.move kF)]
def Th : List XI := [J 9 (.move (.t 0)), J 10 (.nilCheck (.t 9)), J 11 (.fieldAddr 1 (.t 10)), J 12 (.load false 1 (.t 11)), J 13 (.bin .add (.t 12) (kI 1)), J 14 (.nilCheck (.t 9)), J 15 (.fieldAddr 1 (.t 14)), { dst := none, op := .store 1 (.t 15) (.t 13) }]
def Sp : List XI := [J 4 (.move kT)]
def Kg : XC :=
 (sr SJ
 (.seq (sr Ss
 (.cond (.t 8)
 (sr Sl
 .ret)
 .skip))
 (sr Th
 (sr Sp
 .ret))))
theorem VF : Fn PR AD 16 Kg [.tmp 4] := mF Tryz.call102 Tryz.func102 rfl rfl (by kernel_rfl) (by kernel_rfl)
def Oz : List XI := [J 2 (.move (.c (.ex [])))]
def Ov : List XI := [J 4 (.move (.t 0)), J 5 (.call AI [(.t 4), (kS #[123])])]
def OM : List XI := [J 6 (.move (.t 0)), J 7 (.call Bn [(.t 6)])]
def PU : List XI := [J 3 (.move (.c (.ex [])))]
def OZ : List XI := [J 8 (.move (.t 0)), J 9 (.nilCheck (.t 8)), J 10 (.fieldAddr 4 (.t 9)), J 11 (.load false 1 (.t 10)), J 12 (.not (.t 11)), J 13 (.move (.t 12)), Jt 14 13 (.move (.t 0)), Jt 15 13 (.call AX [(.t 14), (kS #[125])]), Jt 16 13 (.not (.t 15)), J 17 (.pick (.t 13) (.t 16) kF)]
def NB : List XI := [J 18 (.move (.t 3)), J 19 (.move (.t 0)), J 20 (.call F5 [(.t 19)]), J 21 (.buildSlice 8 [(.t 20)]), J 22 (.append AZ 8 144 (.t 18) (.t 21)), J 3 (.move (.t 22))]
def Qh : XC :=
 (.seq (sr OZ
 (.cond (.t 17)
 .skip
 (.exit 0)))
 (.block 1 (.region NB)))
def NE : List XI := [J 23 (.move (.t 0)), J 24 (.call AI [(.t 23), (kS #[125])])]
def PA : List XI := [J 25 (.move (.t 0)), J 26 (.nilCheck (.t 25)), J 27 (.fieldAddr 2 (.t 26)), J 28 (.load false 1 (.t 27)), J 29 (.bin .sub (.t 28) (kI 1)), J 30 (.nilCheck (.t 25)), J 31 (.fieldAddr 2 (.t 30)), { dst := none, op := .store 1 (.t 31) (.t 29) }]
def Ps : List XI := [J 32 (.move (.t 3)), J 2 (.move (.t 32))]
def IT : XC :=
 (sr Oz
 (sr Ov
 (sr OM
 (sr PU
 (.seq (.block 0 (.loop Qh))
 (sr NE
 (sr PA
 (sr Ps
 .ret))))))))
theorem TD : Fn PR Cv 33 IT [.tmp 2] := mF Tryz.call104 Tryz.func104 rfl rfl (by kernel_rfl) (by kernel_rfl)
def BI1 : List XI := [J 2 (.move (kI 0)), J 3 (.move (kI 0))]
def BH3 : List XI := [J 4 (.move (kI 0)), J 5 (.move (kI 0))]
def BH6 : List XI := [J 6 (.move (kI 0))]
def BL5 : List XI := [J 15 (.move (.t 6)), J 16 (.move (.t 0)), J 17 (.lenR (.t 16)), J 18 (.bin .lss (.t 15) (.t 17))]
def BK4 : List XI := [J 7 (.move (kI 0))]
def BH8 : List XI := [J 8 (.move (kI 0))]
def BL3 : List XI := [J 21 (.move (.t 8)), J 22 (.move (.t 0)), J 23 (.move (.t 6)), J 24 (.indexAddr 8 (.t 22) (.t 23)), J 25 (.fieldAddr 5 (.t 24)), J 26 (.load false 1 (.t 25)), J 27 (.lenR (.t 26)), J 28 (.bin .lss (.t 21) (.t 27))]
def BK5 : List XI := [J 32 (.move (.t 0)), J 33 (.move (.t 6)), J 34 (.indexAddr 8 (.t 32) (.t 33)), J 35 (.fieldAddr 5 (.t 34)), J 36 (.load false 1 (.t 35)), J 37 (.move (.t 8)), J 38 (.indexAddr 6 (.t 36) (.t 37)), J 39 (.load true 6 (.t 38)), J 40 (.call Bc7 [(.t 39)]), J 31 (.move (.t 40)), J 41 (.extract (.t 31) 0), J 42 (.extract (.t 31) 1), J 9 (.move (.t 41)), J 10 (.move (.t 42))]
def BH9 : List XI := [J 43 (.move (.t 4)), J 44 (.move (.t 9)), J 45 (.bin .add (.t 43) (.t 44)), J 4 (.move (.t 45))]
def BI6 : List XI := [J 46 (.move (.t 7)), J 47 (.move (.t 10)), J 48 (.minmax true (.t 46) [(.t 47)]), J 7 (.move (.t 48))]
def BC0 : List XI := [J 29 (.move (.t 8)), J 30 (.bin .add (.t 29) (kI 1)), J 8 (.move (.t 30))]
def By9 : XC :=
 (.seq (sr BL3
 (.cond (.t 28)
 .skip
 (.exit 2)))
 (.seq (.block 3 (sr BK5
 (sr BH9
 (.region BI6))))
 (.region BC0)))
def BF5 : List XI := [J 50 (.move (.t 0)), J 51 (.move (.t 6)), J 52 (.indexAddr 8 (.t 50) (.t 51)), J 53 (.fieldAddr 6 (.t 52)), J 54 (.load false 1 (.t 53)), J 55 (.call AN1 [(.t 54)]), J 49 (.move (.t 55)), J 56 (.extract (.t 49) 0), J 57 (.extract (.t 49) 1), J 11 (.move (.t 56)), J 12 (.move (.t 57))]
def BB1 : List XI := [J 59 (.move (.t 0)), J 60 (.move (.t 6)), J 61 (.indexAddr 8 (.t 59) (.t 60)), J 62 (.fieldAddr 7 (.t 61)), J 63 (.load false 1 (.t 62)), J 64 (.call AN1 [(.t 63)]), J 58 (.move (.t 64)), J 65 (.extract (.t 58) 0), J 66 (.extract (.t 58) 1), J 13 (.move (.t 65)), J 14 (.move (.t 66))]
def Bz3 : List XI := [J 67 (.move (.t 4)), J 68 (.move (.t 11)), J 69 (.bin .add (.t 67) (.t 68)), J 70 (.move (.t 13)), J 71 (.bin .add (.t 69) (.t 70)), J 72 (.bin .add (.t 71) (kI 1)), J 4 (.move (.t 72))]
def BG2 : List XI := [J 73 (.move (.t 5)), J 74 (.move (.t 7)), J 75 (.bin .add (.t 74) (kI 1)), J 76 (.move (.t 12)), J 77 (.bin .add (.t 76) (kI 1)), J 78 (.move (.t 14)), J 79 (.bin .add (.t 78) (kI 1)), J 80 (.minmax true (.t 73) [(.t 75), (.t 77), (.t 79)]), J 5 (.move (.t 80))]
def BC1 : List XI := [J 19 (.move (.t 6)), J 20 (.bin .add (.t 19) (kI 1)), J 6 (.move (.t 20))]
def BA2 : XC :=
 (.seq (sr BL5
 (.cond (.t 18)
 .skip
 (.exit 0)))
 (.seq (.block 1 (sr BK4
 (.seq (sr BH8
 (.block 2 (.loop By9)))
 (sr BF5
 (sr BB1
 (sr Bz3
 (.region BG2)))))))
 (.region BC1)))
def Bx2 : List XI := [J 81 (.move (.t 4)), J 82 (.move (.t 5)), J 2 (.move (.t 81)), J 3 (.move (.t 82))]
def BO7 : XC :=
 (sr BI1
 (sr BH3
 (.seq (sr BH6
 (.block 0 (.loop BA2)))
 (sr Bx2
 .ret))))
theorem Cb8 : Fn PR AN1 83 BO7 [.tmp 2, .tmp 3] := mF Tryz.call105 Tryz.func105 rfl rfl (by kernel_rfl) (by kernel_rfl)
def EG : List XI := [J 4 (.move kF)]
def EJ : List XI := [J 5 (.move (.t 0)), J 6 (.move (.t 1)), J 7 (.call CM [(.t 5), (.t 6)]), J 8 (.bin .geq (.t 7) (kI 0)), J 4 (.move (.t 8))]
def Dn : XC :=
 (sr EG
 (sr EJ
 .ret))
theorem Fj : Fn PR Cm 9 Dn [.tmp 4] := mF Tryz.call109 Tryz.func109 rfl rfl (by kernel_rfl) (by kernel_rfl)
def Fw : List XI := [J 4 (.move kF)]
def Fu : List XI := [J 5 (.move (.t 0)), J 6 (.move (.t 1)), J 7 (.call Dq [(.t 5), (.t 6)]), J 8 (.bin .geq (.t 7) (kI 0)), J 4 (.move (.t 8))]
def DT : XC :=
 (sr Fw
 (sr Fu
 .ret))
theorem Gh : Fn PR B5 9 DT [.tmp 4] := mF Tryz.call111 Tryz.func111 rfl rfl (by kernel_rfl) (by kernel_rfl)
def YT : List XI := [J 2 (.move kF)]
def Ul : List XI := [J 3 (.move (.t 0)), J 4 (.nilCheck (.t 3)), J 5 (.fieldAddr 0 (.t 4)), J 6 (.load false 1 (.t 5)), J 7 (.bin .geq (.t 6) (kI 1000)), J 8 (.move (.t 7)), Jf 9 8 (.move (.t 0)), Jf 10 8 (.nilCheck (.t 9)), Jf 11 8 (.fieldAddr 1 (.t 10)), Jf 12 8 (.load false 1 (.t 11)), Jf 13 8 (.bin .geq (.t 12) (kI 1000)), J 14 (.pick (.t 8) kT (.t 13))]
def KU : List XI := [J 2 (.move (.t 14))]
def Y6 : List XI := Ul ++ (KU)
def Xz : XC :=
 (sr YT
 (sr Y6
 .ret))
theorem Av7 : Fn PR Ls 15 Xz [.tmp 2] := mF Tryz.call137 Tryz.func137 rfl rfl (by kernel_rfl) (by kernel_rfl)
def Ad2 : List XI := [J 3 (.box (.t 1))]
def Ak0 : List XI := [J 4 (.move (.t 0)), J 5 (.move (.t 0)), J 6 (.move (.t 0)), J 7 (.nilCheck (.t 6)), J 8 (.fieldAddr 0 (.t 7)), J 9 (.load false 1 (.t 8)), J 10 (.fieldAddr 0 (.t 3)), J 11 (.load false 1 (.t 10)), J 12 (.bin .add (.t 9) (.t 11)), J 13 (.minmax false (.t 12) [(kI 1000)]), J 14 (.move (.t 0)), J 15 (.nilCheck (.t 14)), J 16 (.fieldAddr 1 (.t 15)), J 17 (.load false 1 (.t 16)), J 18 (.fieldAddr 1 (.t 3)), J 19 (.load false 1 (.t 18)), J 20 (.minmax true (.t 17) [(.t 19)]), J 21 (.nilCheck (.t 4)), J 22 (.fieldAddr 0 (.t 21)), { dst := none, op := .store 1 (.t 22) (.t 13) }, J 23 (.nilCheck (.t 5)), J 24 (.fieldAddr 1 (.t 23)), { dst := none, op := .store 1 (.t 24) (.t 20) }]
def Ak7 : XC :=
 (sr Ad2
 (.regionD Ak0 [[], [], [], [2], [3, 2], [4, 3, 2], [], [6], [5, 4, 3, 2, 7, 6], [8, 5, 4, 3, 2, 7, 6], [], [10], [11, 10], [12, 11, 10], [], [14], [13, 12, 11, 10, 15, 14], [0, 2, 3, 4, 5, 6, 7, 8, 9, 13, 12, 11, 10], [17, 0, 2, 3, 4, 5, 6, 7, 8, 9, 13, 12, 11, 10], [18, 17, 0, 2, 3, 4, 5, 6, 7, 8, 9, 13, 12, 11, 10], [1, 0, 2, 3, 4, 5, 6, 7, 8, 9, 10, 11, 12, 13, 14, 15, 16, 17, 18, 19], [20, 1, 0, 2, 3, 4, 5, 6, 7, 8, 9, 10, 11, 12, 13, 14, 15, 16, 17, 18, 19], [21, 20, 1, 0, 2, 3, 4, 5, 6, 7, 8, 9, 10, 11, 12, 13, 14, 15, 16, 17, 18, 19]] 0))
theorem AT7 : Fn PR H6 25 Ak7 [] := mF Tryz.call138 Tryz.func138 rfl rfl (by kernel_rfl) (by kernel_rfl)
def SU : List XI := [J 6 (.alloc [(.d (.int .i64 0)), (.d (.int .i64 0))])]
def S1 : List XI := [J 7 (.alloc [(.d (.int .i64 0)), (.d (.int .i64 0))])]
def Sg : List XI := [J 10 (.move (.t 0)), J 11 (.lenR (.t 10)), J 12 (.move (kI 0))]
def Sr : List XI := [J 13 (.bin .lss (.t 12) (.t 11))]
def Tv : List XI := [J 14 (.indexAddr 6 (.t 10) (.t 12)), J 15 (.load true 6 (.t 14)), J 9 (.alloc [(.d (.int .i64 0)), (.d (.int .i64 0)), (.d (.str ⟨#[]⟩)), (.d (.str ⟨#[]⟩)), (.d (.str ⟨#[]⟩)), (.ex [])]), { dst := none, op := .store 6 (.t 9) (.t 15) }]
def SD : List XI := [J 16 (.call Ls [(.t 7)]), J 17 (.move (.t 16)), Jf 18 17 (.move (.t 1)), Jf 19 17 (.bin .geq (.t 18) (kI 1000)), J 20 (.pick (.t 17) kT (.t 19))]
def Ti : List XI := [J 21 (.build [(.d (.int .i64 0)), (.d (.int .i64 0))] [(0, 1, (kI 1000)), (1, 1, (kI 1000))]), { dst := none, op := .store 2 (.t 6) (.t 21) }]
def Su : List XI := [J 22 (.move (.t 2)), J 23 (.load true 6 (.t 9)), J 24 (.move (.t 1)), J 25 (.dyn (.t 22) [(.t 23), (.t 24)]), J 26 (.call H6 [(.t 7), (.t 25)])]
def Tj : List XI := [J 27 (.bin .add (.t 12) (kI 1)), J 12 (.move (.t 27))]
def Si : XC :=
 (sr Sr
 (.seq (.cond (.t 13)
 .skip
 (.exit 0))
 (.seq (.block 1 (sr Tv
 (.seq (sr SD
 (.cond (.t 20)
 (sr Ti
 .ret)
 .skip))
 (.region Su))))
 (.region Tj))))
def Qx : List XI := [J 28 (.load true 2 (.t 7)), { dst := none, op := .store 2 (.t 6) (.t 28) }]
def NJ : XC :=
 (sr SU
 (sr S1
 (.seq (sr Sg
 (.block 0 (.loop Si)))
 (sr Qx
 .ret))))
theorem Y2 : Fn PR Hn 29 NJ [.cell 6 true 2] := mF Tryz.call139 Tryz.func139 rfl rfl (by kernel_rfl) (by kernel_rfl)
def Al0 : List XI := [J 2 (.box (.t 0)), J 4 (.alloc [(.d (.int .i64 0)), (.d (.int .i64 0))])]
def Ag9 : List XI := [J 5 (.fieldAddr 5 (.t 2)), J 6 (.load false 1 (.t 5)), J 7 (.move (.t 1)), J 8 (.bin .add (.t 7) (kI 1)), J 9 (.call Hn [(.t 6), (.t 8), (.c (.fn GS [] []))]), J 10 (.call AL2 [(.t 9)]), { dst := none, op := .store 2 (.t 4) (.t 10) }]
def Ae8 : XC :=
 (sr Al0
 (sr Ag9
 .ret))
theorem AX6 : Fn PR GS 11 Ae8 [.cell 4 true 2] := mF Tryz.call140 Tryz.func140 rfl rfl (by kernel_rfl) (by kernel_rfl)
def Bg8 : List XI := [J 1 (.box (.t 0)), J 2 (.alloc [(.d (.int .i64 0)), (.d (.int .i64 0))])]
def Be4 : List XI := [J 3 (.fieldAddr 0 (.t 1)), J 4 (.load false 1 (.t 3)), J 5 (.bin .add (.t 4) (kI 1)), J 6 (.minmax false (.t 5) [(kI 1000)]), J 7 (.fieldAddr 1 (.t 1)), J 8 (.load false 1 (.t 7)), J 9 (.bin .add (.t 8) (kI 1)), J 10 (.minmax false (.t 9) [(kI 1000)]), J 11 (.build [(.d (.int .i64 0)), (.d (.int .i64 0))] [(0, 1, (.t 6)), (1, 1, (.t 10))]), { dst := none, op := .store 2 (.t 2) (.t 11) }]
def Bv7 : XC :=
 (sr Bg8
 (sr Be4
 .ret))
theorem BO3 : Fn PR AL2 12 Bv7 [.cell 2 true 2] := mF Tryz.call141 Tryz.func141 rfl rfl (by kernel_rfl) (by kernel_rfl)
def Ax0 : List XI := [J 6 (.move kF)]
def Ai1 : List XI := [J 7 (.move (.t 0)), J 8 (.move (.t 1)), J 9 (.bin .geq (.t 7) (.t 8)), J 10 (.move (.t 9)), Jt 11 10 (.move (.t 0)), Jt 12 10 (.move (.t 2)), Jt 13 10 (.bin .leq (.t 11) (.t 12)), J 14 (.pick (.t 10) (.t 13) kF)]
def Tc : List XI := [J 6 (.move (.t 14))]
def AI1 : List XI := Ai1 ++ (Tc)
def AN9 : XC :=
 (sr Ax0
 (sr AI1
 .ret))
theorem Bq1 : Fn PR Kt 15 AN9 [.tmp 6] := mF Tryz.call142 Tryz.func142 rfl rfl (by kernel_rfl) (by kernel_rfl)
def Bl1 : List XI := [J 2 (.move kF)]
def Ax6 : List XI := [J 3 (.move (.t 0)), J 4 (.call Lh [(.t 3)]), J 5 (.move (.t 4)), Jt 6 5 (.move (.t 0)), Jt 7 5 (.call Cm [(.t 6), (.c (.fn TL [] []))]), Jt 8 5 (.not (.t 7)), J 9 (.pick (.t 5) (.t 8) kF)]
def YB : List XI := [J 2 (.move (.t 9))]
def Bl5 : List XI := Ax6 ++ (YB)
def Bx0 : XC :=
 (sr Bl1
 (sr Bl5
 .ret))
theorem BN9 : Fn PR JK 10 Bx0 [.tmp 2] := mF Tryz.call143 Tryz.func143 rfl rfl (by kernel_rfl) (by kernel_rfl)
def DF : List XI := [J 4 (.move kF)]
def DD : List XI := [J 5 (.move (.t 0)), J 6 (.move (.t 1)), J 7 (.call Cb [(.t 5), (.t 6)]), J 8 (.bin .geq (.t 7) (kI 0)), J 4 (.move (.t 8))]
def CS : XC :=
 (sr DF
 (sr DD
 .ret))
theorem Ey : Fn PR BV 9 CS [.tmp 4] := mF Tryz.call145 Tryz.func145 rfl rfl (by kernel_rfl) (by kernel_rfl)
def Af0 : List XI := [J 1 (.box (.t 0)), J 2 (.move kF)]
def Ad7 : List XI := [J 3 (.load true 8 (.t 1)), J 4 (.call MS [(.t 3)]), J 5 (.not (.t 4)), J 2 (.move (.t 5))]
def Af2 : XC :=
 (sr Af0
 (sr Ad7
 .ret))
theorem AS6 : Fn PR GN 6 Af2 [.tmp 2] := mF Tryz.call146 Tryz.func146 rfl rfl (by kernel_rfl) (by kernel_rfl)
def AU3 : List XI := [J 1 (.box (.t 0)), J 2 (.move kF)]
def Ap3 : List XI := [J 3 (.load true 8 (.t 1)), J 4 (.call AF9 [(.t 3)]), J 5 (.move (.t 4)), Jt 6 5 (.fieldAddr 5 (.t 1)), Jt 7 5 (.load false 1 (.t 6)), Jt 8 5 (.call Bv [(.t 7), (.c (.fn X3 [] []))]), Jt 9 5 (.not (.t 8)), J 10 (.pick (.t 5) (.t 9) kF)]
def Ap0 : List XI := [J 11 (.move (.t 10)), Jt 12 11 (.fieldAddr 6 (.t 1)), Jt 13 11 (.load false 1 (.t 12)), Jt 14 11 (.call Gw [(.t 13)]), J 15 (.pick (.t 11) (.t 14) kF)]
def Aq5 : List XI := [J 16 (.move (.t 15)), Jt 17 16 (.fieldAddr 7 (.t 1)), Jt 18 16 (.load false 1 (.t 17)), Jt 19 16 (.call Gw [(.t 18)]), J 20 (.pick (.t 16) (.t 19) kF)]
def UN : List XI := [J 2 (.move (.t 20))]
def AW2 : List XI := Ap3 ++ (Ap0 ++ (Aq5 ++ (UN)))
def Be5 : XC :=
 (sr AU3
 (sr AW2
 .ret))
theorem BA8 : Fn PR MS 21 Be5 [.tmp 2] := mF Tryz.call147 Tryz.func147 rfl rfl (by kernel_rfl) (by kernel_rfl)
def Zh : List XI := [J 1 (.box (.t 0)), J 2 (.move kF)]
def YV : List XI := [J 6 (.fieldAddr 0 (.t 1)), J 7 (.load false 1 (.t 6)), J 8 (.call Az0 [(.t 7)]), J 5 (.move (.t 8)), J 9 (.extract (.t 5) 0), J 10 (.extract (.t 5) 1), J 3 (.move (.t 9)), J 4 (.move (.t 10))]
def T7 : List XI := [J 11 (.move (.t 3)), J 12 (.fieldAddr 5 (.t 1)), J 13 (.load false 1 (.t 12)), J 14 (.lenR (.t 13)), J 15 (.bin .eql (.t 11) (.t 14)), J 16 (.move (.t 15)), Jt 17 16 (.load true 6 (.t 1)), Jt 18 16 (.call Am0 [(.t 17)]), J 19 (.pick (.t 16) (.t 18) kF)]
def Ua : List XI := [J 20 (.move (.t 19)), Jt 21 20 (.fieldAddr 5 (.t 1)), Jt 22 20 (.load false 1 (.t 21)), Jt 23 20 (.call Bv [(.t 22), (.c (.fn Gv [] []))]), Jt 24 20 (.not (.t 23)), J 25 (.pick (.t 20) (.t 24) kF)]
def KK : List XI := [J 2 (.move (.t 25))]
def YW : List XI := T7 ++ (Ua ++ (KK))
def Xv : XC :=
 (sr Zh
 (sr YV
 (sr YW
 .ret)))
theorem AB2 : Fn PR E4 26 Xv [.tmp 2] := mF Tryz.call157 Tryz.func157 rfl rfl (by kernel_rfl) (by kernel_rfl)
def Nl : List XI := [J 2 (.alloc [(.d (.int .i64 0)), (.d (.int .i64 0)), (.d (.str ⟨#[]⟩)), (.d (.str ⟨#[]⟩)), (.d (.str ⟨#[]⟩)), (.ex [])])]
def MW : List XI := [J 20 (.move (.t 0)), J 21 (.nilCheck (.t 20)), J 22 (.fieldAddr 4 (.t 21)), J 23 (.load false 1 (.t 22)), J 19 (.move (.t 23))]
def M7 : List XI := [J 25 (.move (.t 0)), J 26 (.call AD [(.t 25), (kS #[45])]), J 24 (.move (.t 26))]
def Ng : List XI := [J 27 (.move (.t 0)), J 28 (.call Bn [(.t 27)])]
def MX : List XI := [J 29 (.move (.t 0)), J 30 (.call Dz [(.t 29)]), J 3 (.alloc [(.d (.int .i64 0)), (.d (.int .i64 0)), (.d (.str ⟨#[]⟩)), (.d (.str ⟨#[]⟩)), (.d (.str ⟨#[]⟩)), (.ex [])]), { dst := none, op := .store 6 (.t 3) (.t 30) }]
def MN : List XI := [J 31 (.move (.t 0)), J 32 (.nilCheck (.t 31)), J 33 (.fieldAddr 2 (.t 32)), J 34 (.load false 1 (.t 33)), J 35 (.bin .sub (.t 34) (kI 1)), J 36 (.nilCheck (.t 31)), J 37 (.fieldAddr 2 (.t 36)), { dst := none, op := .store 1 (.t 37) (.t 35) }]
def Nq : List XI := [J 38 (.load true 6 (.t 3)), J 39 (.buildSlice 6 [(.t 38)]), J 40 (.build [(.d (.int .i64 0)), (.d (.int .i64 0)), (.d (.str ⟨#[]⟩)), (.d (.str ⟨#[]⟩)), (.d (.str ⟨#[]⟩)), (.ex [])] [(0, 1, (kI 20)), (5, 1, (.t 39))]), { dst := none, op := .store 6 (.t 2) (.t 40) }]
def M4 : List XI := [J 42 (.move (.t 0)), J 43 (.call CF [(.t 42), (kI 1)]), J 41 (.move (.t 43))]
def M6 : List XI := [J 44 (.move (.t 0)), J 45 (.call Fz [(.t 44)]), J 46 (.build [(.d (.int .i64 0)), (.d (.int .i64 0)), (.d (.str ⟨#[]⟩)), (.d (.str ⟨#[]⟩)), (.d (.str ⟨#[]⟩)), (.ex [])] [(0, 1, (kI 1)), (1, 1, (.t 45))]), { dst := none, op := .store 6 (.t 2) (.t 46) }]
def Nt : List XI := [J 48 (.move (.t 0)), J 49 (.call CF [(.t 48), (kI 2)]), J 47 (.move (.t 49))]
def Mr : List XI := [J 50 (.move (.t 0)), J 51 (.nilCheck (.t 50)), J 52 (.fieldAddr 1 (.t 51)), J 53 (.load false 1 (.t 52)), J 54 (.bin .add (.t 53) (kI 1)), J 55 (.nilCheck (.t 50)), J 56 (.fieldAddr 1 (.t 55)), { dst := none, op := .store 1 (.t 56) (.t 54) }]
def Mm : List XI := [J 57 (.move (.t 0)), J 58 (.nilCheck (.t 57)), J 59 (.fieldAddr 0 (.t 58)), J 60 (.load false 1 (.t 59)), J 61 (.move (.t 0)), J 62 (.nilCheck (.t 61)), J 63 (.fieldAddr 1 (.t 62)), J 64 (.load false 1 (.t 63)), J 65 (.bin .sub (.t 64) (kI 1)), J 66 (.indexAddr 4 (.t 60) (.t 65)), J 67 (.fieldAddr 1 (.t 66)), J 68 (.load false 1 (.t 67)), J 69 (.build [(.d (.int .i64 0)), (.d (.int .i64 0)), (.d (.str ⟨#[]⟩)), (.d (.str ⟨#[]⟩)), (.d (.str ⟨#[]⟩)), (.ex [])] [(0, 1, (kI 2)), (2, 1, (.t 68))]), { dst := none, op := .store 6 (.t 2) (.t 69) }]
def LO : List XI := [J 71 (.move (.t 0)), J 72 (.call AD [(.t 71), (kS #[116, 114, 117, 101])]), J 70 (.move (.t 72))]
def L7 : List XI := [J 73 (.build [(.d (.int .i64 0)), (.d (.int .i64 0)), (.d (.str ⟨#[]⟩)), (.d (.str ⟨#[]⟩)), (.d (.str ⟨#[]⟩)), (.ex [])] [(0, 1, (kI 3)), (1, 1, (kI 1))]), { dst := none, op := .store 6 (.t 2) (.t 73) }]
def Mp : List XI := [J 75 (.move (.t 0)), J 76 (.call AD [(.t 75), (kS #[102, 97, 108, 115, 101])]), J 74 (.move (.t 76))]
def LD : List XI := [J 77 (.build [(.d (.int .i64 0)), (.d (.int .i64 0)), (.d (.str ⟨#[]⟩)), (.d (.str ⟨#[]⟩)), (.d (.str ⟨#[]⟩)), (.ex [])] [(0, 1, (kI 3))]), { dst := none, op := .store 6 (.t 2) (.t 77) }]
def Ms : List XI := [J 79 (.move (.t 0)), J 80 (.call AD [(.t 79), (kS #[40])]), J 78 (.move (.t 80))]
def Mh : List XI := [J 81 (.move (.t 0)), J 82 (.call Bn [(.t 81)])]
def LW : List XI := [J 83 (.move (.t 0)), J 84 (.call Bb [(.t 83), (kI 1)]), J 4 (.alloc [(.d (.int .i64 0)), (.d (.int .i64 0)), (.d (.str ⟨#[]⟩)), (.d (.str ⟨#[]⟩)), (.d (.str ⟨#[]⟩)), (.ex [])]), { dst := none, op := .store 6 (.t 4) (.t 84) }]
def LI : List XI := [J 85 (.move (.t 0)), J 86 (.call AI [(.t 85), (kS #[41])])]
def LX : List XI := [J 87 (.move (.t 0)), J 88 (.nilCheck (.t 87)), J 89 (.fieldAddr 2 (.t 88)), J 90 (.load false 1 (.t 89)), J 91 (.bin .sub (.t 90) (kI 1)), J 92 (.nilCheck (.t 87)), J 93 (.fieldAddr 2 (.t 92)), { dst := none, op := .store 1 (.t 93) (.t 91) }]
def LC : List XI := [J 94 (.load true 6 (.t 4)), { dst := none, op := .store 6 (.t 2) (.t 94) }]
def KQ : List XI := [J 96 (.move (.t 0)), J 97 (.call AX [(.t 96), (kS #[99, 111, 117, 110, 116])]), J 98 (.move (.t 97)), Jf 99 98 (.move (.t 0)), Jf 100 98 (.call AX [(.t 99), (kS #[115, 117, 109])]), J 101 (.pick (.t 98) kT (.t 100))]
def K7 : List XI := [J 102 (.move (.t 101)), Jf 103 102 (.move (.t 0)), Jf 104 102 (.call AX [(.t 103), (kS #[109, 105, 110])]), J 105 (.pick (.t 102) kT (.t 104))]
def KI : List XI := [J 106 (.move (.t 105)), Jf 107 106 (.move (.t 0)), Jf 108 106 (.call AX [(.t 107), (kS #[109, 97, 120])]), J 109 (.pick (.t 106) kT (.t 108))]
def K8 : List XI := [J 95 (.move (.t 109))]
def LV : List XI := KQ ++ (K7 ++ (KI ++ (K8)))
def LM : List XI := [J 110 (.buildSlice 1 [(kS #[99, 111, 117, 110, 116]), (kS #[115, 117, 109]), (kS #[109, 105, 110]), (kS #[109, 97, 120])]), J 5 (.move (.t 110))]
def LP : List XI := [J 111 (.build [(.d (.int .i64 0)), (.d (.int .i64 0)), (.d (.str ⟨#[]⟩)), (.d (.str ⟨#[]⟩)), (.d (.str ⟨#[]⟩)), (.ex [])] []), J 6 (.alloc [(.d (.int .i64 0)), (.d (.int .i64 0)), (.d (.str ⟨#[]⟩)), (.d (.str ⟨#[]⟩)), (.d (.str ⟨#[]⟩)), (.ex [])]), { dst := none, op := .store 6 (.t 6) (.t 111) }]
def LB : List XI := [J 7 (.move (kI 0))]
def LR : List XI := [J 112 (.move (.t 7)), J 113 (.bin .lss (.t 112) (kI 4))]
def Mx : List XI := [J 116 (.fieldAddr 0 (.t 6)), J 117 (.load false 1 (.t 116)), J 118 (.bin .eql (.t 117) (kI 0)), J 119 (.move (.t 118)), Jt 120 119 (.move (.t 0)), Jt 121 119 (.move (.t 5)), Jt 122 119 (.move (.t 7)), Jt 123 119 (.indexAddr 1 (.t 121) (.t 122)), Jt 124 119 (.load false 1 (.t 123)), Jt 125 119 (.call AD [(.t 120), (.t 124)]), J 126 (.pick (.t 119) (.t 125) kF)]
def Ml : List XI := [J 127 (.move (.t 7)), J 128 (.bin .add (kI 21) (.t 127)), J 129 (.fieldAddr 0 (.t 6)), { dst := none, op := .store 1 (.t 129) (.t 128) }]
def Me : List XI := [J 114 (.move (.t 7)), J 115 (.bin .add (.t 114) (kI 1)), J 7 (.move (.t 115))]
def LU : XC :=
 (.seq (sr LR
 (.cond (.t 113)
 .skip
 (.exit 1)))
 (.seq (.block 2 (sr Mx
 (.cond (.t 126)
 (.region Ml)
 .skip)))
 (.region Me)))
def Mq : List XI := [J 130 (.move (.t 0)), J 131 (.call AI [(.t 130), (kS #[40])])]
def Mn : List XI := [J 132 (.move (.t 0)), J 133 (.call Bn [(.t 132)])]
def L2 : List XI := [J 134 (.move (.t 0)), J 135 (.call AL [(.t 134)]), J 136 (.fieldAddr 3 (.t 6)), { dst := none, op := .store 1 (.t 136) (.t 135) }]
def L5 : List XI := [J 137 (.move (.t 0)), J 138 (.call AI [(.t 137), (kS #[105, 110])])]
def L9 : List XI := [J 139 (.move (.t 0)), J 140 (.call AL [(.t 139)]), J 141 (.fieldAddr 4 (.t 6)), { dst := none, op := .store 1 (.t 141) (.t 140) }]
def L3 : List XI := [J 142 (.move (.t 0)), J 143 (.call Ct [(.t 142)]), J 144 (.buildSlice 6 [(.t 143)]), J 145 (.fieldAddr 5 (.t 6)), { dst := none, op := .store 1 (.t 145) (.t 144) }]
def Mf : List XI := [J 146 (.fieldAddr 0 (.t 6)), J 147 (.load false 1 (.t 146)), J 148 (.bin .gtr (.t 147) (kI 21))]
def Ma : List XI := [J 149 (.move (.t 0)), J 150 (.call AI [(.t 149), (kS #[58])])]
def LN : List XI := [J 151 (.fieldAddr 5 (.t 6)), J 152 (.load false 1 (.t 151)), J 153 (.move (.t 0)), J 154 (.call Bb [(.t 153), (kI 1)]), J 155 (.buildSlice 6 [(.t 154)]), { dst := some 156, op := .append AO 6 88 (.t 152) (.t 155), nm := 1 }, J 157 (.fieldAddr 5 (.t 6)), { dst := none, op := .store 1 (.t 157) (.t 156) }]
def Mi : List XI := [J 158 (.move (.t 0)), J 159 (.call AI [(.t 158), (kS #[41])])]
def LA : List XI := [J 160 (.move (.t 0)), J 161 (.nilCheck (.t 160)), J 162 (.fieldAddr 2 (.t 161)), J 163 (.load false 1 (.t 162)), J 164 (.bin .sub (.t 163) (kI 1)), J 165 (.nilCheck (.t 160)), J 166 (.fieldAddr 2 (.t 165)), { dst := none, op := .store 1 (.t 166) (.t 164) }]
def Mj : List XI := [J 167 (.load true 6 (.t 6)), { dst := none, op := .store 6 (.t 2) (.t 167) }]
def LY : List XI := [J 9 (.move (.t 0)), J 10 (.call AL [(.t 9)]), J 11 (.build [(.d (.int .i64 0)), (.d (.int .i64 0)), (.d (.str ⟨#[]⟩)), (.d (.str ⟨#[]⟩)), (.d (.str ⟨#[]⟩)), (.ex [])] [(0, 1, (kI 4)), (3, 1, (.t 10))]), J 8 (.alloc [(.d (.int .i64 0)), (.d (.int .i64 0)), (.d (.str ⟨#[]⟩)), (.d (.str ⟨#[]⟩)), (.d (.str ⟨#[]⟩)), (.ex [])]), { dst := none, op := .store 6 (.t 8) (.t 11) }]
def Mg : List XI := [J 12 (.move (.t 0)), J 13 (.call AD [(.t 12), (kS #[46])])]
def LT : List XI := [J 14 (.fieldAddr 0 (.t 8)), { dst := none, op := .store 1 (.t 14) (kI 5) }]
def L1 : List XI := [J 15 (.move (.t 0)), J 16 (.call AL [(.t 15)]), J 17 (.fieldAddr 2 (.t 8)), { dst := none, op := .store 1 (.t 17) (.t 16) }]
def LJ : List XI := [J 18 (.load true 6 (.t 8)), { dst := none, op := .store 6 (.t 2) (.t 18) }]
def L4 : List XI := [J 168 (.build [(.d (.int .i64 0)), (.d (.int .i64 0)), (.d (.str ⟨#[]⟩)), (.d (.str ⟨#[]⟩)), (.d (.str ⟨#[]⟩)), (.ex [])] []), { dst := none, op := .store 6 (.t 2) (.t 168) }]
def H4 : XC :=
 (sr Nl
 (.seq (.block 0 (sr MW
 (.cond (.t 19)
 .skip
 (sr M7
 (.cond (.t 24)
 (sr Ng
 (sr MX
 (sr MN
 (sr Nq
 .ret))))
 (sr M4
 (.cond (.t 41)
 (sr M6
 .ret)
 (sr Nt
 (.cond (.t 47)
 (sr Mr
 (.seq (.regionS Mm 0)
 .ret))
 (sr LO
 (.cond (.t 70)
 (sr L7
 .ret)
 (sr Mp
 (.cond (.t 74)
 (sr LD
 .ret)
 (sr Ms
 (.cond (.t 78)
 (sr Mh
 (sr LW
 (sr LI
 (sr LX
 (sr LC
 .ret)))))
 (sr LV
 (.cond (.t 95)
 (sr LM
 (sr LP
 (.seq (sr LB
 (.block 1 (.loop LU)))
 (sr Mq
 (sr Mn
 (sr L2
 (sr L5
 (sr L9
 (sr L3
 (.seq (sr Mf
 (.cond (.t 148)
 (sr Ma
 (.regionD LN [[], [0], [], [2], [3, 2], [1, 0, 4, 3, 2], [0, 1, 2, 3, 4, 5], [6, 0, 1, 2, 3, 4, 5]] 2))
 .skip))
 (sr Mi
 (sr LA
 (sr Mj
 .ret)))))))))))))
 (sr LY
 (.seq (sr Mg
 (.cond (.t 13)
 (sr LT
 (.region L1))
 .skip))
 (sr LJ
 .ret))))))))))))))))))))
 (sr L4
 .ret)))
theorem S6 : Fn PR Dz 169 H4 [.cell 2 true 6] := mF Tryz.call159 Tryz.func159 rfl rfl (by kernel_rfl) (by kernel_rfl)
def RP : List XI := [J 2 (.move (kI 0)), J 3 (.move (kI 0))]
def Rx : List XI := [J 7 (.buildSlice 1 [(kS #[43]), (kS #[45]), (kS #[42]), (kS #[47]), (kS #[37]), (kS #[61]), (kS #[33, 61]), (kS #[60]), (kS #[60, 61]), (kS #[62, 61]), (kS #[62]), (kS #[97, 110, 100]), (kS #[111, 114])]), J 4 (.move (.t 7))]
def RO : List XI := [J 8 (.buildSlice 1 [(kI 4), (kI 4), (kI 5), (kI 5), (kI 5), (kI 3), (kI 3), (kI 3), (kI 3), (kI 3), (kI 3), (kI 2), (kI 1)]), J 5 (.move (.t 8))]
def RM : List XI := [J 6 (.move (kI 0))]
def Rl : List XI := [J 9 (.move (.t 6)), J 10 (.move (.t 4)), J 11 (.lenR (.t 10)), J 12 (.bin .lss (.t 9) (.t 11))]
def Rt : List XI := [J 15 (.move (.t 0)), J 16 (.move (.t 4)), J 17 (.move (.t 6)), J 18 (.indexAddr 1 (.t 16) (.t 17)), J 19 (.load false 1 (.t 18)), J 20 (.call AX [(.t 15), (.t 19)])]
def RY : List XI := [J 21 (.move (.t 6)), J 22 (.bin .add (.t 21) (kI 6)), J 23 (.move (.t 5)), J 24 (.move (.t 6)), J 25 (.indexAddr 1 (.t 23) (.t 24)), J 26 (.load false 1 (.t 25)), J 2 (.move (.t 22)), J 3 (.move (.t 26))]
def Q1 : List XI := [J 13 (.move (.t 6)), J 14 (.bin .add (.t 13) (kI 1)), J 6 (.move (.t 14))]
def R2 : XC :=
 (.seq (sr Rl
 (.cond (.t 12)
 .skip
 (.exit 0)))
 (.seq (.block 1 (sr Rt
 (.cond (.t 20)
 (.seq (.regionS RY 0)
 .ret)
 .skip)))
 (.region Q1)))
def R4 : List XI := [J 2 (.move (kI 0)), J 3 (.move (kI 0))]
def Jq : XC :=
 (sr RP
 (sr Rx
 (sr RO
 (.seq (sr RM
 (.block 0 (.loop R2)))
 (sr R4
 .ret)))))
theorem Uo : Fn PR FX 27 Jq [.tmp 2, .tmp 3] := mF Tryz.call160 Tryz.func160 rfl rfl (by kernel_rfl) (by kernel_rfl)
def Ag0 : List XI := [J 2 (.move kF)]
def Ak9 : List XI := [J 5 (.buildSlice 1 [(kS #[97, 110, 100]), (kS #[111, 114]), (kS #[110, 111, 116]), (kS #[116, 114, 117, 101]), (kS #[102, 97, 108, 115, 101]), (kS #[108, 101, 116]), (kS #[115, 101, 116]), (kS #[105, 110, 115, 101, 114, 116]), (kS #[117, 112, 100, 97, 116, 101]), (kS #[100, 101, 108, 101, 116, 101]), (kS #[102, 111, 114]), (kS #[105, 110]), (kS #[119, 104, 101, 114, 101]), (kS #[108, 105, 109, 105, 116]), (kS #[105, 102]), (kS #[101, 108, 115, 101]), (kS #[101, 109, 105, 116]), (kS #[97, 98, 111, 114, 116]), (kS #[114, 101, 112, 108, 121]), (kS #[99, 111, 117, 110, 116]), (kS #[115, 117, 109]), (kS #[109, 105, 110]), (kS #[109, 97, 120]), (kS #[105, 110, 116]), (kS #[116, 101, 120, 116]), (kS #[98, 111, 111, 108]), (kS #[116, 97, 98, 108, 101]), (kS #[115, 116, 114, 101, 97, 109]), (kS #[119, 105, 110, 100, 111, 119]), (kS #[115, 105, 110, 107]), (kS #[112, 114, 111, 99]), (kS #[107, 101, 121]), (kS #[117, 110, 105, 113, 117, 101]), (kS #[105, 110, 100, 101, 120]), (kS #[112, 97, 114, 116, 115]), (kS #[98, 121]), (kS #[111, 110]), (kS #[102, 114, 111, 109]), (kS #[97, 116]), (kS #[102, 117, 101, 108]), (kS #[116, 117, 112, 108, 101, 115]), (kS #[98, 97, 116, 99, 104, 101, 115]), (kS #[115, 108, 105, 100, 101])]), J 3 (.move (.t 5))]
def Aj0 : List XI := [J 4 (.move (kI 0))]
def Ag8 : List XI := [J 6 (.move (.t 4)), J 7 (.move (.t 3)), J 8 (.lenR (.t 7)), J 9 (.bin .lss (.t 6) (.t 8))]
def Aj6 : List XI := [J 12 (.move (.t 3)), J 13 (.move (.t 4)), J 14 (.indexAddr 1 (.t 12) (.t 13)), J 15 (.load false 1 (.t 14)), J 16 (.move (.t 0)), J 17 (.bin .eql (.t 15) (.t 16))]
def Ai3 : List XI := [J 2 (.move kT)]
def Ae7 : List XI := [J 10 (.move (.t 4)), J 11 (.bin .add (.t 10) (kI 1)), J 4 (.move (.t 11))]
def Ai5 : XC :=
 (.seq (sr Ag8
 (.cond (.t 9)
 .skip
 (.exit 0)))
 (.seq (.block 1 (sr Aj6
 (.cond (.t 17)
 (sr Ai3
 .ret)
 .skip)))
 (.region Ae7)))
def Ae5 : List XI := [J 2 (.move kF)]
def Al6 : XC :=
 (sr Ag0
 (sr Ak9
 (.seq (sr Aj0
 (.block 0 (.loop Ai5)))
 (sr Ae5
 .ret))))
theorem AS7 : Fn PR M9 18 Al6 [.tmp 2] := mF Tryz.call161 Tryz.func161 rfl rfl (by kernel_rfl) (by kernel_rfl)
def BE1 : List XI := [J 4 (.move kF)]
def BE7 : List XI := [J 5 (.move (kI 0))]
def BE2 : List XI := [J 6 (.move (.t 5)), J 7 (.move (.t 0)), J 8 (.lenS (.t 7)), J 9 (.bin .lss (.t 6) (.t 8))]
def BF2 : List XI := [J 12 (.move (.t 0)), J 13 (.move (.t 5)), J 14 (.indexStr (.t 12) (.t 13)), J 15 (.move (.t 1)), J 16 (.bin .eql (.t 14) (.t 15))]
def BD1 : List XI := [J 4 (.move kT)]
def Bz1 : List XI := [J 10 (.move (.t 5)), J 11 (.bin .add (.t 10) (kI 1)), J 5 (.move (.t 11))]
def Bz7 : XC :=
 (.seq (sr BE2
 (.cond (.t 9)
 .skip
 (.exit 0)))
 (.seq (.block 1 (sr BF2
 (.cond (.t 16)
 (sr BD1
 .ret)
 .skip)))
 (.region Bz1)))
def Bz9 : List XI := [J 4 (.move kF)]
def BX2 : XC :=
 (sr BE1
 (.seq (sr BE7
 (.block 0 (.loop Bz7)))
 (sr Bz9
 .ret)))
theorem Cf0 : Fn PR Ah2 17 BX2 [.tmp 4] := mF Tryz.call162 Tryz.func162 rfl rfl (by kernel_rfl) (by kernel_rfl)
def QV : List XI := [J 6 (.alloc [(.d (.str ⟨#[]⟩)), (.ex [])]), J 7 (.move kF)]
def Rk : List XI := [J 11 (.move (.t 0)), J 12 (.lenR (.t 11)), J 13 (.move (kI 0))]
def R5 : List XI := [J 14 (.bin .lss (.t 13) (.t 12))]
def RH : List XI := [J 15 (.indexAddr 2 (.t 11) (.t 13)), J 16 (.load true 2 (.t 15)), J 9 (.alloc [(.d (.str ⟨#[]⟩)), (.ex [])]), { dst := none, op := .store 2 (.t 9) (.t 16) }]
def Rr : List XI := [J 17 (.move (.t 2)), J 18 (.load true 2 (.t 9)), J 19 (.dyn (.t 17) [(.t 18)]), J 20 (.move (.t 1)), J 21 (.bin .eql (.t 19) (.t 20))]
def QP : List XI := [J 22 (.load true 2 (.t 9)), { dst := none, op := .store 2 (.t 6) (.t 22) }, J 7 (.move kT)]
def RJ : List XI := [J 23 (.bin .add (.t 13) (kI 1)), J 13 (.move (.t 23))]
def RN : XC :=
 (sr R5
 (.seq (.cond (.t 14)
 .skip
 (.exit 0))
 (.seq (.block 1 (sr RH
 (sr Rr
 (.cond (.t 21)
 (sr QP
 .ret)
 .skip))))
 (.region RJ))))
def Rb : List XI := [J 10 (.alloc [(.d (.str ⟨#[]⟩)), (.ex [])])]
def Q8 : List XI := [J 24 (.load true 2 (.t 10)), { dst := none, op := .store 2 (.t 6) (.t 24) }, J 7 (.move kF)]
def I8 : XC :=
 (sr QV
 (.seq (sr Rk
 (.block 0 (.loop RN)))
 (sr Rb
 (sr Q8
 .ret))))
theorem Uz : Fn PR F8 25 I8 [.cell 6 true 2, .tmp 7] := mF Tryz.call163 Tryz.func163 rfl rfl (by kernel_rfl) (by kernel_rfl)
def HW : List XI := [J 2 (.move (.c (.ex [])))]
def HZ : List XI := [J 3 (.move (.t 0)), J 4 (.eqNil false (.t 3))]
def HV : List XI := [J 2 (.move (.c (.ex [])))]
def HY : List XI := [J 5 (.buildSlice 2 []), J 6 (.move (.t 0)), J 7 (.append UG 2 24 (.t 5) (.t 6)), J 2 (.move (.t 7))]
def IY : XC :=
 (sr HW
 (.seq (sr HZ
 (.cond (.t 4)
 (sr HV
 .ret)
 .skip))
 (sr HY
 .ret)))
theorem IW : Fn PR Cd 8 IY [.tmp 2] := mF Tryz.call165 Tryz.func165 rfl rfl (by kernel_rfl) (by kernel_rfl)
def Z6 : List XI := [J 3 (.box (.t 1)), J 4 (.move (kI 0))]
def Z1 : List XI := [J 12 (.fieldAddr 0 (.t 3)), J 13 (.load false 1 (.t 12))]
def ZF : List XI := [J 15 (.bin .eql (.t 13) (kI 1)), J 14 (.move (.t 15))]
def ZJ : List XI := [J 4 (.move (kI 1))]
def Zl : List XI := [J 17 (.bin .eql (.t 13) (kI 2)), J 16 (.move (.t 17))]
def ZE : List XI := [J 4 (.move (kI 2))]
def ZR : List XI := [J 19 (.bin .eql (.t 13) (kI 3)), J 18 (.move (.t 19))]
def Zr : List XI := [J 4 (.move (kI 3))]
def Zs : List XI := [J 21 (.bin .eql (.t 13) (kI 4)), J 20 (.move (.t 21))]
def ZP : List XI := [J 23 (.move (.t 0)), J 24 (.fieldAddr 3 (.t 3)), J 25 (.load false 1 (.t 24)), J 26 (.call Ee [(.t 23), (.t 25)]), J 22 (.move (.t 26)), J 27 (.extract (.t 22) 0), J 28 (.extract (.t 22) 1), J 5 (.alloc [(.d (.int .i64 0)), (.ex []), (.d (.str ⟨#[]⟩)), (.d (.bool false))]), { dst := none, op := .store 4 (.t 5) (.t 27) }, J 6 (.move (.t 28))]
def XR : List XI := [J 29 (.fieldAddr 0 (.t 5)), J 30 (.fieldAddr 0 (.t 29)), J 31 (.load false 1 (.t 30)), J 4 (.move (.t 31))]
def Yg : List XI := [J 33 (.bin .eql (.t 13) (kI 5)), J 32 (.move (.t 33))]
def YH : List XI := [J 35 (.move (.t 0)), J 36 (.fieldAddr 3 (.t 3)), J 37 (.load false 1 (.t 36)), J 38 (.call Ee [(.t 35), (.t 37)]), J 34 (.move (.t 38)), J 39 (.extract (.t 34) 0), J 40 (.extract (.t 34) 1), J 7 (.alloc [(.d (.int .i64 0)), (.ex []), (.d (.str ⟨#[]⟩)), (.d (.bool false))]), { dst := none, op := .store 4 (.t 7) (.t 39) }, J 8 (.move (.t 40))]
def Xb : List XI := [J 41 (.fieldAddr 0 (.t 7)), J 42 (.fieldAddr 1 (.t 41)), J 43 (.load false 1 (.t 42)), J 44 (.fieldAddr 2 (.t 3)), J 45 (.load false 1 (.t 44)), J 46 (.call Sm [(.t 43), (.t 45)]), J 4 (.move (.t 46))]
def XH : List XI := [J 48 (.bin .eql (.t 13) (kI 19)), J 47 (.move (.t 48))]
def XQ : List XI := [J 49 (.bin .eql (.t 13) (kI 20)), J 47 (.move (.t 49))]
def Xw : List XI := [J 50 (.move (.t 0)), J 51 (.fieldAddr 5 (.t 3)), J 52 (.load false 1 (.t 51)), J 53 (.indexAddr 6 (.t 52) (kI 0)), J 54 (.load true 6 (.t 53)), J 55 (.call Br [(.t 50), (.t 54)]), J 9 (.move (.t 55))]
def UH : List XI := [J 56 (.fieldAddr 0 (.t 3)), J 57 (.load false 1 (.t 56)), J 58 (.bin .eql (.t 57) (kI 19)), J 59 (.move (.t 58)), Jt 60 59 (.move (.t 9)), Jt 61 59 (.bin .eql (.t 60) (kI 3)), J 62 (.pick (.t 59) (.t 61) kF)]
def Uq : List XI := [J 63 (.move (.t 62)), Jf 64 63 (.fieldAddr 0 (.t 3)), Jf 65 63 (.load false 1 (.t 64)), Jf 66 63 (.bin .eql (.t 65) (kI 20)), Jf 67 63 (.move (.t 66)), Jt 68 67 (.move (.t 9)), Jt 69 67 (.bin .eql (.t 68) (kI 1)), Jf 70 63 (.pick (.t 67) (.t 69) kF), J 71 (.pick (.t 63) kT (.t 70))]
def XY : List XI := UH ++ (Uq)
def X1 : List XI := [J 72 (.move (.t 9)), J 4 (.move (.t 72))]
def XV : List XI := [J 4 (.move (kI 0))]
def Xu : List XI := [J 74 (.bin .eql (.t 13) (kI 21)), J 73 (.move (.t 74))]
def Yz : List XI := [J 75 (.bin .eql (.t 13) (kI 22)), J 73 (.move (.t 75))]
def X0 : List XI := [J 76 (.bin .eql (.t 13) (kI 23)), J 73 (.move (.t 76))]
def Xh : List XI := [J 77 (.bin .eql (.t 13) (kI 24)), J 73 (.move (.t 77))]
def Yp : List XI := [J 79 (.move (.t 0)), J 80 (.fieldAddr 3 (.t 3)), J 81 (.load false 1 (.t 80)), J 82 (.fieldAddr 4 (.t 3)), J 83 (.load false 1 (.t 82)), J 84 (.call G3 [(.t 79), (.t 81), (.t 83)]), J 78 (.move (.t 84)), J 85 (.extract (.t 78) 0), J 86 (.extract (.t 78) 1), J 10 (.move (.t 85)), J 11 (.move (.t 86))]
def UE : List XI := [J 87 (.move (.t 11)), J 88 (.not (.t 87)), J 89 (.move (.t 88)), Jf 90 89 (.move (.t 10)), Jf 91 89 (.fieldAddr 5 (.t 3)), Jf 92 89 (.load false 1 (.t 91)), Jf 93 89 (.indexAddr 6 (.t 92) (kI 0)), Jf 94 89 (.load true 6 (.t 93)), Jf 95 89 (.call Br [(.t 90), (.t 94)]), Jf 96 89 (.bin .neq (.t 95) (kI 3)), J 97 (.pick (.t 89) kT (.t 96))]
def Up : List XI := [J 98 (.move (.t 97)), Jf 99 98 (.fieldAddr 0 (.t 3)), Jf 100 98 (.load false 1 (.t 99)), Jf 101 98 (.bin .neq (.t 100) (kI 21)), Jf 102 98 (.move (.t 101)), Jt 103 102 (.move (.t 10)), Jt 104 102 (.fieldAddr 5 (.t 3)), Jt 105 102 (.load false 1 (.t 104)), Jt 106 102 (.indexAddr 6 (.t 105) (kI 1)), Jt 107 102 (.load true 6 (.t 106)), Jt 108 102 (.call Br [(.t 103), (.t 107)]), Jt 109 102 (.bin .neq (.t 108) (kI 1)), Jf 110 98 (.pick (.t 102) (.t 109) kF), J 111 (.pick (.t 98) kT (.t 110))]
def Yf : List XI := UE ++ (Up)
def Yn : List XI := [J 4 (.move (kI 0))]
def Xt : List XI := [J 4 (.move (kI 1))]
def Yq : List XI := [J 112 (.fieldAddr 0 (.t 3)), J 113 (.load false 1 (.t 112)), J 114 (.move (.t 0)), J 115 (.fieldAddr 5 (.t 3)), J 116 (.load false 1 (.t 115)), J 117 (.indexAddr 6 (.t 116) (kI 0)), J 118 (.load true 6 (.t 117)), J 119 (.call Br [(.t 114), (.t 118)]), J 120 (.move (.t 0)), J 121 (.fieldAddr 5 (.t 3)), J 122 (.load false 1 (.t 121)), J 123 (.indexAddr 6 (.t 122) (kI 1)), J 124 (.load true 6 (.t 123)), { dst := some 125, op := .call Br [(.t 120), (.t 124)], nm := 1 }, { dst := some 126, op := .call Bv6 [(.t 113), (.t 119), (.t 125)], nm := 2 }, J 4 (.move (.t 126))]
def Tk : XC :=
 (sr Z6
 (.seq (sr Z1
 (.block 0 (sr ZF
 (.cond (.t 14)
 (sr ZJ
 .ret)
 (sr Zl
 (.cond (.t 16)
 (sr ZE
 .ret)
 (sr ZR
 (.cond (.t 18)
 (sr Zr
 .ret)
 (sr Zs
 (.cond (.t 20)
 (sr ZP
 (sr XR
 .ret))
 (sr Yg
 (.cond (.t 32)
 (sr YH
 (sr Xb
 .ret))
 (.seq (sr XH
 (.cond (.t 47)
 .skip
 (.region XQ)))
 (.cond (.t 47)
 (sr Xw
 (.seq (sr XY
 (.cond (.t 71)
 (sr X1
 .ret)
 .skip))
 (sr XV
 .ret)))
 (.seq (sr Xu
 (.cond (.t 73)
 .skip
 (sr Yz
 (.cond (.t 73)
 .skip
 (sr X0
 (.cond (.t 73)
 .skip
 (.region Xh)))))))
 (.cond (.t 73)
 (sr Yp
 (.seq (sr Yf
 (.cond (.t 111)
 (sr Yn
 .ret)
 .skip))
 (sr Xt
 .ret)))
 .skip))))))))))))))))
 (.seq (.regionD Yq [[], [0], [], [], [3], [4, 3], [5, 4, 3], [2, 6, 5, 4, 3], [], [], [9], [10, 9], [11, 10, 9], [8, 12, 11, 10, 9, 7, 2, 6, 5, 4, 3], [1, 0, 7, 2, 6, 5, 4, 3, 13, 8, 12, 11, 10, 9], [14, 1, 0, 7, 2, 6, 5, 4, 3, 13, 8, 12, 11, 10, 9]] 3)
 .ret)))
theorem As8 : Fn PR Br 127 Tk [.tmp 4] := mF Tryz.call166 Tryz.func166 rfl rfl (by kernel_rfl) (by kernel_rfl)
def Aa9 : List XI := [J 3 (.box (.t 1)), J 4 (.move (.c .nilp)), J 5 (.move kF)]
def Zi : List XI := [J 9 (.move (.t 0)), J 10 (.fieldAddr 2 (.t 3)), J 11 (.load false 1 (.t 10)), J 12 (.call Ee [(.t 9), (.t 11)]), J 8 (.move (.t 12)), J 13 (.extract (.t 8) 0), J 14 (.extract (.t 8) 1), J 6 (.alloc [(.d (.int .i64 0)), (.ex []), (.d (.str ⟨#[]⟩)), (.d (.bool false))]), { dst := none, op := .store 4 (.t 6) (.t 13) }, J 7 (.move (.t 14))]
def Zj : List XI := [J 15 (.move (.t 0)), J 16 (.nilCheck (.t 15)), J 17 (.fieldAddr 0 (.t 16)), J 18 (.load true 5 (.t 17)), J 19 (.move (.t 0)), J 20 (.nilCheck (.t 19)), J 21 (.fieldAddr 5 (.t 20)), J 22 (.load true 6 (.t 21)), J 23 (.move (.t 0)), J 24 (.nilCheck (.t 23)), J 25 (.fieldAddr 11 (.t 24)), J 26 (.load false 1 (.t 25)), J 27 (.call CW [(.t 26)]), { dst := some 28, op := .call C3 [(.t 27)], nm := 1 }, J 29 (.load true 4 (.t 3)), J 30 (.buildSlice 4 [(.t 29)]), { dst := some 31, op := .append K3 4 56 (.t 28) (.t 30), nm := 2 }, J 32 (.build [(.ex []), (.ex []), (.ex []), (.ex []), (.ex []), (.d (.str ⟨#[]⟩)), (.d (.str ⟨#[]⟩)), (.d (.str ⟨#[]⟩)), (.d (.int .i64 0)), (.ex []), (.ex []), (.ex [])] [(0, 5, (.t 18)), (5, 6, (.t 22)), (11, 1, (.t 31))]), { dst := some 33, op := .box (.t 32), nm := 3 }, J 34 (.move (.t 7)), J 35 (.not (.t 34)), J 4 (.move (.t 33)), J 5 (.move (.t 35))]
def SL : XC :=
 (sr Aa9
 (sr Zi
 (.seq (.regionD Zj [[], [0], [1, 0], [2, 1, 0], [], [4], [5, 4], [6, 5, 4], [], [8], [9, 8], [10, 9, 8], [11, 10, 9, 8], [12, 11, 10, 9, 8], [], [14], [13, 12, 11, 10, 9, 8, 15, 14], [3, 2, 1, 0, 7, 6, 5, 4, 16, 13, 12, 11, 10, 9, 8, 15, 14], [17, 3, 2, 1, 0, 7, 6, 5, 4, 16, 13, 12, 11, 10, 9, 8, 15, 14], [], [19], [18, 17, 3, 2, 1, 0, 7, 6, 5, 4, 16, 13, 12, 11, 10, 9, 8, 15, 14], [20, 19, 21, 18, 17, 3, 2, 1, 0, 7, 6, 5, 4, 16, 13, 12, 11, 10, 9, 8, 15, 14]] 4)
 .ret)))
theorem As3 : Fn PR He 36 SL [.tmp 4, .tmp 5] := mF Tryz.call167 Tryz.func167 rfl rfl (by kernel_rfl) (by kernel_rfl)
def Ab1 : List XI := [J 4 (.alloc [(.d (.int .i64 0)), (.ex []), (.d (.str ⟨#[]⟩)), (.d (.bool false))]), J 5 (.move kF)]
def ZT : List XI := [J 6 (.move (.t 0)), J 7 (.nilCheck (.t 6)), J 8 (.fieldAddr 11 (.t 7)), J 9 (.load false 1 (.t 8)), J 10 (.move (.t 1)), J 11 (.call FH [(.t 9), (.t 10), (.c (.fn Ij [] []))]), J 12 (.extract (.t 11) 0), J 13 (.extract (.t 11) 1), { dst := none, op := .store 4 (.t 4) (.t 12) }, J 5 (.move (.t 13))]
def ST : XC :=
 (sr Ab1
 (sr ZT
 .ret))
theorem At8 : Fn PR Ee 14 ST [.cell 4 true 4, .tmp 5] := mF Tryz.call168 Tryz.func168 rfl rfl (by kernel_rfl) (by kernel_rfl)
def Zp : List XI := [J 6 (.move (.c .nilp)), J 7 (.move kF)]
def Z4 : List XI := [J 13 (.move (.t 0)), J 14 (.nilCheck (.t 13)), J 15 (.fieldAddr 0 (.t 14)), J 16 (.load true 5 (.t 15)), J 17 (.move (.t 0)), J 18 (.nilCheck (.t 17)), J 19 (.fieldAddr 5 (.t 18)), J 20 (.load true 6 (.t 19)), J 21 (.move (.t 2)), J 22 (.call YI [(.t 16), (.t 20), (.t 21)]), J 12 (.move (.t 22)), J 23 (.extract (.t 12) 0), J 24 (.extract (.t 12) 1), J 8 (.move (.t 23)), J 9 (.move (.t 24))]
def ZW : List XI := [J 26 (.move (.t 0)), J 27 (.move (.t 8)), J 28 (.build [(.d (.int .i64 0)), (.ex [])] [(1, 1, (.t 27))]), J 29 (.move (.t 1)), J 30 (.build [(.d (.int .i64 0)), (.ex []), (.d (.str ⟨#[]⟩)), (.d (.bool false))] [(0, 2, (.t 28)), (2, 1, (.t 29))]), J 31 (.call He [(.t 26), (.t 30)]), J 25 (.move (.t 31)), J 32 (.extract (.t 25) 0), J 33 (.extract (.t 25) 1), J 10 (.move (.t 32)), J 11 (.move (.t 33))]
def WK : List XI := [J 34 (.move (.t 10)), J 35 (.move (.t 9)), J 36 (.move (.t 35)), Jt 37 36 (.move (.t 11)), J 38 (.pick (.t 36) (.t 37) kF)]
def Vl : List XI := [J 6 (.move (.t 34)), J 7 (.move (.t 38))]
def Zz : List XI := WK ++ (Vl)
def SG : XC :=
 (sr Zp
 (.seq (.regionS Z4 1)
 (sr ZW
 (sr Zz
 .ret))))
theorem At1 : Fn PR G3 39 SG [.tmp 6, .tmp 7] := mF Tryz.call172 Tryz.func172 rfl rfl (by kernel_rfl) (by kernel_rfl)
def QE : List XI := [J 6 (.alloc [(.d (.str ⟨#[]⟩)), (.ex []), (.ex []), (.d (.int .i64 0)), (.d (.int .i64 0)), (.d (.int .i64 0))]), J 7 (.move kF)]
def R1 : List XI := [J 11 (.move (.t 0)), J 12 (.lenR (.t 11)), J 13 (.move (kI 0))]
def RF : List XI := [J 14 (.bin .lss (.t 13) (.t 12))]
def QN : List XI := [J 15 (.indexAddr 6 (.t 11) (.t 13)), J 16 (.load true 6 (.t 15)), J 9 (.alloc [(.d (.str ⟨#[]⟩)), (.ex []), (.ex []), (.d (.int .i64 0)), (.d (.int .i64 0)), (.d (.int .i64 0))]), { dst := none, op := .store 6 (.t 9) (.t 16) }]
def QS : List XI := [J 17 (.move (.t 2)), J 18 (.load true 6 (.t 9)), J 19 (.dyn (.t 17) [(.t 18)]), J 20 (.move (.t 1)), J 21 (.bin .eql (.t 19) (.t 20))]
def Qz : List XI := [J 22 (.load true 6 (.t 9)), { dst := none, op := .store 6 (.t 6) (.t 22) }, J 7 (.move kT)]
def RW : List XI := [J 23 (.bin .add (.t 13) (kI 1)), J 13 (.move (.t 23))]
def RC : XC :=
 (sr RF
 (.seq (.cond (.t 14)
 .skip
 (.exit 0))
 (.seq (.block 1 (sr QN
 (sr QS
 (.cond (.t 21)
 (sr Qz
 .ret)
 .skip))))
 (.region RW))))
def RZ : List XI := [J 10 (.alloc [(.d (.str ⟨#[]⟩)), (.ex []), (.ex []), (.d (.int .i64 0)), (.d (.int .i64 0)), (.d (.int .i64 0))])]
def Rp : List XI := [J 24 (.load true 6 (.t 10)), { dst := none, op := .store 6 (.t 6) (.t 24) }, J 7 (.move kF)]
def JD : XC :=
 (sr QE
 (.seq (sr R1
 (.block 0 (.loop RC)))
 (sr RZ
 (sr Rp
 .ret))))
theorem U5 : Fn PR F3 25 JD [.cell 6 true 6, .tmp 7] := mF Tryz.call175 Tryz.func175 rfl rfl (by kernel_rfl) (by kernel_rfl)
def At9 : List XI := [J 1 (.box (.t 0)), J 2 (.move (kS #[]))]
def Ar6 : List XI := [J 3 (.fieldAddr 0 (.t 1)), J 4 (.load false 1 (.t 3)), J 2 (.move (.t 4))]
def Zf : XC :=
 (sr At9
 (sr Ar6
 .ret))
theorem Bc3 : Fn PR PY 5 Zf [.tmp 2] := mF Tryz.call176 Tryz.func176 rfl rfl (by kernel_rfl) (by kernel_rfl)
def RX : List XI := [J 4 (.move kF)]
def MP : List XI := [J 5 (.move (.t 0)), J 6 (.nilCheck (.t 5)), J 7 (.fieldAddr 4 (.t 6)), J 8 (.load false 1 (.t 7)), J 9 (.not (.t 8)), J 10 (.move (.t 9)), Jt 11 10 (.move (.t 0)), Jt 12 10 (.nilCheck (.t 11)), Jt 13 10 (.fieldAddr 1 (.t 12)), Jt 14 10 (.load false 1 (.t 13)), Jt 15 10 (.move (.t 0)), Jt 16 10 (.nilCheck (.t 15)), Jt 17 10 (.fieldAddr 0 (.t 16)), Jt 18 10 (.load false 1 (.t 17)), Jt 19 10 (.lenR (.t 18)), Jt 20 10 (.bin .lss (.t 14) (.t 19)), J 21 (.pick (.t 10) (.t 20) kF)]
def MQ : List XI := [J 22 (.move (.t 21)), Jt 23 22 (.move (.t 0)), Jt 24 22 (.nilCheck (.t 23)), Jt 25 22 (.fieldAddr 0 (.t 24)), Jt 26 22 (.load false 1 (.t 25)), Jt 27 22 (.move (.t 0)), Jt 28 22 (.nilCheck (.t 27)), Jt 29 22 (.fieldAddr 1 (.t 28)), Jt 30 22 (.load false 1 (.t 29)), Jt 31 22 (.indexAddr 4 (.t 26) (.t 30)), Jt 32 22 (.fieldAddr 0 (.t 31)), Jt 33 22 (.load false 1 (.t 32)), Jt 34 22 (.move (.t 1)), Jt 35 22 (.bin .eql (.t 33) (.t 34)), J 36 (.pick (.t 22) (.t 35) kF)]
def ML : List XI := [J 4 (.move (.t 36))]
def QI : List XI := MP ++ (MQ ++ (ML))
def Ja : XC :=
 (sr RX
 (.seq (.regionS QI 0)
 .ret))
theorem UO : Fn PR CF 37 Ja [.tmp 4] := mF Tryz.call179 Tryz.func179 rfl rfl (by kernel_rfl) (by kernel_rfl)
def ZY : List XI := [J 2 (.box (.t 0)), J 4 (.move kF)]
def Vh : List XI := [J 5 (.fieldAddr 0 (.t 2)), J 6 (.load false 1 (.t 5)), J 7 (.bin .eql (.t 6) (kI 0)), J 8 (.move (.t 7)), Jf 9 8 (.fieldAddr 0 (.t 2)), Jf 10 8 (.load false 1 (.t 9)), Jf 11 8 (.bin .eql (.t 10) (kI 3)), J 12 (.pick (.t 8) kT (.t 11))]
def U9 : List XI := [J 13 (.move (.t 12)), Jt 14 13 (.fieldAddr 1 (.t 2)), Jt 15 13 (.load false 1 (.t 14)), Jt 16 13 (.move (.t 1)), Jt 17 13 (.bin .eql (.t 15) (.t 16)), J 18 (.pick (.t 13) (.t 17) kF)]
def VG : List XI := [J 4 (.move (.t 18))]
def ZG : List XI := Vh ++ (U9 ++ (VG))
def Sc : XC :=
 (sr ZY
 (sr ZG
 .ret))
theorem At3 : Fn PR JP 19 Sc [.tmp 4] := mF Tryz.call180 Tryz.func180 rfl rfl (by kernel_rfl) (by kernel_rfl)
def QK : List XI := [J 2 (.alloc [(.d (.int .i64 0)), (.d (.str ⟨#[]⟩)), (.d (.str ⟨#[]⟩)), (.d (.int .i64 0)), (.ex []), (.ex []), (.ex []), (.ex [])])]
def Rh : List XI := [J 6 (.build [(.d (.int .i64 0)), (.d (.str ⟨#[]⟩)), (.d (.str ⟨#[]⟩)), (.d (.int .i64 0)), (.ex []), (.ex []), (.ex []), (.ex [])] []), J 3 (.alloc [(.d (.int .i64 0)), (.d (.str ⟨#[]⟩)), (.d (.str ⟨#[]⟩)), (.d (.int .i64 0)), (.ex []), (.ex []), (.ex []), (.ex [])]), { dst := none, op := .store 8 (.t 3) (.t 6) }]
def Nf : List XI := [J 11 (.move (.t 0)), J 12 (.call AX [(.t 11), (kS #[108, 101, 116])]), J 13 (.move (.t 12)), Jf 14 13 (.move (.t 0)), Jf 15 13 (.call AX [(.t 14), (kS #[115, 101, 116])]), J 16 (.pick (.t 13) kT (.t 15))]
def Nu : List XI := [J 10 (.move (.t 16))]
def QR : List XI := Nf ++ (Nu)
def RR : List XI := [J 17 (.fieldAddr 0 (.t 3)), { dst := none, op := .store 1 (.t 17) (kI 1) }]
def QY : List XI := [J 18 (.move (.t 0)), J 19 (.call AX [(.t 18), (kS #[115, 101, 116])])]
def Rw : List XI := [J 20 (.fieldAddr 0 (.t 3)), { dst := none, op := .store 1 (.t 20) (kI 2) }]
def QO : List XI := [J 21 (.move (.t 0)), J 22 (.nilCheck (.t 21)), J 23 (.fieldAddr 1 (.t 22)), J 24 (.load false 1 (.t 23)), J 25 (.bin .add (.t 24) (kI 1)), J 26 (.nilCheck (.t 21)), J 27 (.fieldAddr 1 (.t 26)), { dst := none, op := .store 1 (.t 27) (.t 25) }]
def QF : List XI := [J 28 (.move (.t 0)), J 29 (.call AL [(.t 28)]), J 30 (.fieldAddr 1 (.t 3)), { dst := none, op := .store 1 (.t 30) (.t 29) }]
def Ry : List XI := [J 31 (.move (.t 0)), J 32 (.call AI [(.t 31), (kS #[61])])]
def Q6 : List XI := [J 33 (.move (.t 0)), J 34 (.call Bb [(.t 33), (kI 1)]), J 35 (.buildSlice 6 [(.t 34)]), J 36 (.fieldAddr 5 (.t 3)), { dst := none, op := .store 1 (.t 36) (.t 35) }]
def Mt : List XI := [J 38 (.move (.t 0)), J 39 (.call AX [(.t 38), (kS #[105, 110, 115, 101, 114, 116])]), J 40 (.move (.t 39)), Jf 41 40 (.move (.t 0)), Jf 42 40 (.call AX [(.t 41), (kS #[101, 109, 105, 116])]), J 43 (.pick (.t 40) kT (.t 42))]
def LS : List XI := [J 37 (.move (.t 43))]
def PH : List XI := Mt ++ (LS)
def NZ : List XI := [J 44 (.fieldAddr 0 (.t 3)), { dst := none, op := .store 1 (.t 44) (kI 3) }]
def Qf : List XI := [J 45 (.move (.t 0)), J 46 (.call AX [(.t 45), (kS #[101, 109, 105, 116])])]
def Qc : List XI := [J 47 (.fieldAddr 0 (.t 3)), { dst := none, op := .store 1 (.t 47) (kI 8) }]
def OK : List XI := [J 48 (.move (.t 0)), J 49 (.nilCheck (.t 48)), J 50 (.fieldAddr 1 (.t 49)), J 51 (.load false 1 (.t 50)), J 52 (.bin .add (.t 51) (kI 1)), J 53 (.nilCheck (.t 48)), J 54 (.fieldAddr 1 (.t 53)), { dst := none, op := .store 1 (.t 54) (.t 52) }]
def Pm : List XI := [J 55 (.move (.t 0)), J 56 (.call AL [(.t 55)]), J 57 (.fieldAddr 2 (.t 3)), { dst := none, op := .store 1 (.t 57) (.t 56) }]
def Ph : List XI := [J 58 (.move (.t 0)), J 59 (.call AI [(.t 58), (kS #[40])])]
def Pv : List XI := [J 60 (.move (.t 0)), J 61 (.call Bn [(.t 60)])]
def Pg : List XI := [J 62 (.move (.t 0)), J 63 (.call DY [(.t 62)]), J 64 (.fieldAddr 5 (.t 3)), { dst := none, op := .store 1 (.t 64) (.t 63) }]
def OL : List XI := [J 65 (.move (.t 0)), J 66 (.call AI [(.t 65), (kS #[41])])]
def OS : List XI := [J 67 (.move (.t 0)), J 68 (.nilCheck (.t 67)), J 69 (.fieldAddr 2 (.t 68)), J 70 (.load false 1 (.t 69)), J 71 (.bin .sub (.t 70) (kI 1)), J 72 (.nilCheck (.t 67)), J 73 (.fieldAddr 2 (.t 72)), { dst := none, op := .store 1 (.t 73) (.t 71) }]
def Qe : List XI := [J 75 (.move (.t 0)), J 76 (.call AD [(.t 75), (kS #[117, 112, 100, 97, 116, 101])]), J 74 (.move (.t 76))]
def PK : List XI := [J 77 (.fieldAddr 0 (.t 3)), { dst := none, op := .store 1 (.t 77) (kI 4) }]
def O3 : List XI := [J 78 (.move (.t 0)), J 79 (.call AL [(.t 78)]), J 80 (.fieldAddr 1 (.t 3)), { dst := none, op := .store 1 (.t 80) (.t 79) }]
def Oq : List XI := [J 81 (.move (.t 0)), J 82 (.call AI [(.t 81), (kS #[105, 110])])]
def Py : List XI := [J 83 (.move (.t 0)), J 84 (.call AL [(.t 83)]), J 85 (.fieldAddr 2 (.t 3)), { dst := none, op := .store 1 (.t 85) (.t 84) }]
def Oy : List XI := [J 86 (.move (.t 0)), J 87 (.call Ct [(.t 86)]), J 88 (.buildSlice 6 [(.t 87)]), J 89 (.fieldAddr 5 (.t 3)), { dst := none, op := .store 1 (.t 89) (.t 88) }]
def Og : List XI := [J 90 (.move (.t 0)), J 91 (.call AI [(.t 90), (kS #[115, 101, 116])])]
def Ot : List XI := [J 4 (.move kT)]
def Pq : List XI := [J 92 (.move (.t 4))]
def OP : List XI := [J 95 (.fieldAddr 4 (.t 3)), J 96 (.load false 1 (.t 95)), J 97 (.move (.t 0)), J 98 (.call AL [(.t 97)]), J 99 (.buildSlice 1 [(.t 98)]), { dst := some 100, op := .append Gy 1 16 (.t 96) (.t 99), nm := 1 }, J 101 (.fieldAddr 4 (.t 3)), { dst := none, op := .store 1 (.t 101) (.t 100) }]
def OX : List XI := [J 102 (.move (.t 0)), J 103 (.call AI [(.t 102), (kS #[61])])]
def Ou : List XI := [J 104 (.fieldAddr 5 (.t 3)), J 105 (.load false 1 (.t 104)), J 106 (.move (.t 0)), J 107 (.call Bb [(.t 106), (kI 1)]), J 108 (.buildSlice 6 [(.t 107)]), { dst := some 109, op := .append AO 6 88 (.t 105) (.t 108), nm := 1 }, J 110 (.fieldAddr 5 (.t 3)), { dst := none, op := .store 1 (.t 110) (.t 109) }]
def NY : List XI := [J 93 (.move (.t 0)), J 94 (.call AD [(.t 93), (kS #[44])]), J 4 (.move (.t 94))]
def OD : XC :=
 (.seq (sr Pq
 (.cond (.t 92)
 .skip
 (.exit 1)))
 (.seq (.block 2 (.seq (.regionD OP [[], [0], [], [2], [3, 2], [1, 0, 4, 3, 2], [0, 1, 2, 3, 4, 5], [6, 0, 1, 2, 3, 4, 5]] 2)
 (sr OX
 (.regionD Ou [[], [0], [], [2], [3, 2], [1, 0, 4, 3, 2], [0, 1, 2, 3, 4, 5], [6, 0, 1, 2, 3, 4, 5]] 2))))
 (.region NY)))
def O5 : List XI := [J 112 (.move (.t 0)), J 113 (.call AD [(.t 112), (kS #[100, 101, 108, 101, 116, 101])]), J 111 (.move (.t 113))]
def PG : List XI := [J 114 (.fieldAddr 0 (.t 3)), { dst := none, op := .store 1 (.t 114) (kI 5) }]
def PJ : List XI := [J 115 (.move (.t 0)), J 116 (.call AL [(.t 115)]), J 117 (.fieldAddr 1 (.t 3)), { dst := none, op := .store 1 (.t 117) (.t 116) }]
def NO : List XI := [J 118 (.move (.t 0)), J 119 (.call AI [(.t 118), (kS #[105, 110])])]
def Pd : List XI := [J 120 (.move (.t 0)), J 121 (.call AL [(.t 120)]), J 122 (.fieldAddr 2 (.t 3)), { dst := none, op := .store 1 (.t 122) (.t 121) }]
def Pp : List XI := [J 123 (.move (.t 0)), J 124 (.call Ct [(.t 123)]), J 125 (.buildSlice 6 [(.t 124)]), J 126 (.fieldAddr 5 (.t 3)), { dst := none, op := .store 1 (.t 126) (.t 125) }]
def OC : List XI := [J 128 (.move (.t 0)), J 129 (.call AD [(.t 128), (kS #[102, 111, 114])]), J 127 (.move (.t 129))]
def Ob : List XI := [J 130 (.fieldAddr 0 (.t 3)), { dst := none, op := .store 1 (.t 130) (kI 6) }]
def NQ : List XI := [J 131 (.move (.t 0)), J 132 (.call AL [(.t 131)]), J 133 (.fieldAddr 1 (.t 3)), { dst := none, op := .store 1 (.t 133) (.t 132) }]
def Oa : List XI := [J 134 (.move (.t 0)), J 135 (.call AI [(.t 134), (kS #[105, 110])])]
def NS : List XI := [J 136 (.move (.t 0)), J 137 (.call AL [(.t 136)]), J 138 (.fieldAddr 2 (.t 3)), { dst := none, op := .store 1 (.t 138) (.t 137) }]
def NN : List XI := [J 139 (.move (.t 0)), J 140 (.call Ct [(.t 139)]), J 141 (.buildSlice 6 [(.t 140)]), J 142 (.fieldAddr 5 (.t 3)), { dst := none, op := .store 1 (.t 142) (.t 141) }]
def NT : List XI := [J 143 (.move (.t 0)), J 144 (.call AD [(.t 143), (kS #[108, 105, 109, 105, 116])])]
def NH : List XI := [J 145 (.move (.t 0)), J 146 (.call CF [(.t 145), (kI 1)]), J 147 (.move (.t 146)), Jt 148 147 (.move (.t 0)), Jt 149 147 (.nilCheck (.t 148)), Jt 150 147 (.fieldAddr 0 (.t 149)), Jt 151 147 (.load false 1 (.t 150)), Jt 152 147 (.move (.t 0)), Jt 153 147 (.nilCheck (.t 152)), Jt 154 147 (.fieldAddr 1 (.t 153)), Jt 155 147 (.load false 1 (.t 154)), Jt 156 147 (.indexAddr 4 (.t 151) (.t 155)), Jt 157 147 (.fieldAddr 2 (.t 156)), Jt 158 147 (.load false 1 (.t 157)), Jt 159 147 (.bin .eql (.t 158) (kI 0)), J 160 (.pick (.t 147) (.t 159) kF)]
def Qd : List XI := [J 161 (.move (.t 0)), J 162 (.nilCheck (.t 161)), J 163 (.fieldAddr 4 (.t 162)), { dst := none, op := .store 1 (.t 163) kT }]
def NC : List XI := [J 164 (.move (.t 0)), J 165 (.call Fz [(.t 164)]), J 5 (.move (.t 165))]
def Pk : List XI := [J 166 (.fieldAddr 3 (.t 3)), { dst := none, op := .store 1 (.t 166) (kI 1001) }]
def O7 : List XI := [J 167 (.move (.t 5)), J 168 (.bin .lss (.t 167) (kI 1001))]
def PB : List XI := [J 169 (.move (.t 5)), J 170 (.fieldAddr 3 (.t 3)), { dst := none, op := .store 1 (.t 170) (.t 169) }]
def Oe : List XI := [J 171 (.move (.t 0)), J 172 (.call Cv [(.t 171)]), J 173 (.fieldAddr 6 (.t 3)), { dst := none, op := .store 1 (.t 173) (.t 172) }]
def OH : List XI := [J 174 (.load true 8 (.t 3)), { dst := none, op := .store 8 (.t 2) (.t 174) }]
def NU : List XI := [J 176 (.move (.t 0)), J 177 (.call AD [(.t 176), (kS #[105, 102])]), J 175 (.move (.t 177))]
def Nz : List XI := [J 178 (.fieldAddr 0 (.t 3)), { dst := none, op := .store 1 (.t 178) (kI 7) }]
def O4 : List XI := [J 179 (.move (.t 0)), J 180 (.call Bb [(.t 179), (kI 1)]), J 181 (.buildSlice 6 [(.t 180)]), J 182 (.fieldAddr 5 (.t 3)), { dst := none, op := .store 1 (.t 182) (.t 181) }]
def OU : List XI := [J 183 (.move (.t 0)), J 184 (.call Cv [(.t 183)]), J 185 (.fieldAddr 6 (.t 3)), { dst := none, op := .store 1 (.t 185) (.t 184) }]
def NI : List XI := [J 186 (.move (.t 0)), J 187 (.call AD [(.t 186), (kS #[101, 108, 115, 101])])]
def N5 : List XI := [J 188 (.move (.t 0)), J 189 (.call Cv [(.t 188)]), J 190 (.fieldAddr 7 (.t 3)), { dst := none, op := .store 1 (.t 190) (.t 189) }]
def ND : List XI := [J 191 (.load true 8 (.t 3)), { dst := none, op := .store 8 (.t 2) (.t 191) }]
def N8 : List XI := [J 193 (.move (.t 0)), J 194 (.call AD [(.t 193), (kS #[97, 98, 111, 114, 116])]), J 192 (.move (.t 194))]
def Pz : List XI := [J 195 (.fieldAddr 0 (.t 3)), { dst := none, op := .store 1 (.t 195) (kI 9) }]
def Oc : List XI := [J 196 (.move (.t 0)), J 197 (.call Bb [(.t 196), (kI 1)]), J 198 (.buildSlice 6 [(.t 197)]), J 199 (.fieldAddr 5 (.t 3)), { dst := none, op := .store 1 (.t 199) (.t 198) }]
def Qg : List XI := [J 201 (.move (.t 0)), J 202 (.call AD [(.t 201), (kS #[114, 101, 112, 108, 121])]), J 200 (.move (.t 202))]
def Ny : List XI := [J 203 (.fieldAddr 0 (.t 3)), { dst := none, op := .store 1 (.t 203) (kI 10) }]
def NR : List XI := [J 204 (.move (.t 0)), J 205 (.call DY [(.t 204)]), J 206 (.fieldAddr 5 (.t 3)), { dst := none, op := .store 1 (.t 206) (.t 205) }]
def Qm : List XI := [J 7 (.move (.t 0)), J 8 (.nilCheck (.t 7)), J 9 (.fieldAddr 4 (.t 8)), { dst := none, op := .store 1 (.t 9) kT }]
def PL : List XI := [J 207 (.move (.t 0)), J 208 (.call AI [(.t 207), (kS #[59])])]
def Pn : List XI := [J 209 (.load true 8 (.t 3)), { dst := none, op := .store 8 (.t 2) (.t 209) }]
def Jz : XC :=
 (sr QK
 (sr Rh
 (.seq (.block 0 (sr QR
 (.cond (.t 10)
 (sr RR
 (.seq (sr QY
 (.cond (.t 19)
 (.region Rw)
 .skip))
 (sr QO
 (sr QF
 (sr Ry
 (.region Q6))))))
 (sr PH
 (.cond (.t 37)
 (sr NZ
 (.seq (sr Qf
 (.cond (.t 46)
 (.region Qc)
 .skip))
 (sr OK
 (sr Pm
 (sr Ph
 (sr Pv
 (sr Pg
 (sr OL
 (.region OS)))))))))
 (sr Qe
 (.cond (.t 74)
 (sr PK
 (sr O3
 (sr Oq
 (sr Py
 (sr Oy
 (sr Og
 (sr Ot
 (.block 1 (.loop OD)))))))))
 (sr O5
 (.cond (.t 111)
 (sr PG
 (sr PJ
 (sr NO
 (sr Pd
 (.region Pp)))))
 (sr OC
 (.cond (.t 127)
 (sr Ob
 (sr NQ
 (sr Oa
 (sr NS
 (sr NN
 (.seq (sr NT
 (.cond (.t 144)
 (.seq (.seq (.regionS NH 1)
 (.cond (.t 160)
 (.region Qd)
 .skip))
 (sr NC
 (sr Pk
 (sr O7
 (.cond (.t 168)
 (.region PB)
 .skip)))))
 .skip))
 (sr Oe
 (sr OH
 .ret))))))))
 (sr NU
 (.cond (.t 175)
 (sr Nz
 (sr O4
 (sr OU
 (.seq (sr NI
 (.cond (.t 187)
 (.region N5)
 .skip))
 (sr ND
 .ret)))))
 (sr N8
 (.cond (.t 192)
 (sr Pz
 (.region Oc))
 (sr Qg
 (.cond (.t 200)
 (sr Ny
 (.region NR))
 (.region Qm))))))))))))))))))
 (sr PL
 (sr Pn
 .ret)))))
theorem UA : Fn PR F5 210 Jz [.cell 2 true 8] := mF Tryz.call181 Tryz.func181 rfl rfl (by kernel_rfl) (by kernel_rfl)
def Fi : List XI := [J 4 (.move (kI 0))]
def Fq : List XI := [J 6 (.move (.t 0)), J 7 (.lenR (.t 6)), J 8 (.move (kI 0))]
def Fr : List XI := [J 9 (.bin .lss (.t 8) (.t 7))]
def Fg : List XI := [J 10 (.move (.t 8)), J 5 (.move (.t 10))]
def Fb : List XI := [J 11 (.move (.t 1)), J 12 (.move (.t 0)), J 13 (.move (.t 5)), J 14 (.indexAddr 1 (.t 12) (.t 13)), J 15 (.load false 1 (.t 14)), J 16 (.dyn (.t 11) [(.t 15)])]
def Fd : List XI := [J 17 (.move (.t 5)), J 4 (.move (.t 17))]
def E6 : List XI := [J 18 (.bin .add (.t 8) (kI 1)), J 8 (.move (.t 18))]
def Ff : XC :=
 (sr Fr
 (.seq (.cond (.t 9)
 .skip
 (.exit 0))
 (.seq (.block 1 (sr Fg
 (sr Fb
 (.cond (.t 16)
 (sr Fd
 .ret)
 .skip))))
 (.region E6))))
def Fp : List XI := [J 4 (.move (kI (-1)))]
def Dx : XC :=
 (sr Fi
 (.seq (sr Fq
 (.block 0 (.loop Ff)))
 (sr Fp
 .ret)))
theorem FV : Fn PR CM 19 Dx [.tmp 4] := mF Tryz.call182 Tryz.func182 rfl rfl (by kernel_rfl) (by kernel_rfl)
def Gg : List XI := [J 4 (.move (kI 0))]
def Gf : List XI := [J 6 (.move (.t 0)), J 7 (.lenR (.t 6)), J 8 (.move (kI 0))]
def Ge : List XI := [J 9 (.bin .lss (.t 8) (.t 7))]
def Gm : List XI := [J 10 (.move (.t 8)), J 5 (.move (.t 10))]
def Gd : List XI := [J 11 (.move (.t 1)), J 12 (.move (.t 0)), J 13 (.move (.t 5)), J 14 (.indexAddr 1 (.t 12) (.t 13)), J 15 (.load false 1 (.t 14)), J 16 (.bin .eql (.t 11) (.t 15))]
def Gi : List XI := [J 17 (.move (.t 5)), J 4 (.move (.t 17))]
def Gc : List XI := [J 18 (.bin .add (.t 8) (kI 1)), J 8 (.move (.t 18))]
def Gj : XC :=
 (sr Ge
 (.seq (.cond (.t 9)
 .skip
 (.exit 0))
 (.seq (.block 1 (sr Gm
 (sr Gd
 (.cond (.t 16)
 (sr Gi
 .ret)
 .skip))))
 (.region Gc))))
def Gl : List XI := [J 4 (.move (kI (-1)))]
def EW : XC :=
 (sr Gg
 (.seq (sr Gf
 (.block 0 (.loop Gj)))
 (sr Gl
 .ret)))
theorem Hr : Fn PR Dq 19 EW [.tmp 4] := mF Tryz.call183 Tryz.func183 rfl rfl (by kernel_rfl) (by kernel_rfl)
def Ab7 : List XI := [J 2 (.move kF)]
def Ak3 : List XI := [J 3 (.call AD8 []), J 4 (.move (.t 0)), J 5 (.call B5 [(.t 3), (.t 4)]), J 2 (.move (.t 5))]
def Ah0 : XC :=
 (sr Ab7
 (sr Ak3
 .ret))
theorem AS9 : Fn PR TL 6 Ah0 [.tmp 2] := mF Tryz.call205 Tryz.func205 rfl rfl (by kernel_rfl) (by kernel_rfl)
def Um : List XI := [J 2 (.move kF)]
def TN : List XI := [J 5 (.move (.t 0)), J 6 (.lenR (.t 5)), J 7 (.move (kI 0))]
def TJ : List XI := [J 8 (.bin .lss (.t 7) (.t 6))]
def T1 : List XI := [J 9 (.indexAddr 1 (.t 5) (.t 7)), J 10 (.load false 1 (.t 9)), J 4 (.move (.t 10))]
def Ug : List XI := [J 11 (.move (.t 4)), J 12 (.call Le [(.t 11)]), J 13 (.not (.t 12))]
def TM : List XI := [J 2 (.move kF)]
def TR : List XI := [J 14 (.bin .add (.t 7) (kI 1)), J 7 (.move (.t 14))]
def TV : XC :=
 (sr TJ
 (.seq (.cond (.t 8)
 .skip
 (.exit 0))
 (.seq (.block 1 (sr T1
 (sr Ug
 (.cond (.t 13)
 (sr TM
 .ret)
 .skip))))
 (.region TR))))
def Uf : List XI := [J 2 (.move kT)]
def Se : XC :=
 (sr Um
 (.seq (sr TN
 (.block 0 (.loop TV)))
 (sr Uf
 .ret)))
theorem Ai8 : Fn PR Lh 15 Se [.tmp 2] := mF Tryz.call209 Tryz.func209 rfl rfl (by kernel_rfl) (by kernel_rfl)
def Er : List XI := [J 4 (.move (kI 0))]
def Eo : List XI := [J 6 (.move (.t 0)), J 7 (.lenR (.t 6)), J 8 (.move (kI 0))]
def Ej : List XI := [J 9 (.bin .lss (.t 8) (.t 7))]
def Em : List XI := [J 10 (.move (.t 8)), J 5 (.move (.t 10))]
def En : List XI := [J 11 (.move (.t 1)), J 12 (.move (.t 0)), J 13 (.move (.t 5)), J 14 (.indexAddr 8 (.t 12) (.t 13)), J 15 (.load true 8 (.t 14)), J 16 (.dyn (.t 11) [(.t 15)])]
def Ei : List XI := [J 17 (.move (.t 5)), J 4 (.move (.t 17))]
def Et : List XI := [J 18 (.bin .add (.t 8) (kI 1)), J 8 (.move (.t 18))]
def Ef : XC :=
 (sr Ej
 (.seq (.cond (.t 9)
 .skip
 (.exit 0))
 (.seq (.block 1 (sr Em
 (sr En
 (.cond (.t 16)
 (sr Ei
 .ret)
 .skip))))
 (.region Et))))
def Ep : List XI := [J 4 (.move (kI (-1)))]
def C9 : XC :=
 (sr Er
 (.seq (sr Eo
 (.block 0 (.loop Ef)))
 (sr Ep
 .ret)))
theorem E0 : Fn PR Cb 19 C9 [.tmp 4] := mF Tryz.call211 Tryz.func211 rfl rfl (by kernel_rfl) (by kernel_rfl)
def AV4 : List XI := [J 1 (.box (.t 0)), J 2 (.move kF)]
def AV8 : List XI := [J 3 (.move kF), J 4 (.move kF), J 5 (.move kF), J 6 (.move kF), J 7 (.move kF)]
def AW5 : List XI := [J 8 (.move (kI 1)), J 9 (.move (kI 1))]
def AV6 : List XI := [J 10 (.move kT)]
def AZ1 : List XI := [J 11 (.fieldAddr 0 (.t 1)), J 12 (.load false 1 (.t 11))]
def AY2 : List XI := [J 14 (.bin .eql (.t 12) (kI 1)), J 13 (.move (.t 14))]
def AR8 : List XI := [J 15 (.bin .eql (.t 12) (kI 2)), J 13 (.move (.t 15))]
def AU5 : List XI := [J 3 (.move kT), J 10 (.move kF)]
def AS2 : List XI := [J 17 (.bin .eql (.t 12) (kI 3)), J 16 (.move (.t 17))]
def AV1 : List XI := [J 18 (.bin .eql (.t 12) (kI 8)), J 16 (.move (.t 18))]
def AF4 : List XI := [J 9 (.move (kI 8))]
def AE5 : List XI := [J 20 (.bin .eql (.t 12) (kI 4)), J 19 (.move (.t 20))]
def AB0 : List XI := [J 3 (.move kT), J 4 (.move kT)]
def AA6 : List XI := [J 21 (.fieldAddr 4 (.t 1)), J 22 (.load false 1 (.t 21)), J 23 (.lenR (.t 22)), J 24 (.bin .add (.t 23) (kI 1)), J 25 (.fieldAddr 4 (.t 1)), J 26 (.load false 1 (.t 25)), J 27 (.lenR (.t 26)), J 28 (.bin .add (.t 27) (kI 1)), J 8 (.move (.t 24)), J 9 (.move (.t 28))]
def Az5 : List XI := [J 30 (.bin .eql (.t 12) (kI 5)), J 29 (.move (.t 30))]
def AJ7 : List XI := [J 3 (.move kT)]
def AE1 : List XI := [J 32 (.bin .eql (.t 12) (kI 6)), J 31 (.move (.t 32))]
def AN0 : List XI := [J 3 (.move kT), J 5 (.move kT), J 6 (.move kT)]
def AH5 : List XI := [J 34 (.bin .eql (.t 12) (kI 7)), J 33 (.move (.t 34))]
def AE4 : List XI := [J 6 (.move kT), J 7 (.move kT), J 10 (.move kF)]
def AJ1 : List XI := [J 36 (.bin .eql (.t 12) (kI 9)), J 35 (.move (.t 36))]
def AK1 : List XI := [J 10 (.move kF)]
def AN4 : List XI := [J 38 (.bin .eql (.t 12) (kI 10)), J 37 (.move (.t 38))]
def Ay4 : List XI := [J 9 (.move (kI 8)), J 10 (.move kF)]
def AL8 : List XI := [J 2 (.move kF)]
def Ad5 : List XI := [J 39 (.move (.t 3)), J 40 (.fieldAddr 1 (.t 1)), J 41 (.load false 1 (.t 40)), J 42 (.call Bm1 [(.t 39), (.t 41)]), J 43 (.call JK [(.t 42)]), J 44 (.move (.t 43)), Jt 45 44 (.move (.t 10)), Jt 46 44 (.fieldAddr 2 (.t 1)), Jt 47 44 (.load false 1 (.t 46)), Jt 48 44 (.call Bm1 [(.t 45), (.t 47)]), Jt 49 44 (.call JK [(.t 48)]), J 50 (.pick (.t 44) (.t 49) kF)]
def Ah7 : List XI := [J 51 (.move (.t 50)), Jt 52 51 (.move (.t 3)), Jt 53 51 (.move (.t 52)), Jf 54 53 (.fieldAddr 1 (.t 1)), Jf 55 53 (.load false 1 (.t 54)), Jf 56 53 (.bin .eql (.t 55) (kS #[])), Jt 57 51 (.pick (.t 53) kT (.t 56)), J 58 (.pick (.t 51) (.t 57) kF)]
def Al3 : List XI := [J 59 (.move (.t 58)), Jt 60 59 (.move (.t 10)), Jt 61 59 (.move (.t 60)), Jf 62 61 (.fieldAddr 2 (.t 1)), Jf 63 61 (.load false 1 (.t 62)), Jf 64 61 (.bin .eql (.t 63) (kS #[])), Jt 65 59 (.pick (.t 61) kT (.t 64)), J 66 (.pick (.t 59) (.t 65) kF)]
def Ai2 : List XI := [J 67 (.move (.t 66)), Jt 68 67 (.move (.t 4)), Jt 69 67 (.move (.t 68)), Jt 70 69 (.fieldAddr 4 (.t 1)), Jt 71 69 (.load false 1 (.t 70)), Jt 72 69 (.lenR (.t 71)), Jt 73 69 (.call Kt [(.t 72), (kI 1), (kI 8)]), Jt 74 67 (.pick (.t 69) (.t 73) kF), Jt 75 67 (.move (.t 74)), Jt 76 75 (.fieldAddr 4 (.t 1)), Jt 77 75 (.load false 1 (.t 76)), Jt 78 75 (.call JK [(.t 77)]), Jt 79 67 (.pick (.t 75) (.t 78) kF), Jt 80 67 (.move (.t 79)), Jt 81 80 (.fieldAddr 4 (.t 1)), Jt 82 80 (.load false 1 (.t 81)), Jt 83 80 (.call Mu [(.t 82)]), Jt 84 67 (.pick (.t 80) (.t 83) kF), Jt 85 67 (.move (.t 84)), Jf 86 85 (.move (.t 4)), Jf 87 85 (.not (.t 86)), Jf 88 85 (.move (.t 87)), Jt 89 88 (.fieldAddr 4 (.t 1)), Jt 90 88 (.load false 1 (.t 89)), Jt 91 88 (.lenR (.t 90)), Jt 92 88 (.bin .eql (.t 91) (kI 0)), Jf 93 85 (.pick (.t 88) (.t 92) kF), Jt 94 67 (.pick (.t 85) kT (.t 93)), J 95 (.pick (.t 67) (.t 94) kF)]
def Aj3 : List XI := [J 96 (.move (.t 95)), Jt 97 96 (.move (.t 5)), Jt 98 96 (.move (.t 97)), Jt 99 98 (.fieldAddr 3 (.t 1)), Jt 100 98 (.load false 1 (.t 99)), Jt 101 98 (.call Kt [(.t 100), (kI 0), (kI 1000)]), Jt 102 96 (.pick (.t 98) (.t 101) kF), Jt 103 96 (.move (.t 102)), Jf 104 103 (.move (.t 5)), Jf 105 103 (.not (.t 104)), Jf 106 103 (.move (.t 105)), Jt 107 106 (.fieldAddr 3 (.t 1)), Jt 108 106 (.load false 1 (.t 107)), Jt 109 106 (.bin .eql (.t 108) (kI 0)), Jf 110 103 (.pick (.t 106) (.t 109) kF), Jt 111 96 (.pick (.t 103) kT (.t 110)), J 112 (.pick (.t 96) (.t 111) kF)]
def Ai7 : List XI := [J 113 (.move (.t 112)), Jt 114 113 (.fieldAddr 5 (.t 1)), Jt 115 113 (.load false 1 (.t 114)), Jt 116 113 (.lenR (.t 115)), Jt 117 113 (.move (.t 8)), Jt 118 113 (.move (.t 9)), Jt 119 113 (.call Kt [(.t 116), (.t 117), (.t 118)]), J 120 (.pick (.t 113) (.t 119) kF)]
def Ag6 : List XI := [J 121 (.move (.t 120)), Jt 122 121 (.move (.t 6)), Jt 123 121 (.move (.t 122)), Jf 124 123 (.fieldAddr 6 (.t 1)), Jf 125 123 (.load false 1 (.t 124)), Jf 126 123 (.lenR (.t 125)), Jf 127 123 (.bin .eql (.t 126) (kI 0)), Jt 128 121 (.pick (.t 123) kT (.t 127)), J 129 (.pick (.t 121) (.t 128) kF)]
def Ah8 : List XI := [J 130 (.move (.t 129)), Jt 131 130 (.move (.t 7)), Jt 132 130 (.move (.t 131)), Jf 133 132 (.fieldAddr 7 (.t 1)), Jf 134 132 (.load false 1 (.t 133)), Jf 135 132 (.lenR (.t 134)), Jf 136 132 (.bin .eql (.t 135) (kI 0)), Jt 137 130 (.pick (.t 132) kT (.t 136)), J 138 (.pick (.t 130) (.t 137) kF)]
def K0 : List XI := [J 2 (.move (.t 138))]
def AA2 : List XI := Ad5 ++ (Ah7 ++ (Al3 ++ (Ai2 ++ (Aj3 ++ (Ai7 ++ (Ag6 ++ (Ah8 ++ (K0))))))))
def Bd8 : XC :=
 (sr AV4
 (sr AV8
 (sr AW5
 (sr AV6
 (.seq (sr AZ1
 (.block 0 (.seq (sr AY2
 (.cond (.t 13)
 .skip
 (.region AR8)))
 (.cond (.t 13)
 (.region AU5)
 (.seq (sr AS2
 (.cond (.t 16)
 .skip
 (.region AV1)))
 (.cond (.t 16)
 (.region AF4)
 (sr AE5
 (.cond (.t 19)
 (sr AB0
 (.regionS AA6 0))
 (sr Az5
 (.cond (.t 29)
 (.region AJ7)
 (sr AE1
 (.cond (.t 31)
 (.region AN0)
 (sr AH5
 (.cond (.t 33)
 (.region AE4)
 (sr AJ1
 (.cond (.t 35)
 (.region AK1)
 (sr AN4
 (.cond (.t 37)
 (.region Ay4)
 (sr AL8
 .ret)))))))))))))))))))
 (sr AA2
 .ret))))))
theorem BG1 : Fn PR AF9 139 Bd8 [.tmp 2] := mF Tryz.call212 Tryz.func212 rfl rfl (by kernel_rfl) (by kernel_rfl)
def Dy : List XI := [J 4 (.move kF)]
def DG : List XI := [J 5 (.move (.t 0)), J 6 (.move (.t 1)), J 7 (.call Ce [(.t 5), (.t 6)]), J 8 (.bin .geq (.t 7) (kI 0)), J 4 (.move (.t 8))]
def CR : XC :=
 (sr Dy
 (sr DG
 .ret))
theorem Ew : Fn PR Bv 9 CR [.tmp 4] := mF Tryz.call213 Tryz.func213 rfl rfl (by kernel_rfl) (by kernel_rfl)
def Aq8 : List XI := [J 1 (.box (.t 0)), J 2 (.move kF)]
def Aq3 : List XI := [J 3 (.load true 6 (.t 1)), J 4 (.call E4 [(.t 3)]), J 5 (.not (.t 4)), J 2 (.move (.t 5))]
def As6 : XC :=
 (sr Aq8
 (sr Aq3
 .ret))
theorem Bh2 : Fn PR X3 6 As6 [.tmp 2] := mF Tryz.call214 Tryz.func214 rfl rfl (by kernel_rfl) (by kernel_rfl)
def Bj7 : List XI := [J 2 (.move (kI 0)), J 3 (.move kF)]
def AI3 : List XI := [J 5 (.move (.t 0)), J 6 (.bin .geq (.t 5) (kI 1)), J 7 (.move (.t 6)), Jt 8 7 (.move (.t 0)), Jt 9 7 (.bin .leq (.t 8) (kI 5)), J 10 (.pick (.t 7) (.t 9) kF)]
def Xy : List XI := [J 4 (.move (.t 10))]
def Bf0 : List XI := AI3 ++ (Xy)
def Bf1 : List XI := [J 2 (.move (kI 0)), J 3 (.move kF)]
def AH7 : List XI := [J 12 (.move (.t 0)), J 13 (.bin .geq (.t 12) (kI 6)), J 14 (.move (.t 13)), Jt 15 14 (.move (.t 0)), Jt 16 14 (.bin .leq (.t 15) (kI 18)), J 17 (.pick (.t 14) (.t 16) kF)]
def Yl : List XI := [J 11 (.move (.t 17))]
def Bl2 : List XI := AH7 ++ (Yl)
def Bh7 : List XI := [J 2 (.move (kI 2)), J 3 (.move kF)]
def AB3 : List XI := [J 19 (.move (.t 0)), J 20 (.bin .eql (.t 19) (kI 19)), J 21 (.move (.t 20)), Jf 22 21 (.move (.t 0)), Jf 23 21 (.bin .eql (.t 22) (kI 20)), J 24 (.pick (.t 21) kT (.t 23))]
def Xc : List XI := [J 18 (.move (.t 24))]
def Bh9 : List XI := AB3 ++ (Xc)
def Bj1 : List XI := [J 2 (.move (kI 1)), J 3 (.move kF)]
def Bg2 : List XI := [J 26 (.move (.t 0)), J 27 (.bin .eql (.t 26) (kI 21)), J 25 (.move (.t 27))]
def Bg6 : List XI := [J 2 (.move (kI 1)), J 3 (.move kT)]
def AJ9 : List XI := [J 29 (.move (.t 0)), J 30 (.bin .geq (.t 29) (kI 22)), J 31 (.move (.t 30)), Jt 32 31 (.move (.t 0)), Jt 33 31 (.bin .leq (.t 32) (kI 24)), J 34 (.pick (.t 31) (.t 33) kF)]
def Xe : List XI := [J 28 (.move (.t 34))]
def Bl0 : List XI := AJ9 ++ (Xe)
def AY8 : List XI := [J 2 (.move (kI 2)), J 3 (.move kT)]
def Ac9 : List XI := [J 2 (.move (kI (-1))), J 3 (.move kF)]
def Bv9 : XC :=
 (sr Bj7
 (.seq (.block 0 (sr Bf0
 (.cond (.t 4)
 (sr Bf1
 .ret)
 (sr Bl2
 (.cond (.t 11)
 (sr Bh7
 .ret)
 (sr Bh9
 (.cond (.t 18)
 (sr Bj1
 .ret)
 (sr Bg2
 (.cond (.t 25)
 (sr Bg6
 .ret)
 (sr Bl0
 (.cond (.t 28)
 (sr AY8
 .ret)
 .skip)))))))))))
 (sr Ac9
 .ret)))
theorem BP0 : Fn PR Az0 35 Bv9 [.tmp 2, .tmp 3] := mF Tryz.call221 Tryz.func221 rfl rfl (by kernel_rfl) (by kernel_rfl)
def AI9 : List XI := [J 1 (.box (.t 0)), J 2 (.move kF)]
def Az4 : List XI := [J 8 (.fieldAddr 0 (.t 1)), J 9 (.load false 1 (.t 8)), J 10 (.call Az0 [(.t 9)]), J 7 (.move (.t 10)), J 11 (.extract (.t 7) 0), J 12 (.extract (.t 7) 1), J 3 (.move (.t 11)), J 4 (.move (.t 12))]
def AA5 : List XI := [J 5 (.move kF)]
def Ax1 : List XI := [J 6 (.alloc [(.d (.int .i64 0)), (.d (.int .i64 0)), (.d (.str ⟨#[]⟩)), (.d (.str ⟨#[]⟩)), (.d (.str ⟨#[]⟩)), (.ex [])])]
def Ay6 : List XI := [J 14 (.fieldAddr 0 (.t 1)), J 15 (.load false 1 (.t 14)), J 16 (.bin .eql (.t 15) (kI 1)), J 13 (.move (.t 16))]
def AD0 : List XI := [J 17 (.fieldAddr 1 (.t 1)), J 18 (.load false 1 (.t 17)), J 19 (.bin .geq (.t 18) (kI 0)), J 20 (.fieldAddr 1 (.t 1)), J 21 (.load false 1 (.t 20)), J 5 (.move (.t 19)), J 22 (.fieldAddr 1 (.t 6)), { dst := none, op := .store 1 (.t 22) (.t 21) }]
def Aw9 : List XI := [J 24 (.fieldAddr 0 (.t 1)), J 25 (.load false 1 (.t 24)), J 26 (.bin .eql (.t 25) (kI 2)), J 23 (.move (.t 26))]
def Ax3 : List XI := [J 27 (.fieldAddr 2 (.t 1)), J 28 (.load false 1 (.t 27)), J 29 (.lenS (.t 28)), J 30 (.bin .leq (.t 29) (kI 200)), J 31 (.fieldAddr 2 (.t 1)), J 32 (.load false 1 (.t 31)), J 5 (.move (.t 30)), J 33 (.fieldAddr 2 (.t 6)), { dst := none, op := .store 1 (.t 33) (.t 32) }]
def AF7 : List XI := [J 35 (.fieldAddr 0 (.t 1)), J 36 (.load false 1 (.t 35)), J 37 (.bin .eql (.t 36) (kI 3)), J 34 (.move (.t 37))]
def AN2 : List XI := [J 38 (.fieldAddr 1 (.t 1)), J 39 (.load false 1 (.t 38)), J 40 (.bin .shr (.t 39) (.c (.d (.int .u64 1)))), J 41 (.bin .eql (.t 40) (kI 0)), J 42 (.fieldAddr 1 (.t 1)), J 43 (.load false 1 (.t 42)), J 5 (.move (.t 41)), J 44 (.fieldAddr 1 (.t 6)), { dst := none, op := .store 1 (.t 44) (.t 43) }]
def Aq1 : List XI := [J 46 (.fieldAddr 0 (.t 1)), J 47 (.load false 1 (.t 46)), J 48 (.bin .eql (.t 47) (kI 4)), J 45 (.move (.t 48))]
def Ao9 : List XI := [J 49 (.fieldAddr 3 (.t 1)), J 50 (.load false 1 (.t 49)), J 51 (.buildSlice 1 [(.t 50)]), J 52 (.call JK [(.t 51)]), J 53 (.fieldAddr 3 (.t 1)), J 54 (.load false 1 (.t 53)), J 5 (.move (.t 52)), J 55 (.fieldAddr 3 (.t 6)), { dst := none, op := .store 1 (.t 55) (.t 54) }]
def Ar3 : List XI := [J 57 (.fieldAddr 0 (.t 1)), J 58 (.load false 1 (.t 57)), J 59 (.bin .eql (.t 58) (kI 5)), J 56 (.move (.t 59))]
def Ar0 : List XI := [J 60 (.fieldAddr 3 (.t 1)), J 61 (.load false 1 (.t 60)), J 62 (.fieldAddr 2 (.t 1)), J 63 (.load false 1 (.t 62)), J 64 (.buildSlice 1 [(.t 61), (.t 63)]), J 65 (.call JK [(.t 64)]), J 66 (.fieldAddr 3 (.t 1)), J 67 (.load false 1 (.t 66)), J 68 (.fieldAddr 2 (.t 1)), J 69 (.load false 1 (.t 68)), J 5 (.move (.t 65)), J 70 (.fieldAddr 3 (.t 6)), { dst := none, op := .store 1 (.t 70) (.t 67) }, J 71 (.fieldAddr 2 (.t 6)), { dst := none, op := .store 1 (.t 71) (.t 69) }]
def Ap2 : List XI := [J 73 (.move (.t 4)), J 72 (.move (.t 73))]
def Ap5 : List XI := [J 74 (.fieldAddr 3 (.t 1)), J 75 (.load false 1 (.t 74)), J 76 (.fieldAddr 4 (.t 1)), J 77 (.load false 1 (.t 76)), J 78 (.buildSlice 1 [(.t 75), (.t 77)]), J 79 (.call JK [(.t 78)]), J 80 (.fieldAddr 3 (.t 1)), J 81 (.load false 1 (.t 80)), J 82 (.fieldAddr 4 (.t 1)), J 83 (.load false 1 (.t 82)), J 5 (.move (.t 79)), J 84 (.fieldAddr 3 (.t 6)), { dst := none, op := .store 1 (.t 84) (.t 81) }, J 85 (.fieldAddr 4 (.t 6)), { dst := none, op := .store 1 (.t 85) (.t 83) }]
def Ap9 : List XI := [J 5 (.move kT)]
def DS : List XI := [J 86 (.move (.t 5)), J 87 (.move (.t 86)), Jt 88 87 (.fieldAddr 1 (.t 6)), Jt 89 87 (.load false 1 (.t 88)), Jt 90 87 (.fieldAddr 1 (.t 1)), Jt 91 87 (.load false 1 (.t 90)), Jt 92 87 (.bin .eql (.t 89) (.t 91)), J 93 (.pick (.t 87) (.t 92) kF)]
def DN : List XI := [J 94 (.move (.t 93)), Jt 95 94 (.fieldAddr 2 (.t 6)), Jt 96 94 (.load false 1 (.t 95)), Jt 97 94 (.fieldAddr 2 (.t 1)), Jt 98 94 (.load false 1 (.t 97)), Jt 99 94 (.bin .eql (.t 96) (.t 98)), J 100 (.pick (.t 94) (.t 99) kF)]
def DO : List XI := [J 101 (.move (.t 100)), Jt 102 101 (.fieldAddr 3 (.t 6)), Jt 103 101 (.load false 1 (.t 102)), Jt 104 101 (.fieldAddr 3 (.t 1)), Jt 105 101 (.load false 1 (.t 104)), Jt 106 101 (.bin .eql (.t 103) (.t 105)), J 107 (.pick (.t 101) (.t 106) kF)]
def DR : List XI := [J 108 (.move (.t 107)), Jt 109 108 (.fieldAddr 4 (.t 6)), Jt 110 108 (.load false 1 (.t 109)), Jt 111 108 (.fieldAddr 4 (.t 1)), Jt 112 108 (.load false 1 (.t 111)), Jt 113 108 (.bin .eql (.t 110) (.t 112)), J 114 (.pick (.t 108) (.t 113) kF)]
def BE : List XI := [J 2 (.move (.t 114))]
def Fh : List XI := DS ++ (DN ++ (DO ++ (DR ++ (BE))))
def AP6 : XC :=
 (sr AI9
 (sr Az4
 (sr AA5
 (sr Ax1
 (.seq (.block 0 (sr Ay6
 (.cond (.t 13)
 (.regionS AD0 0)
 (sr Aw9
 (.cond (.t 23)
 (.regionS Ax3 0)
 (sr AF7
 (.cond (.t 34)
 (.regionS AN2 0)
 (sr Aq1
 (.cond (.t 45)
 (.regionD Ao9 [[], [0], [1, 0], [2, 1, 0], [], [4], [3, 2, 1, 0], [0, 1, 2, 3, 4, 5, 6], [7, 0, 1, 2, 3, 4, 5, 6]] 1)
 (sr Ar3
 (.cond (.t 56)
 (.regionD Ar0 [[], [0], [], [2], [1, 0, 3, 2], [4, 1, 0, 3, 2], [], [6], [], [8], [5, 4, 1, 0, 3, 2], [0, 1, 2, 3, 4, 5, 6, 7, 10], [11, 0, 1, 2, 3, 4, 5, 6, 7, 10], [0, 1, 2, 3, 4, 5, 6, 7, 8, 9, 10, 11, 12], [13, 0, 1, 2, 3, 4, 5, 6, 7, 8, 9, 10, 11, 12]] 1)
 (sr Ap2
 (.cond (.t 72)
 (.regionD Ap5 [[], [0], [], [2], [1, 0, 3, 2], [4, 1, 0, 3, 2], [], [6], [], [8], [5, 4, 1, 0, 3, 2], [0, 1, 2, 3, 4, 5, 6, 7, 10], [11, 0, 1, 2, 3, 4, 5, 6, 7, 10], [0, 1, 2, 3, 4, 5, 6, 7, 8, 9, 10, 11, 12], [13, 0, 1, 2, 3, 4, 5, 6, 7, 8, 9, 10, 11, 12]] 1)
 (.region Ap9))))))))))))))
 (sr Fh
 .ret))))))
theorem Bq2 : Fn PR Am0 115 AP6 [.tmp 2] := mF Tryz.call222 Tryz.func222 rfl rfl (by kernel_rfl) (by kernel_rfl)
def T8 : List XI := [J 1 (.box (.t 0)), J 2 (.move kF)]
def T6 : List XI := [J 3 (.load true 6 (.t 1)), J 4 (.call E4 [(.t 3)]), J 5 (.not (.t 4)), J 2 (.move (.t 5))]
def Aj7 : XC :=
 (sr T8
 (sr T6
 .ret))
theorem Bi3 : Fn PR Gv 6 Aj7 [.tmp 2] := mF Tryz.call223 Tryz.func223 rfl rfl (by kernel_rfl) (by kernel_rfl)
def PT : List XI := [J 2 (.alloc [(.d (.int .i64 0)), (.d (.int .i64 0)), (.d (.str ⟨#[]⟩)), (.d (.str ⟨#[]⟩)), (.d (.str ⟨#[]⟩)), (.ex [])])]
def Ow : List XI := [J 3 (.move (.t 0)), J 4 (.call AD [(.t 3), (kS #[119, 104, 101, 114, 101])])]
def NP : List XI := [J 5 (.move (.t 0)), J 6 (.call Bb [(.t 5), (kI 1)]), { dst := none, op := .store 6 (.t 2) (.t 6) }]
def Ol : List XI := [J 7 (.build [(.d (.int .i64 0)), (.d (.int .i64 0)), (.d (.str ⟨#[]⟩)), (.d (.str ⟨#[]⟩)), (.d (.str ⟨#[]⟩)), (.ex [])] [(0, 1, (kI 3)), (1, 1, (kI 1))]), { dst := none, op := .store 6 (.t 2) (.t 7) }]
def IN : XC :=
 (sr PT
 (.seq (sr Ow
 (.cond (.t 4)
 (sr NP
 .ret)
 .skip))
 (sr Ol
 .ret)))
theorem Tw : Fn PR Ct 8 IN [.cell 2 true 6] := mF Tryz.call224 Tryz.func224 rfl rfl (by kernel_rfl) (by kernel_rfl)
def Az3 : List XI := [J 4 (.move (kI 0))]
def AJ8 : List XI := [J 6 (.move (.t 0)), J 7 (.build [(.d (.str ⟨#[]⟩)), (.ex []), (.ex []), (.d (.int .i64 0)), (.d (.int .i64 0)), (.d (.int .i64 0))] [(1, 1, (.t 6))]), J 8 (.move (.t 1)), J 9 (.call Ya [(.t 7), (.t 8)]), J 5 (.move (.t 9))]
def Az7 : List XI := [J 10 (.move (.t 5)), J 11 (.bin .lss (.t 10) (kI 0))]
def AD1 : List XI := [J 4 (.move (kI 0))]
def AL7 : List XI := [J 12 (.move (.t 0)), J 13 (.move (.t 5)), J 14 (.indexAddr 2 (.t 12) (.t 13)), J 15 (.fieldAddr 1 (.t 14)), J 16 (.load false 1 (.t 15)), J 4 (.move (.t 16))]
def Ag3 : XC :=
 (sr Az3
 (sr AJ8
 (.seq (sr Az7
 (.cond (.t 11)
 (sr AD1
 .ret)
 .skip))
 (sr AL7
 .ret))))
theorem Bf6 : Fn PR Sm 17 Ag3 [.tmp 4] := mF Tryz.call225 Tryz.func225 rfl rfl (by kernel_rfl) (by kernel_rfl)
def HL : List XI := [J 2 (.move (.c (.ex [])))]
def HK : List XI := [J 3 (.move (.t 0)), J 4 (.move (.t 0)), J 5 (.lenR (.t 4)), J 6 (.move (.t 0)), J 7 (.lenR (.t 6)), J 8 (.sliceR 4 (.t 3) none (some (.t 5)) (some (.t 7))), J 2 (.move (.t 8))]
def ET : XC :=
 (sr HL
 (sr HK
 .ret))
theorem Iu : Fn PR C3 9 ET [.tmp 2] := mF Tryz.call227 Tryz.func227 rfl rfl (by kernel_rfl) (by kernel_rfl)
def Hl : List XI := [J 2 (.move (.c (.ex [])))]
def HB : List XI := [J 3 (.move (.t 0)), J 4 (.eqNil false (.t 3))]
def HA : List XI := [J 2 (.move (.c (.ex [])))]
def Hw : List XI := [J 5 (.buildSlice 4 []), J 6 (.move (.t 0)), J 7 (.append K3 4 56 (.t 5) (.t 6)), J 2 (.move (.t 7))]
def Ii : XC :=
 (sr Hl
 (.seq (sr HB
 (.cond (.t 4)
 (sr HA
 .ret)
 .skip))
 (sr Hw
 .ret)))
theorem Ik : Fn PR CW 8 Ii [.tmp 2] := mF Tryz.call228 Tryz.func228 rfl rfl (by kernel_rfl) (by kernel_rfl)
def NM : List XI := [J 6 (.alloc [(.d (.int .i64 0)), (.ex []), (.d (.str ⟨#[]⟩)), (.d (.bool false))]), J 7 (.move kF)]
def N7 : List XI := [J 11 (.move (.t 0)), J 12 (.lenR (.t 11)), J 13 (.move (kI 0))]
def OQ : List XI := [J 14 (.bin .lss (.t 13) (.t 12))]
def NA : List XI := [J 15 (.indexAddr 4 (.t 11) (.t 13)), J 16 (.load true 4 (.t 15)), J 9 (.alloc [(.d (.int .i64 0)), (.ex []), (.d (.str ⟨#[]⟩)), (.d (.bool false))]), { dst := none, op := .store 4 (.t 9) (.t 16) }]
def O2 : List XI := [J 17 (.move (.t 2)), J 18 (.load true 4 (.t 9)), J 19 (.dyn (.t 17) [(.t 18)]), J 20 (.move (.t 1)), J 21 (.bin .eql (.t 19) (.t 20))]
def OB : List XI := [J 22 (.load true 4 (.t 9)), { dst := none, op := .store 4 (.t 6) (.t 22) }, J 7 (.move kT)]
def Px : List XI := [J 23 (.bin .add (.t 13) (kI 1)), J 13 (.move (.t 23))]
def PM : XC :=
 (sr OQ
 (.seq (.cond (.t 14)
 .skip
 (.exit 0))
 (.seq (.block 1 (sr NA
 (sr O2
 (.cond (.t 21)
 (sr OB
 .ret)
 .skip))))
 (.region Px))))
def PD : List XI := [J 10 (.alloc [(.d (.int .i64 0)), (.ex []), (.d (.str ⟨#[]⟩)), (.d (.bool false))])]
def OG : List XI := [J 24 (.load true 4 (.t 10)), { dst := none, op := .store 4 (.t 6) (.t 24) }, J 7 (.move kF)]
def IQ : XC :=
 (sr NM
 (.seq (sr N7
 (.block 0 (.loop PM)))
 (sr PD
 (sr OG
 .ret))))
theorem TF : Fn PR FH 25 IQ [.cell 6 true 4, .tmp 7] := mF Tryz.call229 Tryz.func229 rfl rfl (by kernel_rfl) (by kernel_rfl)
def WE : List XI := [J 1 (.box (.t 0)), J 2 (.move (kS #[]))]
def U8 : List XI := [J 3 (.fieldAddr 2 (.t 1)), J 4 (.load false 1 (.t 3)), J 2 (.move (.t 4))]
def Nk : XC :=
 (sr WE
 (sr U8
 .ret))
theorem Ac3 : Fn PR Ij 5 Nk [.tmp 2] := mF Tryz.call230 Tryz.func230 rfl rfl (by kernel_rfl) (by kernel_rfl)
def Bc0 : List XI := [J 3 (.box (.t 0)), J 4 (.box (.t 1)), J 6 (.move (.c (.ex []))), J 7 (.move kF)]
def Ba7 : List XI := [J 15 (.load true 5 (.t 3)), J 16 (.move (.t 2)), J 17 (.call JB [(.t 15), (.t 16)]), J 14 (.move (.t 17)), J 18 (.extract (.t 14) 0), J 19 (.extract (.t 14) 1), J 8 (.alloc [(.d (.str ⟨#[]⟩)), (.ex []), (.ex []), (.d (.int .i64 0)), (.d (.int .i64 0)), (.d (.int .i64 0))]), { dst := none, op := .store 6 (.t 8) (.t 18) }, J 9 (.move (.t 19))]
def Bb0 : List XI := [J 20 (.move (.t 9))]
def Ba8 : List XI := [J 21 (.fieldAddr 1 (.t 8)), J 22 (.load false 1 (.t 21)), J 23 (.call Cd [(.t 22)]), J 6 (.move (.t 23)), J 7 (.move kT)]
def Bb8 : List XI := [J 25 (.fieldAddr 2 (.t 3)), J 26 (.load false 1 (.t 25)), J 27 (.move (.t 2)), J 28 (.call UP [(.t 26), (.t 27), (.c (.fn Bh1 [] []))]), J 24 (.move (.t 28)), J 29 (.extract (.t 24) 0), J 30 (.extract (.t 24) 1), J 10 (.alloc [(.d (.str ⟨#[]⟩)), (.d (.str ⟨#[]⟩)), (.d (.str ⟨#[]⟩)), (.d (.bool false)), (.d (.int .i64 0)), (.d (.int .i64 0))]), { dst := none, op := .store 6 (.t 10) (.t 29) }, J 11 (.move (.t 30))]
def AZ5 : List XI := [J 31 (.move (.t 11)), J 32 (.move (.t 31)), Jt 33 32 (.fieldAddr 2 (.t 10)), Jt 34 32 (.load false 1 (.t 33)), Jt 35 32 (.fieldAddr 0 (.t 4)), Jt 36 32 (.load false 1 (.t 35)), Jt 37 32 (.bin .eql (.t 34) (.t 36)), J 38 (.pick (.t 32) (.t 37) kF)]
def AZ6 : List XI := [J 40 (.fieldAddr 1 (.t 3)), J 41 (.load false 1 (.t 40)), J 42 (.fieldAddr 1 (.t 10)), J 43 (.load false 1 (.t 42)), J 44 (.call H9 [(.t 41), (.t 43)]), J 39 (.move (.t 44)), J 45 (.extract (.t 39) 0), J 46 (.extract (.t 39) 1), J 12 (.move (.t 45)), J 13 (.move (.t 46))]
def Bb5 : List XI := [J 47 (.move (.t 13))]
def Ba2 : List XI := [J 48 (.move (.t 12)), J 6 (.move (.t 48)), J 7 (.move kT)]
def Bb4 : List XI := [J 49 (.move (.t 2)), J 50 (.bin .eql (.t 49) (kS #[98, 97, 116, 99, 104])), J 51 (.move (.t 50)), Jt 52 51 (.fieldAddr 1 (.t 4)), Jt 53 51 (.load false 1 (.t 52)), Jt 54 51 (.bin .neq (.t 53) (kS #[])), J 55 (.pick (.t 51) (.t 54) kF)]
def AO0 : List XI := [J 56 (.fieldAddr 1 (.t 3)), J 57 (.load false 1 (.t 56)), J 58 (.fieldAddr 1 (.t 4)), J 59 (.load false 1 (.t 58)), J 60 (.call H9 [(.t 57), (.t 59)]), J 61 (.extract (.t 60) 0), J 62 (.extract (.t 60) 1), J 6 (.move (.t 61)), J 7 (.move (.t 62))]
def AO1 : List XI := [J 6 (.move (.c (.ex []))), J 7 (.move kF)]
def Ax2 : XC :=
 (sr Bc0
 (.seq (sr Ba7
 (sr Bb0
 (.cond (.t 20)
 (sr Ba8
 .ret)
 .skip)))
 (.seq (sr Bb8
 (sr AZ5
 (.cond (.t 38)
 (sr AZ6
 (sr Bb5
 (.cond (.t 47)
 (sr Ba2
 .ret)
 .skip)))
 .skip)))
 (.seq (sr Bb4
 (.cond (.t 55)
 (sr AO0
 .ret)
 .skip))
 (sr AO1
 .ret)))))
theorem Bv0 : Fn PR YI 63 Ax2 [.tmp 6, .tmp 7] := mF Tryz.call232 Tryz.func232 rfl rfl (by kernel_rfl) (by kernel_rfl)
def Pr : List XI := [J 2 (.move (.c (.ex [])))]
def Pi : List XI := [J 4 (.move (.t 0)), J 5 (.call Bb [(.t 4), (kI 1)]), J 6 (.buildSlice 6 [(.t 5)]), J 3 (.move (.t 6))]
def OF : List XI := [J 7 (.move (.t 0)), J 8 (.call AD [(.t 7), (kS #[44])])]
def Pb : List XI := [J 9 (.move (.t 3)), J 10 (.move (.t 0)), J 11 (.call Bb [(.t 10), (kI 1)]), J 12 (.buildSlice 6 [(.t 11)]), J 13 (.append AO 6 88 (.t 9) (.t 12)), J 3 (.move (.t 13))]
def PZ : XC :=
 (.seq (sr OF
 (.cond (.t 8)
 .skip
 (.exit 0)))
 (.block 1 (.region Pb)))
def PO : List XI := [J 14 (.move (.t 3)), J 2 (.move (.t 14))]
def IR : XC :=
 (sr Pr
 (sr Pi
 (.seq (.block 0 (.loop PZ))
 (sr PO
 .ret))))
theorem Tx : Fn PR DY 15 IR [.tmp 2] := mF Tryz.call237 Tryz.func237 rfl rfl (by kernel_rfl) (by kernel_rfl)
def AT0 : List XI := [J 0 (.move (.c (.ex [])))]
def AV7 : List XI := [J 1 (.buildSlice 1 [(kS #[97, 110, 100]), (kS #[111, 114]), (kS #[110, 111, 116]), (kS #[116, 114, 117, 101]), (kS #[102, 97, 108, 115, 101]), (kS #[108, 101, 116]), (kS #[115, 101, 116]), (kS #[105, 110, 115, 101, 114, 116]), (kS #[117, 112, 100, 97, 116, 101]), (kS #[100, 101, 108, 101, 116, 101]), (kS #[102, 111, 114]), (kS #[105, 110]), (kS #[119, 104, 101, 114, 101]), (kS #[108, 105, 109, 105, 116]), (kS #[105, 102]), (kS #[101, 108, 115, 101]), (kS #[101, 109, 105, 116]), (kS #[97, 98, 111, 114, 116]), (kS #[114, 101, 112, 108, 121]), (kS #[99, 111, 117, 110, 116]), (kS #[115, 117, 109]), (kS #[109, 105, 110]), (kS #[109, 97, 120]), (kS #[105, 110, 116]), (kS #[116, 101, 120, 116]), (kS #[98, 111, 111, 108]), (kS #[116, 97, 98, 108, 101]), (kS #[115, 116, 114, 101, 97, 109]), (kS #[119, 105, 110, 100, 111, 119]), (kS #[115, 105, 110, 107]), (kS #[112, 114, 111, 99]), (kS #[107, 101, 121]), (kS #[117, 110, 105, 113, 117, 101]), (kS #[105, 110, 100, 101, 120]), (kS #[112, 97, 114, 116, 115]), (kS #[98, 121]), (kS #[111, 110]), (kS #[102, 114, 111, 109]), (kS #[97, 116]), (kS #[102, 117, 101, 108]), (kS #[116, 117, 112, 108, 101, 115]), (kS #[98, 97, 116, 99, 104, 101, 115]), (kS #[115, 108, 105, 100, 101])]), J 0 (.move (.t 1))]
def Bk2 : XC :=
 (sr AT0
 (sr AV7
 .ret))
theorem BA4 : Fn PR AD8 2 Bk2 [.tmp 0] := mF Tryz.call251 Tryz.func251 rfl rfl (by kernel_rfl) (by kernel_rfl)
def TY : List XI := [J 2 (.move kF)]
def Qn : List XI := [J 5 (.move (.t 0)), J 6 (.bin .eql (.t 5) (kS #[])), J 7 (.move (.t 6)), Jf 8 7 (.move (.t 0)), Jf 9 7 (.lenS (.t 8)), Jf 10 7 (.bin .gtr (.t 9) (kI 16)), J 11 (.pick (.t 7) kT (.t 10))]
def Qv : List XI := [J 12 (.move (.t 11)), Jf 13 12 (.move (.t 0)), Jf 14 12 (.indexStr (.t 13) (kI 0)), Jf 15 12 (.call Hm [(.t 14)]), Jf 16 12 (.not (.t 15)), J 17 (.pick (.t 12) kT (.t 16))]
def T4 : List XI := Qn ++ (Qv)
def Ui : List XI := [J 2 (.move kF)]
def Uc : List XI := [J 18 (.move (.t 0)), J 19 (.toBytes (.t 18)), J 20 (.lenR (.t 19)), J 21 (.move (kI 0))]
def TZ : List XI := [J 22 (.bin .lss (.t 21) (.t 20))]
def Uj : List XI := [J 23 (.indexAddr 1 (.t 19) (.t 21)), J 24 (.load false 1 (.t 23)), J 4 (.move (.t 24))]
def TI : List XI := [J 25 (.move (.t 4)), J 26 (.call MH [(.t 25)]), J 27 (.not (.t 26))]
def T0 : List XI := [J 2 (.move kF)]
def Ud : List XI := [J 28 (.bin .add (.t 21) (kI 1)), J 21 (.move (.t 28))]
def Uk : XC :=
 (sr TZ
 (.seq (.cond (.t 22)
 .skip
 (.exit 0))
 (.seq (.block 1 (sr Uj
 (sr TI
 (.cond (.t 27)
 (sr T0
 .ret)
 .skip))))
 (.region Ud))))
def SA : List XI := [J 2 (.move kT)]
def Ts : XC :=
 (sr TY
 (.seq (sr T4
 (.cond (.t 17)
 (sr Ui
 .ret)
 .skip))
 (.seq (sr Uc
 (.block 0 (.loop Uk)))
 (sr SA
 .ret))))
theorem Ad3 : Fn PR Le 29 Ts [.tmp 2] := mF Tryz.call256 Tryz.func256 rfl rfl (by kernel_rfl) (by kernel_rfl)
def Br9 : List XI := [J 4 (.move (.c (.ex [])))]
def Bq5 : List XI := [J 5 (.move (.t 0)), J 6 (.not (.t 5))]
def Bt2 : List XI := [J 4 (.move (.c (.ex [])))]
def Bq6 : List XI := [J 7 (.move (.t 1)), J 8 (.buildSlice 1 [(.t 7)]), J 4 (.move (.t 8))]
def BM4 : XC :=
 (sr Br9
 (.seq (sr Bq5
 (.cond (.t 6)
 (sr Bt2
 .ret)
 .skip))
 (sr Bq6
 .ret)))
theorem BV9 : Fn PR Bm1 9 BM4 [.tmp 4] := mF Tryz.call258 Tryz.func258 rfl rfl (by kernel_rfl) (by kernel_rfl)
def Es : List XI := [J 4 (.move (kI 0))]
def Ez : List XI := [J 6 (.move (.t 0)), J 7 (.lenR (.t 6)), J 8 (.move (kI 0))]
def Ex : List XI := [J 9 (.bin .lss (.t 8) (.t 7))]
def EB : List XI := [J 10 (.move (.t 8)), J 5 (.move (.t 10))]
def Eg : List XI := [J 11 (.move (.t 1)), J 12 (.move (.t 0)), J 13 (.move (.t 5)), J 14 (.indexAddr 6 (.t 12) (.t 13)), J 15 (.load true 6 (.t 14)), J 16 (.dyn (.t 11) [(.t 15)])]
def Eu : List XI := [J 17 (.move (.t 5)), J 4 (.move (.t 17))]
def EA : List XI := [J 18 (.bin .add (.t 8) (kI 1)), J 8 (.move (.t 18))]
def Eh : XC :=
 (sr Ex
 (.seq (.cond (.t 9)
 .skip
 (.exit 0))
 (.seq (.block 1 (sr EB
 (sr Eg
 (.cond (.t 16)
 (sr Eu
 .ret)
 .skip))))
 (.region EA))))
def Ek : List XI := [J 4 (.move (kI (-1)))]
def C8 : XC :=
 (sr Es
 (.seq (sr Ez
 (.block 0 (.loop Eh)))
 (sr Ek
 .ret)))
theorem EY : Fn PR Ce 19 C8 [.tmp 4] := mF Tryz.call259 Tryz.func259 rfl rfl (by kernel_rfl) (by kernel_rfl)
def Bb6 : List XI := [J 2 (.box (.t 0)), J 3 (.box (.t 1)), J 4 (.move (kI 0))]
def Ba9 : List XI := [J 5 (.fieldAddr 1 (.t 2)), J 6 (.load false 1 (.t 5)), J 7 (.mkfn Tl [] [(.t 3)]), J 8 (.call CJ [(.t 6), (.t 7)]), J 4 (.move (.t 8))]
def AM1 : XC :=
 (sr Bb6
 (sr Ba9
 .ret))
theorem Bw3 : Fn PR Ya 9 AM1 [.tmp 4] := mF Tryz.call266 Tryz.func266 rfl rfl (by kernel_rfl) (by kernel_rfl)
def To : List XI := [J 2 (.move kF)]
def Np : List XI := [J 3 (.move (.t 0)), J 4 (.bin .geq (.t 3) (.c (.d (.int .u8 97)))), J 5 (.move (.t 4)), Jt 6 5 (.move (.t 0)), Jt 7 5 (.bin .leq (.t 6) (.c (.d (.int .u8 122)))), J 8 (.pick (.t 5) (.t 7) kF)]
def Il : List XI := [J 2 (.move (.t 8))]
def S8 : List XI := Np ++ (Il)
def PF : XC :=
 (sr To
 (sr S8
 .ret))
theorem YS : Fn PR Hm 9 PF [.tmp 2] := mF Tryz.call279 Tryz.func279 rfl rfl (by kernel_rfl) (by kernel_rfl)
def Vy : List XI := [J 2 (.move kF)]
def SF : List XI := [J 3 (.move (.t 0)), J 4 (.call Hm [(.t 3)]), J 5 (.move (.t 4)), Jf 6 5 (.move (.t 0)), Jf 7 5 (.bin .geq (.t 6) (.c (.d (.int .u8 48)))), Jf 8 5 (.move (.t 7)), Jt 9 8 (.move (.t 0)), Jt 10 8 (.bin .leq (.t 9) (.c (.d (.int .u8 57)))), Jf 11 5 (.pick (.t 8) (.t 10) kF), J 12 (.pick (.t 5) kT (.t 11))]
def G4 : List XI := [J 13 (.move (.t 12)), Jf 14 13 (.move (.t 0)), Jf 15 13 (.bin .eql (.t 14) (.c (.d (.int .u8 95)))), J 16 (.pick (.t 13) kT (.t 15))]
def FC : List XI := [J 2 (.move (.t 16))]
def VA : List XI := SF ++ (G4 ++ (FC))
def UZ : XC :=
 (sr Vy
 (sr VA
 .ret))
theorem Ap7 : Fn PR MH 17 UZ [.tmp 2] := mF Tryz.call280 Tryz.func280 rfl rfl (by kernel_rfl) (by kernel_rfl)
def GJ : List XI := [J 4 (.move (kI 0))]
def GC : List XI := [J 6 (.move (.t 0)), J 7 (.lenR (.t 6)), J 8 (.move (kI 0))]
def GL : List XI := [J 9 (.bin .lss (.t 8) (.t 7))]
def GH : List XI := [J 10 (.move (.t 8)), J 5 (.move (.t 10))]
def GG : List XI := [J 11 (.move (.t 1)), J 12 (.move (.t 0)), J 13 (.move (.t 5)), J 14 (.indexAddr 2 (.t 12) (.t 13)), J 15 (.load true 2 (.t 14)), J 16 (.dyn (.t 11) [(.t 15)])]
def GF : List XI := [J 17 (.move (.t 5)), J 4 (.move (.t 17))]
def GE : List XI := [J 18 (.bin .add (.t 8) (kI 1)), J 8 (.move (.t 18))]
def GI : XC :=
 (sr GL
 (.seq (.cond (.t 9)
 .skip
 (.exit 0))
 (.seq (.block 1 (sr GH
 (sr GG
 (.cond (.t 16)
 (sr GF
 .ret)
 .skip))))
 (.region GE))))
def GD : List XI := [J 4 (.move (kI (-1)))]
def Ea : XC :=
 (sr GJ
 (.seq (sr GC
 (.block 0 (.loop GI)))
 (sr GD
 .ret)))
theorem HJ : Fn PR CJ 19 Ea [.tmp 4] := mF Tryz.call282 Tryz.func282 rfl rfl (by kernel_rfl) (by kernel_rfl)
def AG4 : List XI := [J 2 (.box (.t 0)), J 3 (.move kF)]
def Au7 : List XI := [J 4 (.fieldAddr 0 (.t 2)), J 5 (.load false 1 (.t 4)), J 6 (.load false 1 (.t 1)), J 7 (.bin .eql (.t 5) (.t 6)), J 3 (.move (.t 7))]
def Ae6 : XC :=
 (sr AG4
 (sr Au7
 .ret))
theorem Bl4 : Fn PR Tl 8 Ae6 [.tmp 3] := mF Tryz.call283 Tryz.func283 rfl rfl (by kernel_rfl) (by kernel_rfl)
end Go.Ax
