import Derived.Test.YtojkpenjeglipaaProg
import Derived.Test.YtojkpenjeglipaaIAxVk
import Derived.KernelRfl
set_option linter.unusedVariables false
namespace Go.Ax
abbrev J (d : Nat) (o : XOp) : XI := { dst := some d, op := o, guard := none, nm := 0 }
abbrev Jt (d g : Nat) (o : XOp) : XI := { dst := some d, op := o, guard := some (g, true), nm := 0 }
abbrev Jf (d g : Nat) (o : XOp) : XI := { dst := some d, op := o, guard := some (g, false), nm := 0 }
open Go.Proofs
noncomputable abbrev PR : Program := Try.prog
abbrev PC : Nat := 4
abbrev S2 : Nat := 6
abbrev QL : Nat := 7
abbrev QD : Nat := 8
abbrev IW : Nat := 9
abbrev Jh : Nat := 10
abbrev AE4 : Nat := 11
abbrev SN : Nat := 12
abbrev Q6 : Nat := 13
abbrev TZ : Nat := 14
abbrev Av4 : Nat := 15
abbrev PX : Nat := 16
abbrev VE : Nat := 18
abbrev CW : Nat := 20
abbrev YQ : Nat := 21
abbrev LE : Nat := 22
abbrev Di : Nat := 23
abbrev H2 : Nat := 24
abbrev Yq : Nat := 25
abbrev YR : Nat := 26
abbrev TH : Nat := 27
abbrev Zs : Nat := 28
abbrev HQ : Nat := 29
abbrev FG : Nat := 30
abbrev FL : Nat := 31
abbrev OF : Nat := 32
abbrev C9 : Nat := 33
abbrev Bx : Nat := 34
abbrev Xr : Nat := 35
abbrev Y3 : Nat := 36
abbrev Nc : Nat := 37
abbrev G7 : Nat := 38
abbrev EK : Nat := 40
abbrev LM : Nat := 41
abbrev Dv : Nat := 42
abbrev Rp : Nat := 43
abbrev NE : Nat := 44
abbrev IU : Nat := 45
abbrev IK : Nat := 46
abbrev Iq : Nat := 47
abbrev Hx : Nat := 48
abbrev Xs : Nat := 49
abbrev Hj : Nat := 51
abbrev Bc : Nat := 52
abbrev GR : Nat := 53
abbrev JN : Nat := 54
abbrev Ld : Nat := 55
abbrev CV : Nat := 56
abbrev Hq : Nat := 57
abbrev LA : Nat := 58
abbrev Is : Nat := 59
abbrev Nf : Nat := 60
abbrev RM : Nat := 61
abbrev GM : Nat := 62
abbrev GO : Nat := 66
abbrev DA : Nat := 67
abbrev Dc : Nat := 70
abbrev YC : Nat := 71
abbrev B0 : Nat := 72
abbrev Sq : Nat := 73
abbrev FT : Nat := 74
abbrev U8 : Nat := 86
abbrev Ag2 : Nat := 88
abbrev Dd : Nat := 89
abbrev Vx : Nat := 90
abbrev Gk : Nat := 91
abbrev AO : Nat := 52
abbrev AD : Nat := 9
abbrev AV : Nat := 50
abbrev Ba : Nat := 3
abbrev AU : Nat := 4
def Ln : List XI := [J 2 (.box (.t 0)), J 4 (.move (.c (.d (.bool false))))]
def Le : List XI := [J 20 (.load true 8 (.t 2)), J 21 (.call AE4 [(.t 20)]), J 19 (.move (.t 21)), J 22 (.extract (.t 19) 0), J 23 (.extract (.t 19) 1), J 24 (.extract (.t 19) 2), J 25 (.extract (.t 19) 3), J 26 (.extract (.t 19) 4), J 5 (.alloc [(.d (.str ⟨#[]⟩)), (.d (.str ⟨#[]⟩)), (.d (.str ⟨#[]⟩)), (.d (.int .i64 0)), (.ex []), (.ex [])]), { dst := none, op := .store 6 (.t 5) (.t 22) }, J 6 (.move (.t 23)), J 7 (.move (.t 24)), J 8 (.move (.t 25)), J 9 (.move (.t 26))]
def Kg : List XI := [J 27 (.move (.t 9)), J 28 (.not (.t 27)), J 29 (.move (.t 28)), Jf 30 29 (.move (.t 8)), Jf 31 29 (.not (.t 30)), J 32 (.pick (.t 29) (.c (.d (.bool true))) (.t 31))]
def Hs : List XI := [J 33 (.move (.t 32)), Jf 34 33 (.fieldAddr 5 (.t 5)), Jf 35 33 (.load false 1 (.t 34)), Jf 36 33 (.lenR (.t 35)), Jf 37 33 (.bin .eql (.t 36) (.c (.d (.int .i64 0)))), J 38 (.pick (.t 33) (.c (.d (.bool true))) (.t 37))]
def Mj : List XI := Kg ++ (Hs)
def Mi : List XI := [J 39 (.call S2 []), J 4 (.move (.t 39))]
def Li : List XI := [J 40 (.move (.t 1)), J 41 (.toInt .u64 (.t 40)), J 42 (.fieldAddr 5 (.t 5)), J 43 (.load false 1 (.t 42)), J 44 (.lenR (.t 43)), J 45 (.toInt .u64 (.t 44)), J 46 (.bin .rem (.t 41) (.t 45)), J 47 (.toInt .i64 (.t 46)), J 10 (.move (.t 47))]
def Lm : List XI := [J 48 (.load true 6 (.t 5)), J 11 (.alloc [(.d (.str ⟨#[]⟩)), (.d (.str ⟨#[]⟩)), (.d (.str ⟨#[]⟩)), (.d (.int .i64 0)), (.ex []), (.ex [])]), { dst := none, op := .store 6 (.t 11) (.t 48) }]
def Lr : List XI := [J 49 (.buildSlice 8 []), J 50 (.fieldAddr 5 (.t 5)), J 51 (.load false 1 (.t 50)), J 52 (.move (.t 10)), J 53 (.sliceR 8 (.t 51) none (some (.t 52)) none), J 54 (.append AO 8 144 (.t 49) (.t 53)), J 55 (.fieldAddr 5 (.t 5)), J 56 (.load false 1 (.t 55)), J 57 (.move (.t 10)), J 58 (.bin .add (.t 57) (.c (.d (.int .i64 1)))), J 59 (.sliceR 8 (.t 56) (some (.t 58)) none none), { dst := some 60, op := .append AO 8 144 (.t 54) (.t 59), nm := 1 }, J 61 (.fieldAddr 5 (.t 11)), { dst := none, op := .store 1 (.t 61) (.t 60) }]
def LY : List XI := [J 63 (.load true 6 (.t 5)), J 64 (.call SN [(.t 63)]), J 62 (.move (.t 64)), J 65 (.extract (.t 62) 0), J 66 (.extract (.t 62) 1), J 12 (.move (.t 65)), J 13 (.move (.t 66))]
def LH : List XI := [J 68 (.load true 6 (.t 11)), J 69 (.call SN [(.t 68)]), J 67 (.move (.t 69)), J 70 (.extract (.t 67) 0), J 71 (.extract (.t 67) 1), J 14 (.move (.t 70)), J 15 (.move (.t 71))]
def LZ : List XI := [J 72 (.load true 6 (.t 11)), J 73 (.call Q6 [(.t 72)]), J 16 (.move (.t 73))]
def KH : List XI := [J 74 (.load true 6 (.t 5)), J 75 (.call Q6 [(.t 74)]), J 17 (.move (.t 75))]
def KK : List XI := [J 18 (.move (.c (.d (.int .i64 0))))]
def KN : List XI := [J 76 (.move (.t 18)), J 77 (.move (.t 16)), J 78 (.lenR (.t 77)), J 79 (.bin .lss (.t 76) (.t 78))]
def KG : List XI := [J 82 (.move (.t 17)), J 83 (.move (.t 16)), J 84 (.move (.t 18)), J 85 (.indexAddr 1 (.t 83) (.t 84)), J 86 (.load false 1 (.t 85)), J 87 (.call Av4 [(.t 82), (.t 86)]), J 88 (.move (.t 17)), J 89 (.call TZ [(.t 87), (.t 88)]), J 90 (.not (.t 89))]
def KE : List XI := [J 4 (.move (.c (.d (.bool false))))]
def KI : List XI := [J 80 (.move (.t 18)), J 81 (.bin .add (.t 80) (.c (.d (.int .i64 1)))), J 18 (.move (.t 81))]
def KO : XC :=
 (.seq (.seq (.region KN)
 (.cond (.t 79)
 .skip
 (.exit 0)))
 (.seq (.block 1 (.seq (.region KG)
 (.cond (.t 90)
 (.seq (.region KE)
 .ret)
 .skip)))
 (.region KI)))
def JD : List XI := [J 91 (.load true 6 (.t 11)), J 92 (.call PX [(.t 91)]), J 93 (.move (.t 92)), Jt 94 93 (.move (.t 14)), Jt 95 93 (.move (.t 12)), Jt 96 93 (.bin .lss (.t 94) (.t 95)), J 97 (.pick (.t 93) (.t 96) (.c (.d (.bool false))))]
def JF : List XI := [J 98 (.move (.t 97)), Jt 99 98 (.move (.t 15)), Jt 100 98 (.move (.t 13)), Jt 101 98 (.bin .leq (.t 99) (.t 100)), J 102 (.pick (.t 98) (.t 101) (.c (.d (.bool false))))]
def Hd : List XI := [J 103 (.move (.t 102)), Jt 104 103 (.call S2 []), J 105 (.pick (.t 103) (.t 104) (.c (.d (.bool false))))]
def Fy : List XI := [J 4 (.move (.t 105))]
def KF : List XI := JD ++ (JF ++ (Hd ++ (Fy)))
def Pi : XC :=
 (.seq (.region Ln)
 (.seq (.region Le)
 (.seq (.seq (.region Mj)
 (.cond (.t 38)
 (.seq (.region Mi)
 .ret)
 .skip))
 (.seq (.region Li)
 (.seq (.region Lm)
 (.seq (.regionD Lr [[], [], [1], [], [2, 1, 3], [0, 4, 2, 1, 3], [], [6], [], [8], [7, 6, 9, 8], [5, 0, 4, 2, 1, 3, 10, 7, 6, 9, 8], [0, 1, 2, 3, 4, 5, 6, 7, 8, 9, 10, 11], [12, 0, 1, 2, 3, 4, 5, 6, 7, 8, 9, 10, 11]] 2)
 (.seq (.region LY)
 (.seq (.region LH)
 (.seq (.region LZ)
 (.seq (.region KH)
 (.seq (.seq (.region KK)
 (.block 0 (.loop KO)))
 (.seq (.region KF)
 .ret))))))))))))
theorem Xf : Fn PR PC 106 Pi [.tmp 4] := ⟨fun vs w => Try.call4 vs w, Try.f4, _, Try.func4, rfl, rfl, by kernel_rfl, by kernel_rfl⟩
def Wo : List XI := [J 0 (.move (.c (.d (.bool false))))]
def VK : List XI := [J 5 (.build [(.d (.int .i64 0)), (.d (.int .i64 0)), (.d (.str ⟨#[]⟩)), (.d (.str ⟨#[]⟩)), (.d (.str ⟨#[]⟩)), (.ex [])] [(0, 1, (.c (.d (.int .i64 3)))), (1, 1, (.c (.d (.int .i64 1))))]), J 1 (.alloc [(.d (.int .i64 0)), (.d (.int .i64 0)), (.d (.str ⟨#[]⟩)), (.d (.str ⟨#[]⟩)), (.d (.str ⟨#[]⟩)), (.ex [])]), { dst := none, op := .store 6 (.t 1) (.t 5) }]
def WW : List XI := [J 6 (.load true 6 (.t 1)), J 7 (.buildSlice 6 [(.t 6)]), J 8 (.build [(.d (.int .i64 0)), (.d (.str ⟨#[]⟩)), (.d (.str ⟨#[]⟩)), (.d (.int .i64 0)), (.ex []), (.ex []), (.ex []), (.ex [])] [(0, 1, (.c (.d (.int .i64 5)))), (1, 1, (.c (.d (.str ⟨#[97]⟩)))), (2, 1, (.c (.d (.str ⟨#[116]⟩)))), (5, 1, (.t 7))]), J 9 (.buildSlice 8 [(.t 8)]), J 10 (.build [(.d (.str ⟨#[]⟩)), (.d (.str ⟨#[]⟩)), (.d (.str ⟨#[]⟩)), (.d (.int .i64 0)), (.ex []), (.ex [])] [(0, 1, (.c (.d (.str ⟨#[112]⟩)))), (3, 1, (.c (.d (.int .i64 1)))), (5, 1, (.t 9))]), J 2 (.alloc [(.d (.str ⟨#[]⟩)), (.d (.str ⟨#[]⟩)), (.d (.str ⟨#[]⟩)), (.d (.int .i64 0)), (.ex []), (.ex [])]), { dst := none, op := .store 6 (.t 2) (.t 10) }]
def Wz : List XI := [J 12 (.load true 6 (.t 2)), J 13 (.call SN [(.t 12)]), J 11 (.move (.t 13)), J 14 (.extract (.t 11) 0), J 15 (.extract (.t 11) 1), J 3 (.move (.t 14)), J 4 (.move (.t 15))]
def R5 : List XI := [J 16 (.load true 6 (.t 2)), J 17 (.call PX [(.t 16)]), J 18 (.move (.t 17)), Jt 19 18 (.load true 6 (.t 2)), Jt 20 18 (.call Q6 [(.t 19)]), Jt 21 18 (.buildSlice 1 [(.c (.d (.str ⟨#[116]⟩)))]), Jt 22 18 (.call TZ [(.t 20), (.t 21)]), J 23 (.pick (.t 18) (.t 22) (.c (.d (.bool false))))]
def RH : List XI := [J 24 (.move (.t 23)), Jt 25 24 (.load true 6 (.t 2)), Jt 26 24 (.call VE [(.t 25)]), Jt 27 24 (.buildSlice 1 [(.c (.d (.str ⟨#[116]⟩)))]), Jt 28 24 (.call TZ [(.t 26), (.t 27)]), J 29 (.pick (.t 24) (.t 28) (.c (.d (.bool false))))]
def R2 : List XI := [J 30 (.move (.t 29)), Jt 31 30 (.move (.t 3)), Jt 32 30 (.bin .eql (.t 31) (.c (.d (.int .i64 2)))), J 33 (.pick (.t 30) (.t 32) (.c (.d (.bool false))))]
def Nj : List XI := [J 34 (.move (.t 33)), Jt 35 34 (.move (.t 4)), Jt 36 34 (.bin .eql (.t 35) (.c (.d (.int .i64 2)))), J 37 (.pick (.t 34) (.t 36) (.c (.d (.bool false))))]
def JS : List XI := [J 0 (.move (.t 37))]
def Xe : List XI := R5 ++ (RH ++ (R2 ++ (Nj ++ (JS))))
def Ak9 : XC :=
 (.seq (.region Wo)
 (.seq (.region VK)
 (.seq (.region WW)
 (.seq (.region Wz)
 (.seq (.region Xe)
 .ret)))))
theorem AE8 : Fn PR S2 38 Ak9 [.tmp 0] := ⟨fun vs w => Try.call6 vs w, Try.f6, _, Try.func6, rfl, rfl, by kernel_rfl, by kernel_rfl⟩
def QF : List XI := [J 2 (.move (.c (.d (.bool false))))]
def Rf : List XI := [J 3 (.call YQ []), J 4 (.move (.t 0)), J 5 (.call CW [(.t 3), (.t 4)]), J 2 (.move (.t 5))]
def VS : XC :=
 (.seq (.region QF)
 (.seq (.region Rf)
 .ret))
theorem Aq5 : Fn PR QL 6 VS [.tmp 2] := ⟨fun vs w => Try.call7 vs w, Try.f7, _, Try.func7, rfl, rfl, by kernel_rfl, by kernel_rfl⟩
def Qh : List XI := [J 2 (.move (.c (.d (.bool false))))]
def Qn : List XI := [J 5 (.buildSlice 1 [(.c (.d (.str ⟨#[97, 110, 100]⟩))), (.c (.d (.str ⟨#[111, 114]⟩))), (.c (.d (.str ⟨#[110, 111, 116]⟩))), (.c (.d (.str ⟨#[116, 114, 117, 101]⟩))), (.c (.d (.str ⟨#[102, 97, 108, 115, 101]⟩))), (.c (.d (.str ⟨#[108, 101, 116]⟩))), (.c (.d (.str ⟨#[115, 101, 116]⟩))), (.c (.d (.str ⟨#[105, 110, 115, 101, 114, 116]⟩))), (.c (.d (.str ⟨#[117, 112, 100, 97, 116, 101]⟩))), (.c (.d (.str ⟨#[100, 101, 108, 101, 116, 101]⟩))), (.c (.d (.str ⟨#[102, 111, 114]⟩))), (.c (.d (.str ⟨#[105, 110]⟩))), (.c (.d (.str ⟨#[119, 104, 101, 114, 101]⟩))), (.c (.d (.str ⟨#[108, 105, 109, 105, 116]⟩))), (.c (.d (.str ⟨#[105, 102]⟩))), (.c (.d (.str ⟨#[101, 108, 115, 101]⟩))), (.c (.d (.str ⟨#[101, 109, 105, 116]⟩))), (.c (.d (.str ⟨#[97, 98, 111, 114, 116]⟩))), (.c (.d (.str ⟨#[114, 101, 112, 108, 121]⟩))), (.c (.d (.str ⟨#[99, 111, 117, 110, 116]⟩))), (.c (.d (.str ⟨#[115, 117, 109]⟩))), (.c (.d (.str ⟨#[109, 105, 110]⟩))), (.c (.d (.str ⟨#[109, 97, 120]⟩))), (.c (.d (.str ⟨#[105, 110, 116]⟩))), (.c (.d (.str ⟨#[116, 101, 120, 116]⟩))), (.c (.d (.str ⟨#[98, 111, 111, 108]⟩))), (.c (.d (.str ⟨#[116, 97, 98, 108, 101]⟩))), (.c (.d (.str ⟨#[115, 116, 114, 101, 97, 109]⟩))), (.c (.d (.str ⟨#[119, 105, 110, 100, 111, 119]⟩))), (.c (.d (.str ⟨#[115, 105, 110, 107]⟩))), (.c (.d (.str ⟨#[112, 114, 111, 99]⟩))), (.c (.d (.str ⟨#[107, 101, 121]⟩))), (.c (.d (.str ⟨#[117, 110, 105, 113, 117, 101]⟩))), (.c (.d (.str ⟨#[105, 110, 100, 101, 120]⟩))), (.c (.d (.str ⟨#[112, 97, 114, 116, 115]⟩))), (.c (.d (.str ⟨#[98, 121]⟩))), (.c (.d (.str ⟨#[111, 110]⟩))), (.c (.d (.str ⟨#[102, 114, 111, 109]⟩))), (.c (.d (.str ⟨#[97, 116]⟩))), (.c (.d (.str ⟨#[102, 117, 101, 108]⟩))), (.c (.d (.str ⟨#[116, 117, 112, 108, 101, 115]⟩))), (.c (.d (.str ⟨#[98, 97, 116, 99, 104, 101, 115]⟩))), (.c (.d (.str ⟨#[115, 108, 105, 100, 101]⟩)))]), J 3 (.move (.t 5))]
def QN : List XI := [J 4 (.move (.c (.d (.int .i64 0))))]
def Qa : List XI := [J 6 (.move (.t 4)), J 7 (.move (.t 3)), J 8 (.lenR (.t 7)), J 9 (.bin .lss (.t 6) (.t 8))]
def QE : List XI := [J 12 (.move (.t 3)), J 13 (.move (.t 4)), J 14 (.indexAddr 1 (.t 12) (.t 13)), J 15 (.load false 1 (.t 14)), J 16 (.move (.t 0)), J 17 (.bin .eql (.t 15) (.t 16))]
def Q2 : List XI := [J 2 (.move (.c (.d (.bool true))))]
def QP : List XI := [J 10 (.move (.t 4)), J 11 (.bin .add (.t 10) (.c (.d (.int .i64 1)))), J 4 (.move (.t 11))]
def QZ : XC :=
 (.seq (.seq (.region Qa)
 (.cond (.t 9)
 .skip
 (.exit 0)))
 (.seq (.block 1 (.seq (.region QE)
 (.cond (.t 17)
 (.seq (.region Q2)
 .ret)
 .skip)))
 (.region QP)))
def Qu : List XI := [J 2 (.move (.c (.d (.bool false))))]
def WA : XC :=
 (.seq (.region Qh)
 (.seq (.region Qn)
 (.seq (.seq (.region QN)
 (.block 0 (.loop QZ)))
 (.seq (.region Qu)
 .ret))))
theorem Ar4 : Fn PR QD 18 WA [.tmp 2] := ⟨fun vs w => Try.call8 vs w, Try.f8, _, Try.func8, rfl, rfl, by kernel_rfl, by kernel_rfl⟩
def Yc : List XI := [J 2 (.move (.c (.d (.bool false))))]
def S7 : List XI := [J 3 (.move (.t 0)), J 4 (.call LE [(.t 3)]), J 5 (.move (.t 4)), Jt 6 5 (.move (.t 0)), Jt 7 5 (.call Di [(.t 6), (.c (.fn QL [] []))]), Jt 8 5 (.not (.t 7)), J 9 (.pick (.t 5) (.t 8) (.c (.d (.bool false))))]
def OV : List XI := [J 2 (.move (.t 9))]
def YA : List XI := S7 ++ (OV)
def Ax4 : XC :=
 (.seq (.region Yc)
 (.seq (.region YA)
 .ret))
theorem AN1 : Fn PR IW 10 Ax4 [.tmp 2] := ⟨fun vs w => Try.call9 vs w, Try.f9, _, Try.func9, rfl, rfl, by kernel_rfl, by kernel_rfl⟩
def YZ : List XI := [J 2 (.move (.c (.d (.bool false))))]
def S9 : List XI := [J 3 (.move (.t 0)), J 4 (.call H2 [(.t 3)]), J 5 (.move (.t 4)), Jt 6 5 (.move (.t 0)), Jt 7 5 (.call QD [(.t 6)]), Jt 8 5 (.not (.t 7)), J 9 (.pick (.t 5) (.t 8) (.c (.d (.bool false))))]
def OO : List XI := [J 2 (.move (.t 9))]
def Yy : List XI := S9 ++ (OO)
def AA4 : XC :=
 (.seq (.region YZ)
 (.seq (.region Yy)
 .ret))
theorem AL5 : Fn PR Jh 10 AA4 [.tmp 2] := ⟨fun vs w => Try.call10 vs w, Try.f10, _, Try.func10, rfl, rfl, by kernel_rfl, by kernel_rfl⟩
def Ar2 : List XI := [J 1 (.box (.t 0)), J 2 (.alloc [(.d (.str ⟨#[]⟩)), (.d (.str ⟨#[]⟩)), (.d (.str ⟨#[]⟩)), (.d (.int .i64 0)), (.ex []), (.ex [])]), J 3 (.move (.c (.d (.int .i64 0)))), J 4 (.move (.c (.d (.int .i64 0)))), J 5 (.move (.c (.d (.bool false)))), J 6 (.move (.c (.d (.bool false))))]
def Ao6 : List XI := [J 13 (.fieldAddr 0 (.t 1)), J 14 (.load false 1 (.t 13)), J 15 (.fieldAddr 1 (.t 1)), J 16 (.load false 1 (.t 15)), J 17 (.fieldAddr 2 (.t 1)), J 18 (.load false 1 (.t 17)), J 19 (.fieldAddr 3 (.t 1)), J 20 (.load false 1 (.t 19)), J 21 (.fieldAddr 4 (.t 1)), J 22 (.load false 1 (.t 21)), J 23 (.build [(.d (.str ⟨#[]⟩)), (.d (.str ⟨#[]⟩)), (.d (.str ⟨#[]⟩)), (.d (.int .i64 0)), (.ex []), (.ex [])] [(0, 1, (.t 14)), (1, 1, (.t 16)), (2, 1, (.t 18)), (3, 1, (.t 20)), (4, 1, (.t 22))]), J 7 (.alloc [(.d (.str ⟨#[]⟩)), (.d (.str ⟨#[]⟩)), (.d (.str ⟨#[]⟩)), (.d (.int .i64 0)), (.ex []), (.ex [])]), { dst := none, op := .store 6 (.t 7) (.t 23) }]
def XR : List XI := [J 24 (.fieldAddr 5 (.t 1)), J 25 (.load false 1 (.t 24)), J 26 (.fieldAddr 6 (.t 1)), J 27 (.load false 1 (.t 26)), J 28 (.call Yq [(.t 25), (.t 27)]), J 29 (.move (.t 28)), Jf 30 29 (.fieldAddr 4 (.t 1)), Jf 31 29 (.load false 1 (.t 30)), Jf 32 29 (.lenR (.t 31)), Jf 33 29 (.bin .gtr (.t 32) (.c (.d (.int .i64 12)))), J 34 (.pick (.t 29) (.c (.d (.bool true))) (.t 33))]
def Yz : List XI := [J 35 (.move (.t 34)), Jf 36 35 (.fieldAddr 7 (.t 1)), Jf 37 35 (.load false 1 (.t 36)), Jf 38 35 (.lenR (.t 37)), Jf 39 35 (.bin .gtr (.t 38) (.c (.d (.int .i64 12)))), J 40 (.pick (.t 35) (.c (.d (.bool true))) (.t 39))]
def X1 : List XI := [J 41 (.move (.t 40)), Jf 42 41 (.fieldAddr 0 (.t 1)), Jf 43 41 (.load false 1 (.t 42)), Jf 44 41 (.lenS (.t 43)), Jf 45 41 (.bin .gtr (.t 44) (.c (.d (.int .i64 100)))), J 46 (.pick (.t 41) (.c (.d (.bool true))) (.t 45))]
def Y8 : List XI := [J 47 (.move (.t 46)), Jf 48 47 (.fieldAddr 1 (.t 1)), Jf 49 47 (.load false 1 (.t 48)), Jf 50 47 (.lenS (.t 49)), Jf 51 47 (.bin .gtr (.t 50) (.c (.d (.int .i64 100)))), J 52 (.pick (.t 47) (.c (.d (.bool true))) (.t 51))]
def Sj : List XI := [J 53 (.move (.t 52)), Jf 54 53 (.fieldAddr 2 (.t 1)), Jf 55 53 (.load false 1 (.t 54)), Jf 56 53 (.lenS (.t 55)), Jf 57 53 (.bin .gtr (.t 56) (.c (.d (.int .i64 100)))), J 58 (.pick (.t 53) (.c (.d (.bool true))) (.t 57))]
def Am5 : List XI := XR ++ (Yz ++ (X1 ++ (Y8 ++ (Sj))))
def An3 : List XI := [J 59 (.load true 6 (.t 7)), { dst := none, op := .store 6 (.t 2) (.t 59) }, J 3 (.move (.c (.d (.int .i64 0)))), J 4 (.move (.c (.d (.int .i64 0)))), J 5 (.move (.c (.d (.bool false)))), J 6 (.move (.c (.d (.bool false))))]
def Ap3 : List XI := [J 60 (.fieldAddr 5 (.t 1)), J 61 (.load false 1 (.t 60)), J 62 (.fieldAddr 6 (.t 1)), J 63 (.load false 1 (.t 62)), J 64 (.call YR [(.t 61), (.t 63)]), J 8 (.alloc [(.ex []), (.ex []), (.ex []), (.ex []), (.ex []), (.ex [])]), { dst := none, op := .store 6 (.t 8) (.t 64) }]
def Ao1 : List XI := [J 9 (.move (.c (.d (.int .i64 0)))), J 10 (.move (.c (.d (.int .i64 0))))]
def Ao3 : List XI := [J 11 (.move (.c (.d (.int .i64 0))))]
def An2 : List XI := [J 65 (.move (.t 11)), J 66 (.fieldAddr 7 (.t 1)), J 67 (.load false 1 (.t 66)), J 68 (.lenR (.t 67)), J 69 (.bin .lss (.t 65) (.t 68)), J 70 (.move (.t 69)), Jt 71 70 (.fieldAddr 3 (.t 8)), Jt 72 70 (.load false 1 (.t 71)), Jt 73 70 (.lenR (.t 72)), Jt 74 70 (.bin .gtr (.t 73) (.c (.d (.int .i64 0)))), J 75 (.pick (.t 70) (.t 74) (.c (.d (.bool false))))]
def As2 : List XI := [J 78 (.fieldAddr 3 (.t 8)), J 79 (.load false 1 (.t 78)), J 80 (.lenR (.t 79)), J 81 (.bin .sub (.t 80) (.c (.d (.int .i64 1)))), J 82 (.fieldAddr 7 (.t 1)), J 83 (.load false 1 (.t 82)), J 84 (.move (.t 11)), J 85 (.indexAddr 1 (.t 83) (.t 84)), J 86 (.load false 1 (.t 85)), J 87 (.toInt .u64 (.t 86)), J 88 (.fieldAddr 3 (.t 8)), J 89 (.load false 1 (.t 88)), J 90 (.lenR (.t 89)), J 91 (.toInt .u64 (.t 90)), J 92 (.bin .rem (.t 87) (.t 91)), J 93 (.toInt .i64 (.t 92)), J 94 (.bin .sub (.t 81) (.t 93)), J 12 (.move (.t 94))]
def Am1 : List XI := [J 95 (.fieldAddr 5 (.t 7)), J 96 (.load false 1 (.t 95)), J 97 (.fieldAddr 3 (.t 8)), J 98 (.load false 1 (.t 97)), J 99 (.move (.t 12)), J 100 (.indexAddr 8 (.t 98) (.t 99)), J 101 (.load true 8 (.t 100)), J 102 (.buildSlice 8 [(.t 101)]), J 103 (.append AO 8 144 (.t 96) (.t 102)), J 104 (.fieldAddr 5 (.t 7)), { dst := none, op := .store 1 (.t 104) (.t 103) }]
def Af4 : List XI := [J 105 (.move (.t 9)), J 106 (.fieldAddr 4 (.t 8)), J 107 (.load false 1 (.t 106)), J 108 (.move (.t 12)), J 109 (.indexAddr 1 (.t 107) (.t 108)), J 110 (.load false 1 (.t 109)), J 111 (.bin .add (.t 105) (.t 110)), J 9 (.move (.t 111))]
def Ad1 : List XI := [J 112 (.move (.t 10)), J 113 (.fieldAddr 5 (.t 8)), J 114 (.load false 1 (.t 113)), J 115 (.move (.t 12)), J 116 (.indexAddr 1 (.t 114) (.t 115)), J 117 (.load false 1 (.t 116)), J 118 (.minmax true (.t 112) [(.t 117)]), J 10 (.move (.t 118))]
def Ad4 : List XI := [J 76 (.move (.t 11)), J 77 (.bin .add (.t 76) (.c (.d (.int .i64 1)))), J 11 (.move (.t 77))]
def Ac8 : XC :=
 (.seq (.seq (.region An2)
 (.cond (.t 75)
 .skip
 (.exit 0)))
 (.seq (.block 1 (.seq (.regionS As2 0)
 (.seq (.regionS Am1 1)
 (.seq (.region Af4)
 (.region Ad1)))))
 (.region Ad4)))
def Ac1 : List XI := [J 120 (.move (.t 9)), J 121 (.move (.t 10)), J 122 (.call TH [(.t 120), (.t 121)]), J 119 (.move (.t 122)), J 123 (.extract (.t 119) 0), J 124 (.extract (.t 119) 1), J 9 (.move (.t 123)), J 10 (.move (.t 124))]
def Ad9 : List XI := [J 125 (.load true 6 (.t 7)), J 126 (.move (.t 9)), J 127 (.move (.t 10)), J 128 (.move (.t 9)), J 129 (.bin .leq (.t 128) (.c (.d (.int .i64 300)))), J 130 (.move (.t 129)), Jt 131 130 (.move (.t 10)), Jt 132 130 (.bin .leq (.t 131) (.c (.d (.int .i64 12)))), J 133 (.pick (.t 130) (.t 132) (.c (.d (.bool false)))), J 134 (.move (.t 133)), Jt 135 134 (.load true 6 (.t 7)), Jt 136 134 (.call Zs [(.t 135)]), J 137 (.pick (.t 134) (.t 136) (.c (.d (.bool false)))), J 138 (.move (.t 137)), Jt 139 138 (.fieldAddr 5 (.t 7)), Jt 140 138 (.load false 1 (.t 139)), { dst := some 141, op := .call HQ [(.t 140)], guard := some (138, true), nm := 1 }, J 142 (.pick (.t 138) (.t 141) (.c (.d (.bool false)))), { dst := none, op := .store 6 (.t 2) (.t 125) }, J 3 (.move (.t 126)), J 4 (.move (.t 127)), J 5 (.move (.t 142)), J 6 (.move (.c (.d (.bool true))))]
def AO5 : XC :=
 (.seq (.region Ar2)
 (.seq (.region Ao6)
 (.seq (.seq (.region Am5)
 (.cond (.t 58)
 (.seq (.region An3)
 .ret)
 .skip))
 (.seq (.region Ap3)
 (.seq (.region Ao1)
 (.seq (.seq (.region Ao3)
 (.block 0 (.loop Ac8)))
 (.seq (.region Ac1)
 (.seq (.regionD Ad9 [[], [], [], [], [3], [4, 3], [5, 4, 3], [6, 5, 4, 3], [5, 4, 3, 7, 6], [8, 5, 4, 3, 7, 6], [9, 8, 5, 4, 3, 7, 6], [10, 9, 8, 5, 4, 3, 7, 6], [9, 8, 5, 4, 3, 7, 6, 11, 10], [12, 9, 8, 5, 4, 3, 7, 6, 11, 10], [13, 12, 9, 8, 5, 4, 3, 7, 6, 11, 10], [14, 13, 12, 9, 8, 5, 4, 3, 7, 6, 11, 10], [15, 14, 13, 12, 9, 8, 5, 4, 3, 7, 6, 11, 10], [13, 12, 9, 8, 5, 4, 3, 7, 6, 11, 10, 16, 15, 14], [0, 16, 15, 14, 13, 12, 9, 8, 5, 4, 3, 7, 6, 11, 10], [1, 18, 0, 16, 15, 14, 13, 12, 9, 8, 5, 4, 3, 7, 6, 11, 10], [2, 19, 1, 18, 0, 16, 15, 14, 13, 12, 9, 8, 5, 4, 3, 7, 6, 11, 10], [17, 13, 12, 9, 8, 5, 4, 3, 7, 6, 11, 10, 16, 15, 14, 20, 2, 19, 1, 18, 0], [21, 17, 13, 12, 9, 8, 5, 4, 3, 7, 6, 11, 10, 16, 15, 14, 20, 2, 19, 1, 18, 0]] 2)
 .ret))))))))
theorem AS2 : Fn PR AE4 143 AO5 [.cell 2 true 6, .tmp 3, .tmp 4, .tmp 5, .tmp 6] := ⟨fun vs w => Try.call11 vs w, Try.f11, _, Try.func11, rfl, rfl, by kernel_rfl, by kernel_rfl⟩
def Zr : List XI := [J 1 (.box (.t 0)), J 2 (.move (.c (.d (.int .i64 0)))), J 3 (.move (.c (.d (.int .i64 0))))]
def Ze : List XI := [J 5 (.fieldAddr 5 (.t 1)), J 6 (.load false 1 (.t 5)), J 7 (.call FG [(.t 6), (.c (.d (.int .i64 0))), (.c (.fn FL [] []))]), J 4 (.alloc [(.d (.int .i64 0)), (.d (.int .i64 0))]), { dst := none, op := .store 2 (.t 4) (.t 7) }]
def Yb : List XI := [J 8 (.call OF [(.t 4)]), J 9 (.extract (.t 8) 0), J 10 (.extract (.t 8) 1), J 2 (.move (.t 9)), J 3 (.move (.t 10))]
def Ax8 : XC :=
 (.seq (.region Zr)
 (.seq (.region Ze)
 (.seq (.region Yb)
 .ret)))
theorem AN8 : Fn PR SN 11 Ax8 [.tmp 2, .tmp 3] := ⟨fun vs w => Try.call12 vs w, Try.f12, _, Try.func12, rfl, rfl, by kernel_rfl, by kernel_rfl⟩
def W6 : List XI := [J 1 (.box (.t 0)), J 2 (.move (.c (.ex [])))]
def WU : List XI := [J 3 (.load true 6 (.t 1)), J 4 (.call Xr [(.t 3)]), J 5 (.field false 0 1 (.t 4)), J 6 (.call Bx [(.t 5)]), J 7 (.call C9 [(.t 6)]), J 2 (.move (.t 7))]
def Ar1 : XC :=
 (.seq (.region W6)
 (.seq (.region WU)
 .ret))
theorem AH3 : Fn PR Q6 8 Ar1 [.tmp 2] := ⟨fun vs w => Try.call13 vs w, Try.f13, _, Try.func13, rfl, rfl, by kernel_rfl, by kernel_rfl⟩
def YH : List XI := [J 4 (.move (.c (.d (.bool false))))]
def XT : List XI := [J 6 (.move (.t 0)), J 7 (.lenR (.t 6)), J 8 (.move (.t 1)), J 9 (.lenR (.t 8)), J 10 (.bin .neq (.t 7) (.t 9))]
def XV : List XI := [J 4 (.move (.c (.d (.bool false))))]
def Zi : List XI := [J 5 (.move (.c (.d (.int .i64 0))))]
def YL : List XI := [J 11 (.move (.t 5)), J 12 (.move (.t 0)), J 13 (.lenR (.t 12)), J 14 (.bin .lss (.t 11) (.t 13))]
def XZ : List XI := [J 17 (.move (.t 0)), J 18 (.move (.t 5)), J 19 (.indexAddr 1 (.t 17) (.t 18)), J 20 (.load false 1 (.t 19)), J 21 (.move (.t 1)), J 22 (.move (.t 5)), J 23 (.indexAddr 1 (.t 21) (.t 22)), J 24 (.load false 1 (.t 23)), J 25 (.bin .neq (.t 20) (.t 24))]
def X3 : List XI := [J 4 (.move (.c (.d (.bool false))))]
def Yr : List XI := [J 15 (.move (.t 5)), J 16 (.bin .add (.t 15) (.c (.d (.int .i64 1)))), J 5 (.move (.t 16))]
def X5 : XC :=
 (.seq (.seq (.region YL)
 (.cond (.t 14)
 .skip
 (.exit 0)))
 (.seq (.block 1 (.seq (.regionS XZ 0)
 (.cond (.t 25)
 (.seq (.region X3)
 .ret)
 .skip)))
 (.region Yr)))
def XL : List XI := [J 4 (.move (.c (.d (.bool true))))]
def AA0 : XC :=
 (.seq (.region YH)
 (.seq (.seq (.region XT)
 (.cond (.t 10)
 (.seq (.region XV)
 .ret)
 .skip))
 (.seq (.seq (.region Zi)
 (.block 0 (.loop X5)))
 (.seq (.region XL)
 .ret))))
theorem AM4 : Fn PR TZ 26 AA0 [.tmp 4] := ⟨fun vs w => Try.call14 vs w, Try.f14, _, Try.func14, rfl, rfl, by kernel_rfl, by kernel_rfl⟩
def Ac6 : List XI := [J 4 (.move (.c (.ex [])))]
def Ad3 : List XI := [J 5 (.move (.c (.d (.int .i64 0))))]
def Af5 : List XI := [J 7 (.move (.t 5)), J 8 (.move (.t 0)), J 9 (.lenR (.t 8)), J 10 (.bin .lss (.t 7) (.t 9)), J 11 (.move (.t 10)), Jt 12 11 (.move (.t 0)), Jt 13 11 (.move (.t 5)), Jt 14 11 (.indexAddr 1 (.t 12) (.t 13)), Jt 15 11 (.load false 1 (.t 14)), Jt 16 11 (.move (.t 1)), Jt 17 11 (.bin .lss (.t 15) (.t 16)), J 18 (.pick (.t 11) (.t 17) (.c (.d (.bool false))))]
def Ae3 : List XI := [J 19 (.move (.t 5)), J 20 (.bin .add (.t 19) (.c (.d (.int .i64 1)))), J 5 (.move (.t 20))]
def Ad6 : XC :=
 (.seq (.seq (.region Af5)
 (.cond (.t 18)
 .skip
 (.exit 0)))
 (.block 1 (.region Ae3)))
def Ae1 : List XI := [J 21 (.move (.t 5)), J 22 (.move (.t 0)), J 23 (.lenR (.t 22)), J 24 (.bin .lss (.t 21) (.t 23)), J 25 (.move (.t 24)), Jt 26 25 (.move (.t 0)), Jt 27 25 (.move (.t 5)), Jt 28 25 (.indexAddr 1 (.t 26) (.t 27)), Jt 29 25 (.load false 1 (.t 28)), Jt 30 25 (.move (.t 1)), Jt 31 25 (.bin .eql (.t 29) (.t 30)), J 32 (.pick (.t 25) (.t 31) (.c (.d (.bool false))))]
def Ac9 : List XI := [J 33 (.move (.t 0)), J 4 (.move (.t 33))]
def Af0 : List XI := [J 6 (.move (.c (.ex [])))]
def Ad8 : List XI := [J 34 (.move (.t 6)), J 35 (.move (.t 0)), J 36 (.move (.t 5)), J 37 (.sliceR 1 (.t 35) none (some (.t 36)) none), J 38 (.append AD 1 16 (.t 34) (.t 37)), J 6 (.move (.t 38))]
def Ad2 : List XI := [J 39 (.move (.t 6)), J 40 (.move (.t 1)), J 41 (.buildSlice 1 [(.t 40)]), J 42 (.append AD 1 16 (.t 39) (.t 41)), J 6 (.move (.t 42))]
def Zk : List XI := [J 43 (.move (.t 6)), J 44 (.move (.t 0)), J 45 (.move (.t 5)), J 46 (.sliceR 1 (.t 44) (some (.t 45)) none none), J 47 (.append AD 1 16 (.t 43) (.t 46)), J 4 (.move (.t 47))]
def AJ5 : XC :=
 (.seq (.region Ac6)
 (.seq (.region Ad3)
 (.seq (.block 0 (.loop Ad6))
 (.seq (.seq (.region Ae1)
 (.cond (.t 32)
 (.seq (.region Ac9)
 .ret)
 .skip))
 (.seq (.region Af0)
 (.seq (.region Ad8)
 (.seq (.region Ad2)
 (.seq (.region Zk)
 .ret))))))))
theorem AQ9 : Fn PR Av4 48 AJ5 [.tmp 4] := ⟨fun vs w => Try.call15 vs w, Try.f15, _, Try.func15, rfl, rfl, by kernel_rfl, by kernel_rfl⟩
def W2 : List XI := [J 1 (.box (.t 0)), J 2 (.move (.c (.d (.bool false))))]
def Wc : List XI := [J 4 (.fieldAddr 5 (.t 1)), J 5 (.load false 1 (.t 4)), J 6 (.call FG [(.t 5), (.c (.d (.int .i64 0))), (.c (.fn FL [] []))]), J 3 (.alloc [(.d (.int .i64 0)), (.d (.int .i64 0))]), { dst := none, op := .store 2 (.t 3) (.t 6) }]
def RP : List XI := [J 7 (.load true 6 (.t 1)), J 8 (.call Y3 [(.t 7)]), J 9 (.move (.t 8)), Jt 10 9 (.call Nc [(.t 3)]), J 11 (.pick (.t 9) (.t 10) (.c (.d (.bool false))))]
def RI : List XI := [J 12 (.move (.t 11)), Jt 13 12 (.fieldAddr 5 (.t 1)), Jt 14 12 (.load false 1 (.t 13)), Jt 15 12 (.call G7 [(.t 14)]), J 16 (.pick (.t 12) (.t 15) (.c (.d (.bool false))))]
def Nd : List XI := [J 2 (.move (.t 16))]
def WO : List XI := RP ++ (RI ++ (Nd))
def As7 : XC :=
 (.seq (.region W2)
 (.seq (.region Wc)
 (.seq (.region WO)
 .ret)))
theorem AE6 : Fn PR PX 17 As7 [.tmp 2] := ⟨fun vs w => Try.call16 vs w, Try.f16, _, Try.func16, rfl, rfl, by kernel_rfl, by kernel_rfl⟩
def Ul : List XI := [J 1 (.box (.t 0)), J 2 (.move (.c (.ex [])))]
def Ua : List XI := [J 3 (.load true 6 (.t 1)), J 4 (.call Xr [(.t 3)]), J 5 (.field false 1 1 (.t 4)), J 6 (.call Bx [(.t 5)]), J 7 (.call C9 [(.t 6)]), J 2 (.move (.t 7))]
def Ae0 : XC :=
 (.seq (.region Ul)
 (.seq (.region Ua)
 .ret))
theorem AA8 : Fn PR VE 8 Ae0 [.tmp 2] := ⟨fun vs w => Try.call18 vs w, Try.f18, _, Try.func18, rfl, rfl, by kernel_rfl, by kernel_rfl⟩
def Fu : List XI := [J 4 (.move (.c (.d (.bool false))))]
def Fm : List XI := [J 5 (.move (.t 0)), J 6 (.move (.t 1)), J 7 (.call EK [(.t 5), (.t 6)]), J 8 (.bin .geq (.t 7) (.c (.d (.int .i64 0)))), J 4 (.move (.t 8))]
def Gc : XC :=
 (.seq (.region Fu)
 (.seq (.region Fm)
 .ret))
theorem JA : Fn PR CW 9 Gc [.tmp 4] := ⟨fun vs w => Try.call20 vs w, Try.f20, _, Try.func20, rfl, rfl, by kernel_rfl, by kernel_rfl⟩
def W8 : List XI := [J 0 (.move (.c (.ex [])))]
def Wf : List XI := [J 1 (.buildSlice 1 [(.c (.d (.str ⟨#[97, 110, 100]⟩))), (.c (.d (.str ⟨#[111, 114]⟩))), (.c (.d (.str ⟨#[110, 111, 116]⟩))), (.c (.d (.str ⟨#[116, 114, 117, 101]⟩))), (.c (.d (.str ⟨#[102, 97, 108, 115, 101]⟩))), (.c (.d (.str ⟨#[108, 101, 116]⟩))), (.c (.d (.str ⟨#[115, 101, 116]⟩))), (.c (.d (.str ⟨#[105, 110, 115, 101, 114, 116]⟩))), (.c (.d (.str ⟨#[117, 112, 100, 97, 116, 101]⟩))), (.c (.d (.str ⟨#[100, 101, 108, 101, 116, 101]⟩))), (.c (.d (.str ⟨#[102, 111, 114]⟩))), (.c (.d (.str ⟨#[105, 110]⟩))), (.c (.d (.str ⟨#[119, 104, 101, 114, 101]⟩))), (.c (.d (.str ⟨#[108, 105, 109, 105, 116]⟩))), (.c (.d (.str ⟨#[105, 102]⟩))), (.c (.d (.str ⟨#[101, 108, 115, 101]⟩))), (.c (.d (.str ⟨#[101, 109, 105, 116]⟩))), (.c (.d (.str ⟨#[97, 98, 111, 114, 116]⟩))), (.c (.d (.str ⟨#[114, 101, 112, 108, 121]⟩))), (.c (.d (.str ⟨#[99, 111, 117, 110, 116]⟩))), (.c (.d (.str ⟨#[115, 117, 109]⟩))), (.c (.d (.str ⟨#[109, 105, 110]⟩))), (.c (.d (.str ⟨#[109, 97, 120]⟩))), (.c (.d (.str ⟨#[105, 110, 116]⟩))), (.c (.d (.str ⟨#[116, 101, 120, 116]⟩))), (.c (.d (.str ⟨#[98, 111, 111, 108]⟩))), (.c (.d (.str ⟨#[116, 97, 98, 108, 101]⟩))), (.c (.d (.str ⟨#[115, 116, 114, 101, 97, 109]⟩))), (.c (.d (.str ⟨#[119, 105, 110, 100, 111, 119]⟩))), (.c (.d (.str ⟨#[115, 105, 110, 107]⟩))), (.c (.d (.str ⟨#[112, 114, 111, 99]⟩))), (.c (.d (.str ⟨#[107, 101, 121]⟩))), (.c (.d (.str ⟨#[117, 110, 105, 113, 117, 101]⟩))), (.c (.d (.str ⟨#[105, 110, 100, 101, 120]⟩))), (.c (.d (.str ⟨#[112, 97, 114, 116, 115]⟩))), (.c (.d (.str ⟨#[98, 121]⟩))), (.c (.d (.str ⟨#[111, 110]⟩))), (.c (.d (.str ⟨#[102, 114, 111, 109]⟩))), (.c (.d (.str ⟨#[97, 116]⟩))), (.c (.d (.str ⟨#[102, 117, 101, 108]⟩))), (.c (.d (.str ⟨#[116, 117, 112, 108, 101, 115]⟩))), (.c (.d (.str ⟨#[98, 97, 116, 99, 104, 101, 115]⟩))), (.c (.d (.str ⟨#[115, 108, 105, 100, 101]⟩)))]), J 0 (.move (.t 1))]
def Al7 : XC :=
 (.seq (.region W8)
 (.seq (.region Wf)
 .ret))
theorem AI6 : Fn PR YQ 2 Al7 [.tmp 0] := ⟨fun vs w => Try.call21 vs w, Try.f21, _, Try.func21, rfl, rfl, by kernel_rfl, by kernel_rfl⟩
def ME : List XI := [J 2 (.move (.c (.d (.bool false))))]
def MR : List XI := [J 5 (.move (.t 0)), J 6 (.lenR (.t 5)), J 7 (.move (.c (.d (.int .i64 0))))]
def MM : List XI := [J 8 (.bin .lss (.t 7) (.t 6))]
def MF : List XI := [J 9 (.indexAddr 1 (.t 5) (.t 7)), J 10 (.load false 1 (.t 9)), J 4 (.move (.t 10))]
def MN : List XI := [J 11 (.move (.t 4)), J 12 (.call LM [(.t 11)]), J 13 (.not (.t 12))]
def MI : List XI := [J 2 (.move (.c (.d (.bool false))))]
def MJ : List XI := [J 14 (.bin .add (.t 7) (.c (.d (.int .i64 1)))), J 7 (.move (.t 14))]
def ML : XC :=
 (.seq (.region MM)
 (.seq (.cond (.t 8)
 .skip
 (.exit 0))
 (.seq (.block 1 (.seq (.region MF)
 (.seq (.region MN)
 (.cond (.t 13)
 (.seq (.region MI)
 .ret)
 .skip))))
 (.region MJ))))
def MP : List XI := [J 2 (.move (.c (.d (.bool true))))]
def Q9 : XC :=
 (.seq (.region ME)
 (.seq (.seq (.region MR)
 (.block 0 (.loop ML)))
 (.seq (.region MP)
 .ret)))
theorem Y0 : Fn PR LE 15 Q9 [.tmp 2] := ⟨fun vs w => Try.call22 vs w, Try.f22, _, Try.func22, rfl, rfl, by kernel_rfl, by kernel_rfl⟩
def EE : List XI := [J 4 (.move (.c (.d (.bool false))))]
def EC : List XI := [J 5 (.move (.t 0)), J 6 (.move (.t 1)), J 7 (.call Dv [(.t 5), (.t 6)]), J 8 (.bin .geq (.t 7) (.c (.d (.int .i64 0)))), J 4 (.move (.t 8))]
def Fb : XC :=
 (.seq (.region EE)
 (.seq (.region EC)
 .ret))
theorem Ij : Fn PR Di 9 Fb [.tmp 4] := ⟨fun vs w => Try.call23 vs w, Try.f23, _, Try.func23, rfl, rfl, by kernel_rfl, by kernel_rfl⟩
def I7 : List XI := [J 2 (.move (.c (.d (.bool false))))]
def Ju : List XI := [J 6 (.move (.t 0)), J 7 (.lenS (.t 6)), J 8 (.bin .lss (.t 7) (.c (.d (.int .i64 1)))), J 9 (.move (.t 8)), Jf 10 9 (.move (.t 0)), Jf 11 9 (.lenS (.t 10)), Jf 12 9 (.bin .gtr (.t 11) (.c (.d (.int .i64 16)))), J 13 (.pick (.t 9) (.c (.d (.bool true))) (.t 12))]
def Jz : List XI := [J 2 (.move (.c (.d (.bool false))))]
def Jr : List XI := [J 3 (.move (.c (.d (.int .i64 0))))]
def IZ : List XI := [J 14 (.move (.t 3)), J 15 (.move (.t 0)), J 16 (.lenS (.t 15)), J 17 (.bin .lss (.t 14) (.t 16))]
def Jg : List XI := [J 20 (.move (.t 0)), J 21 (.move (.t 3)), J 22 (.indexStr (.t 20) (.t 21)), J 4 (.move (.t 22))]
def Ib : List XI := [J 23 (.move (.t 4)), J 24 (.bin .geq (.t 23) (.c (.d (.int .u8 97)))), J 25 (.move (.t 24)), Jt 26 25 (.move (.t 4)), Jt 27 25 (.bin .leq (.t 26) (.c (.d (.int .u8 122)))), J 28 (.pick (.t 25) (.t 27) (.c (.d (.bool false))))]
def F2 : List XI := [J 5 (.move (.t 28))]
def Jc : List XI := Ib ++ (F2)
def Jk : List XI := [J 29 (.move (.t 5)), J 30 (.not (.t 29)), J 31 (.move (.t 30)), Jt 32 31 (.move (.t 3)), Jt 33 31 (.bin .eql (.t 32) (.c (.d (.int .i64 0)))), Jt 34 31 (.move (.t 33)), Jf 35 34 (.move (.t 4)), Jf 36 34 (.bin .geq (.t 35) (.c (.d (.int .u8 48)))), Jf 37 34 (.move (.t 36)), Jt 38 37 (.move (.t 4)), Jt 39 37 (.bin .leq (.t 38) (.c (.d (.int .u8 57)))), Jf 40 34 (.pick (.t 37) (.t 39) (.c (.d (.bool false)))), Jf 41 34 (.not (.t 40)), Jf 42 34 (.move (.t 41)), Jt 43 42 (.move (.t 4)), Jt 44 42 (.bin .neq (.t 43) (.c (.d (.int .u8 95)))), Jf 45 34 (.pick (.t 42) (.t 44) (.c (.d (.bool false)))), Jt 46 31 (.pick (.t 34) (.c (.d (.bool true))) (.t 45)), J 47 (.pick (.t 31) (.t 46) (.c (.d (.bool false))))]
def EU : List XI := [J 2 (.move (.c (.d (.bool false))))]
def Da : List XI := [J 18 (.move (.t 3)), J 19 (.bin .add (.t 18) (.c (.d (.int .i64 1)))), J 3 (.move (.t 19))]
def IH : XC :=
 (.seq (.seq (.region IZ)
 (.cond (.t 17)
 .skip
 (.exit 0)))
 (.seq (.block 1 (.seq (.region Jg)
 (.seq (.region Jc)
 (.seq (.region Jk)
 (.cond (.t 47)
 (.seq (.region EU)
 .ret)
 .skip)))))
 (.region Da)))
def IB : List XI := [J 2 (.move (.c (.d (.bool true))))]
def KP : XC :=
 (.seq (.region I7)
 (.seq (.seq (.region Ju)
 (.cond (.t 13)
 (.seq (.region Jz)
 .ret)
 .skip))
 (.seq (.seq (.region Jr)
 (.block 0 (.loop IH)))
 (.seq (.region IB)
 .ret))))
theorem RA : Fn PR H2 48 KP [.tmp 2] := ⟨fun vs w => Try.call24 vs w, Try.f24, _, Try.func24, rfl, rfl, by kernel_rfl, by kernel_rfl⟩
def WS : List XI := [J 4 (.move (.c (.d (.bool false))))]
def WL : List XI := [J 8 (.move (.t 0)), J 9 (.lenR (.t 8)), J 10 (.bin .gtr (.t 9) (.c (.d (.int .i64 50)))), J 11 (.move (.t 10)), Jf 12 11 (.move (.t 1)), Jf 13 11 (.lenR (.t 12)), Jf 14 11 (.bin .gtr (.t 13) (.c (.d (.int .i64 50)))), J 15 (.pick (.t 11) (.c (.d (.bool true))) (.t 14))]
def V8 : List XI := [J 4 (.move (.c (.d (.bool true))))]
def Wp : List XI := [J 5 (.move (.c (.d (.int .i64 0))))]
def V4 : List XI := [J 16 (.move (.t 5)), J 17 (.move (.t 0)), J 18 (.lenR (.t 17)), J 19 (.bin .lss (.t 16) (.t 18))]
def RE : List XI := [J 22 (.move (.t 0)), J 23 (.move (.t 5)), J 24 (.indexAddr 6 (.t 22) (.t 23)), J 25 (.fieldAddr 2 (.t 24)), J 26 (.load false 1 (.t 25)), J 27 (.lenS (.t 26)), J 28 (.bin .gtr (.t 27) (.c (.d (.int .i64 300)))), J 29 (.move (.t 28)), Jf 30 29 (.move (.t 0)), Jf 31 29 (.move (.t 5)), Jf 32 29 (.indexAddr 6 (.t 30) (.t 31)), Jf 33 29 (.fieldAddr 3 (.t 32)), Jf 34 29 (.load false 1 (.t 33)), Jf 35 29 (.lenS (.t 34)), Jf 36 29 (.bin .gtr (.t 35) (.c (.d (.int .i64 100)))), J 37 (.pick (.t 29) (.c (.d (.bool true))) (.t 36))]
def RL : List XI := [J 38 (.move (.t 37)), Jf 39 38 (.move (.t 0)), Jf 40 38 (.move (.t 5)), Jf 41 38 (.indexAddr 6 (.t 39) (.t 40)), Jf 42 38 (.fieldAddr 4 (.t 41)), Jf 43 38 (.load false 1 (.t 42)), Jf 44 38 (.lenS (.t 43)), Jf 45 38 (.bin .gtr (.t 44) (.c (.d (.int .i64 100)))), J 46 (.pick (.t 38) (.c (.d (.bool true))) (.t 45))]
def WC : List XI := RE ++ (RL)
def Qy : List XI := [J 4 (.move (.c (.d (.bool true))))]
def W4 : List XI := [J 20 (.move (.t 5)), J 21 (.bin .add (.t 20) (.c (.d (.int .i64 1)))), J 5 (.move (.t 21))]
def Wq : XC :=
 (.seq (.seq (.region V4)
 (.cond (.t 19)
 .skip
 (.exit 0)))
 (.seq (.block 1 (.seq (.region WC)
 (.cond (.t 46)
 (.seq (.region Qy)
 .ret)
 .skip)))
 (.region W4)))
def VO : List XI := [J 6 (.move (.c (.d (.int .i64 0))))]
def To : List XI := [J 47 (.move (.t 6)), J 48 (.move (.t 1)), J 49 (.lenR (.t 48)), J 50 (.bin .lss (.t 47) (.t 49))]
def Rd : List XI := [J 53 (.move (.t 1)), J 54 (.move (.t 6)), J 55 (.indexAddr 8 (.t 53) (.t 54)), J 56 (.fieldAddr 1 (.t 55)), J 57 (.load false 1 (.t 56)), J 58 (.lenS (.t 57)), J 59 (.bin .gtr (.t 58) (.c (.d (.int .i64 100)))), J 60 (.move (.t 59)), Jf 61 60 (.move (.t 1)), Jf 62 60 (.move (.t 6)), Jf 63 60 (.indexAddr 8 (.t 61) (.t 62)), Jf 64 60 (.fieldAddr 2 (.t 63)), Jf 65 60 (.load false 1 (.t 64)), Jf 66 60 (.lenS (.t 65)), Jf 67 60 (.bin .gtr (.t 66) (.c (.d (.int .i64 100)))), J 68 (.pick (.t 60) (.c (.d (.bool true))) (.t 67))]
def PY : List XI := [J 69 (.move (.t 68)), Jf 70 69 (.move (.t 1)), Jf 71 69 (.move (.t 6)), Jf 72 69 (.indexAddr 8 (.t 70) (.t 71)), Jf 73 69 (.fieldAddr 4 (.t 72)), Jf 74 69 (.load false 1 (.t 73)), Jf 75 69 (.lenR (.t 74)), Jf 76 69 (.bin .gtr (.t 75) (.c (.d (.int .i64 12)))), J 77 (.pick (.t 69) (.c (.d (.bool true))) (.t 76))]
def TW : List XI := Rd ++ (PY)
def TY : List XI := [J 4 (.move (.c (.d (.bool true))))]
def Tz : List XI := [J 7 (.move (.c (.d (.int .i64 0))))]
def TR : List XI := [J 78 (.move (.t 7)), J 79 (.move (.t 1)), J 80 (.move (.t 6)), J 81 (.indexAddr 8 (.t 79) (.t 80)), J 82 (.fieldAddr 4 (.t 81)), J 83 (.load false 1 (.t 82)), J 84 (.lenR (.t 83)), J 85 (.bin .lss (.t 78) (.t 84))]
def Va : List XI := [J 88 (.move (.t 1)), J 89 (.move (.t 6)), J 90 (.indexAddr 8 (.t 88) (.t 89)), J 91 (.fieldAddr 4 (.t 90)), J 92 (.load false 1 (.t 91)), J 93 (.move (.t 7)), J 94 (.indexAddr 1 (.t 92) (.t 93)), J 95 (.load false 1 (.t 94)), J 96 (.lenS (.t 95)), J 97 (.bin .gtr (.t 96) (.c (.d (.int .i64 100))))]
def TK : List XI := [J 4 (.move (.c (.d (.bool true))))]
def TX : List XI := [J 86 (.move (.t 7)), J 87 (.bin .add (.t 86) (.c (.d (.int .i64 1)))), J 7 (.move (.t 87))]
def T9 : XC :=
 (.seq (.seq (.region TR)
 (.cond (.t 85)
 .skip
 (.exit 4)))
 (.seq (.block 5 (.seq (.region Va)
 (.cond (.t 97)
 (.seq (.region TK)
 .ret)
 .skip)))
 (.region TX)))
def Tr : List XI := [J 51 (.move (.t 6)), J 52 (.bin .add (.t 51) (.c (.d (.int .i64 1)))), J 6 (.move (.t 52))]
def TQ : XC :=
 (.seq (.seq (.region To)
 (.cond (.t 50)
 .skip
 (.exit 2)))
 (.seq (.block 3 (.seq (.seq (.region TW)
 (.cond (.t 77)
 (.seq (.region TY)
 .ret)
 .skip))
 (.seq (.region Tz)
 (.block 4 (.loop T9)))))
 (.region Tr)))
def TV : List XI := [J 4 (.move (.c (.d (.bool false))))]
def Aq8 : XC :=
 (.seq (.region WS)
 (.seq (.seq (.region WL)
 (.cond (.t 15)
 (.seq (.region V8)
 .ret)
 .skip))
 (.seq (.seq (.region Wp)
 (.block 0 (.loop Wq)))
 (.seq (.seq (.region VO)
 (.block 2 (.loop TQ)))
 (.seq (.region TV)
 .ret)))))
theorem AE5 : Fn PR Yq 98 Aq8 [.tmp 4] := ⟨fun vs w => Try.call25 vs w, Try.f25, _, Try.func25, rfl, rfl, by kernel_rfl, by kernel_rfl⟩
def WK : List XI := [J 4 (.alloc [(.ex []), (.ex []), (.ex []), (.ex []), (.ex []), (.ex [])])]
def Wb : List XI := [J 23 (.build [(.ex []), (.ex []), (.ex []), (.ex []), (.ex []), (.ex [])] []), J 5 (.alloc [(.ex []), (.ex []), (.ex []), (.ex []), (.ex []), (.ex [])]), { dst := none, op := .store 6 (.t 5) (.t 23) }]
def Wt : List XI := [J 6 (.move (.c (.d (.int .i64 0))))]
def Wy : List XI := [J 24 (.move (.t 6)), J 25 (.move (.t 0)), J 26 (.lenR (.t 25)), J 27 (.bin .lss (.t 24) (.t 26)), J 28 (.move (.t 27)), Jt 29 28 (.move (.t 6)), Jt 30 28 (.bin .lss (.t 29) (.c (.d (.int .i64 50)))), J 31 (.pick (.t 28) (.t 30) (.c (.d (.bool false))))]
def WE : List XI := [J 34 (.move (.t 0)), J 35 (.move (.t 6)), J 36 (.indexAddr 6 (.t 34) (.t 35)), J 37 (.load true 6 (.t 36)), J 7 (.alloc [(.d (.int .i64 0)), (.d (.int .i64 0)), (.d (.str ⟨#[]⟩)), (.d (.str ⟨#[]⟩)), (.d (.str ⟨#[]⟩)), (.ex [])]), { dst := none, op := .store 6 (.t 7) (.t 37) }]
def VU : List XI := [J 38 (.fieldAddr 0 (.t 7)), J 39 (.load false 1 (.t 38)), J 40 (.fieldAddr 1 (.t 7)), J 41 (.load false 1 (.t 40)), J 42 (.fieldAddr 2 (.t 7)), J 43 (.load false 1 (.t 42)), J 44 (.fieldAddr 3 (.t 7)), J 45 (.load false 1 (.t 44)), J 46 (.fieldAddr 4 (.t 7)), J 47 (.load false 1 (.t 46)), J 48 (.build [(.d (.int .i64 0)), (.d (.int .i64 0)), (.d (.str ⟨#[]⟩)), (.d (.str ⟨#[]⟩)), (.d (.str ⟨#[]⟩)), (.ex [])] [(0, 1, (.t 39)), (1, 1, (.t 41)), (2, 1, (.t 43)), (3, 1, (.t 45)), (4, 1, (.t 47))]), J 8 (.alloc [(.d (.int .i64 0)), (.d (.int .i64 0)), (.d (.str ⟨#[]⟩)), (.d (.str ⟨#[]⟩)), (.d (.str ⟨#[]⟩)), (.ex [])]), { dst := none, op := .store 6 (.t 8) (.t 48) }]
def Wm : List XI := [J 9 (.move (.c (.d (.int .i64 1)))), J 10 (.move (.c (.d (.int .i64 1))))]
def Wl : List XI := [J 11 (.move (.c (.d (.int .i64 0))))]
def Wh : List XI := [J 49 (.move (.t 11)), J 50 (.fieldAddr 5 (.t 7)), J 51 (.load false 1 (.t 50)), J 52 (.lenR (.t 51)), J 53 (.bin .lss (.t 49) (.t 52)), J 54 (.move (.t 53)), Jt 55 54 (.move (.t 11)), Jt 56 54 (.bin .lss (.t 55) (.c (.d (.int .i64 4)))), J 57 (.pick (.t 54) (.t 56) (.c (.d (.bool false))))]
def VN : List XI := [J 60 (.fieldAddr 5 (.t 7)), J 61 (.load false 1 (.t 60)), J 62 (.move (.t 11)), J 63 (.indexAddr 1 (.t 61) (.t 62)), J 64 (.load false 1 (.t 63)), J 65 (.move (.t 6)), J 66 (.call Rp [(.t 64), (.t 65)]), J 12 (.move (.t 66))]
def Sx : List XI := [J 67 (.move (.t 12)), J 68 (.bin .geq (.t 67) (.c (.d (.int .i64 0))))]
def SH : List XI := [J 69 (.fieldAddr 5 (.t 8)), J 70 (.load false 1 (.t 69)), J 71 (.fieldAddr 0 (.t 5)), J 72 (.load false 1 (.t 71)), J 73 (.move (.t 12)), J 74 (.indexAddr 6 (.t 72) (.t 73)), J 75 (.load true 6 (.t 74)), J 76 (.buildSlice 6 [(.t 75)]), J 77 (.append AV 6 88 (.t 70) (.t 76)), J 78 (.fieldAddr 5 (.t 8)), { dst := none, op := .store 1 (.t 78) (.t 77) }]
def Sv : List XI := [J 79 (.move (.t 9)), J 80 (.fieldAddr 1 (.t 5)), J 81 (.load false 1 (.t 80)), J 82 (.move (.t 12)), J 83 (.indexAddr 1 (.t 81) (.t 82)), J 84 (.load false 1 (.t 83)), J 85 (.bin .add (.t 79) (.t 84)), J 9 (.move (.t 85))]
def U0 : List XI := [J 86 (.move (.t 10)), J 87 (.fieldAddr 2 (.t 5)), J 88 (.load false 1 (.t 87)), J 89 (.move (.t 12)), J 90 (.indexAddr 1 (.t 88) (.t 89)), J 91 (.load false 1 (.t 90)), J 92 (.bin .add (.t 91) (.c (.d (.int .i64 1)))), J 93 (.minmax true (.t 86) [(.t 92)]), J 10 (.move (.t 93))]
def OI : List XI := [J 58 (.move (.t 11)), J 59 (.bin .add (.t 58) (.c (.d (.int .i64 1)))), J 11 (.move (.t 59))]
def UV : XC :=
 (.seq (.seq (.region Wh)
 (.cond (.t 57)
 .skip
 (.exit 2)))
 (.seq (.block 3 (.seq (.region VN)
 (.seq (.region Sx)
 (.cond (.t 68)
 (.seq (.regionS SH 1)
 (.seq (.region Sv)
 (.region U0)))
 .skip))))
 (.region OI)))
def T2 : List XI := [J 95 (.move (.t 9)), J 96 (.move (.t 10)), J 97 (.call TH [(.t 95), (.t 96)]), J 94 (.move (.t 97)), J 98 (.extract (.t 94) 0), J 99 (.extract (.t 94) 1), J 9 (.move (.t 98)), J 10 (.move (.t 99))]
def U9 : List XI := [J 100 (.fieldAddr 0 (.t 5)), J 101 (.load false 1 (.t 100)), J 102 (.load true 6 (.t 8)), J 103 (.buildSlice 6 [(.t 102)]), J 104 (.append AV 6 88 (.t 101) (.t 103)), J 105 (.fieldAddr 0 (.t 5)), { dst := none, op := .store 1 (.t 105) (.t 104) }]
def Um : List XI := [J 106 (.fieldAddr 1 (.t 5)), J 107 (.load false 1 (.t 106)), J 108 (.move (.t 9)), J 109 (.buildSlice 1 [(.t 108)]), J 110 (.append Ba 1 8 (.t 107) (.t 109)), J 111 (.fieldAddr 1 (.t 5)), { dst := none, op := .store 1 (.t 111) (.t 110) }]
def Sw : List XI := [J 112 (.fieldAddr 2 (.t 5)), J 113 (.load false 1 (.t 112)), J 114 (.move (.t 10)), J 115 (.buildSlice 1 [(.t 114)]), J 116 (.append Ba 1 8 (.t 113) (.t 115)), J 117 (.fieldAddr 2 (.t 5)), { dst := none, op := .store 1 (.t 117) (.t 116) }]
def TG : List XI := [J 32 (.move (.t 6)), J 33 (.bin .add (.t 32) (.c (.d (.int .i64 1)))), J 6 (.move (.t 33))]
def Td : XC :=
 (.seq (.seq (.region Wy)
 (.cond (.t 31)
 .skip
 (.exit 0)))
 (.seq (.block 1 (.seq (.region WE)
 (.seq (.region VU)
 (.seq (.region Wm)
 (.seq (.seq (.region Wl)
 (.block 2 (.loop UV)))
 (.seq (.region T2)
 (.seq (.region U9)
 (.seq (.region Um)
 (.region Sw)))))))))
 (.region TG)))
def SG : List XI := [J 13 (.move (.c (.d (.int .i64 0))))]
def Tw : List XI := [J 118 (.move (.t 13)), J 119 (.move (.t 1)), J 120 (.lenR (.t 119)), J 121 (.bin .lss (.t 118) (.t 120)), J 122 (.move (.t 121)), Jt 123 122 (.move (.t 13)), Jt 124 122 (.bin .lss (.t 123) (.c (.d (.int .i64 50)))), J 125 (.pick (.t 122) (.t 124) (.c (.d (.bool false))))]
def Tx : List XI := [J 128 (.move (.t 1)), J 129 (.move (.t 13)), J 130 (.indexAddr 8 (.t 128) (.t 129)), J 131 (.load true 8 (.t 130)), J 14 (.alloc [(.d (.int .i64 0)), (.d (.str ⟨#[]⟩)), (.d (.str ⟨#[]⟩)), (.d (.int .i64 0)), (.ex []), (.ex []), (.ex []), (.ex [])]), { dst := none, op := .store 8 (.t 14) (.t 131) }]
def S6 : List XI := [J 132 (.fieldAddr 0 (.t 14)), J 133 (.load false 1 (.t 132)), J 134 (.fieldAddr 1 (.t 14)), J 135 (.load false 1 (.t 134)), J 136 (.fieldAddr 2 (.t 14)), J 137 (.load false 1 (.t 136)), J 138 (.fieldAddr 3 (.t 14)), J 139 (.load false 1 (.t 138)), J 140 (.fieldAddr 4 (.t 14)), J 141 (.load false 1 (.t 140)), J 142 (.build [(.d (.int .i64 0)), (.d (.str ⟨#[]⟩)), (.d (.str ⟨#[]⟩)), (.d (.int .i64 0)), (.ex []), (.ex []), (.ex []), (.ex [])] [(0, 1, (.t 133)), (1, 1, (.t 135)), (2, 1, (.t 137)), (3, 1, (.t 139)), (4, 1, (.t 141))]), J 15 (.alloc [(.d (.int .i64 0)), (.d (.str ⟨#[]⟩)), (.d (.str ⟨#[]⟩)), (.d (.int .i64 0)), (.ex []), (.ex []), (.ex []), (.ex [])]), { dst := none, op := .store 8 (.t 15) (.t 142) }]
def TO : List XI := [J 16 (.move (.c (.d (.int .i64 1)))), J 17 (.move (.c (.d (.int .i64 1))))]
def Tt : List XI := [J 18 (.move (.c (.d (.int .i64 0))))]
def Vc : List XI := [J 143 (.move (.t 18)), J 144 (.fieldAddr 5 (.t 14)), J 145 (.load false 1 (.t 144)), J 146 (.lenR (.t 145)), J 147 (.bin .lss (.t 143) (.t 146)), J 148 (.move (.t 147)), Jt 149 148 (.move (.t 18)), Jt 150 148 (.bin .lss (.t 149) (.c (.d (.int .i64 10)))), J 151 (.pick (.t 148) (.t 150) (.c (.d (.bool false))))]
def Ta : List XI := [J 154 (.fieldAddr 5 (.t 14)), J 155 (.load false 1 (.t 154)), J 156 (.move (.t 18)), J 157 (.indexAddr 1 (.t 155) (.t 156)), J 158 (.load false 1 (.t 157)), J 159 (.fieldAddr 0 (.t 5)), J 160 (.load false 1 (.t 159)), J 161 (.lenR (.t 160)), J 162 (.call Rp [(.t 158), (.t 161)]), J 19 (.move (.t 162))]
def Uj : List XI := [J 163 (.move (.t 19)), J 164 (.bin .geq (.t 163) (.c (.d (.int .i64 0))))]
def US : List XI := [J 165 (.fieldAddr 5 (.t 15)), J 166 (.load false 1 (.t 165)), J 167 (.fieldAddr 0 (.t 5)), J 168 (.load false 1 (.t 167)), J 169 (.move (.t 19)), J 170 (.indexAddr 6 (.t 168) (.t 169)), J 171 (.load true 6 (.t 170)), J 172 (.buildSlice 6 [(.t 171)]), J 173 (.append AV 6 88 (.t 166) (.t 172)), J 174 (.fieldAddr 5 (.t 15)), { dst := none, op := .store 1 (.t 174) (.t 173) }]
def UZ : List XI := [J 175 (.move (.t 16)), J 176 (.fieldAddr 1 (.t 5)), J 177 (.load false 1 (.t 176)), J 178 (.move (.t 19)), J 179 (.indexAddr 1 (.t 177) (.t 178)), J 180 (.load false 1 (.t 179)), J 181 (.bin .add (.t 175) (.t 180)), J 16 (.move (.t 181))]
def SQ : List XI := [J 182 (.move (.t 17)), J 183 (.fieldAddr 2 (.t 5)), J 184 (.load false 1 (.t 183)), J 185 (.move (.t 19)), J 186 (.indexAddr 1 (.t 184) (.t 185)), J 187 (.load false 1 (.t 186)), J 188 (.bin .add (.t 187) (.c (.d (.int .i64 1)))), J 189 (.minmax true (.t 182) [(.t 188)]), J 17 (.move (.t 189))]
def OP : List XI := [J 152 (.move (.t 18)), J 153 (.bin .add (.t 152) (.c (.d (.int .i64 1)))), J 18 (.move (.t 153))]
def UY : XC :=
 (.seq (.seq (.region Vc)
 (.cond (.t 151)
 .skip
 (.exit 6)))
 (.seq (.block 7 (.seq (.regionS Ta 1)
 (.seq (.region Uj)
 (.cond (.t 164)
 (.seq (.regionS US 1)
 (.seq (.region UZ)
 (.region SQ)))
 .skip))))
 (.region OP)))
def Tu : List XI := [J 20 (.move (.c (.d (.int .i64 0))))]
def Te : List XI := [J 190 (.move (.t 20)), J 191 (.fieldAddr 6 (.t 14)), J 192 (.load false 1 (.t 191)), J 193 (.lenR (.t 192)), J 194 (.fieldAddr 7 (.t 14)), J 195 (.load false 1 (.t 194)), J 196 (.lenR (.t 195)), J 197 (.bin .add (.t 193) (.t 196)), J 198 (.bin .lss (.t 190) (.t 197)), J 199 (.move (.t 198)), Jt 200 199 (.move (.t 20)), Jt 201 199 (.bin .lss (.t 200) (.c (.d (.int .i64 10)))), J 202 (.pick (.t 199) (.t 201) (.c (.d (.bool false))))]
def Ud : List XI := [J 205 (.move (.t 20)), J 206 (.fieldAddr 6 (.t 14)), J 207 (.load false 1 (.t 206)), J 208 (.lenR (.t 207)), J 209 (.bin .lss (.t 205) (.t 208)), J 21 (.move (.t 209))]
def SM : List XI := [J 22 (.move (.c (.d (.int .i64 (-1)))))]
def T1 : List XI := [J 210 (.move (.t 21))]
def Ux : List XI := [J 211 (.fieldAddr 6 (.t 14)), J 212 (.load false 1 (.t 211)), J 213 (.move (.t 20)), J 214 (.indexAddr 1 (.t 212) (.t 213)), J 215 (.load false 1 (.t 214)), J 216 (.move (.t 13)), J 217 (.call Rp [(.t 215), (.t 216)]), J 22 (.move (.t 217))]
def S3 : List XI := [J 218 (.fieldAddr 7 (.t 14)), J 219 (.load false 1 (.t 218)), J 220 (.move (.t 20)), J 221 (.fieldAddr 6 (.t 14)), J 222 (.load false 1 (.t 221)), J 223 (.lenR (.t 222)), J 224 (.bin .sub (.t 220) (.t 223)), J 225 (.indexAddr 1 (.t 219) (.t 224)), J 226 (.load false 1 (.t 225)), J 227 (.move (.t 13)), J 228 (.call Rp [(.t 226), (.t 227)]), J 22 (.move (.t 228))]
def T4 : List XI := [J 229 (.move (.t 22)), J 230 (.bin .lss (.t 229) (.c (.d (.int .i64 0))))]
def Uy : List XI := [J 231 (.move (.t 16)), J 232 (.fieldAddr 4 (.t 5)), J 233 (.load false 1 (.t 232)), J 234 (.move (.t 22)), J 235 (.indexAddr 1 (.t 233) (.t 234)), J 236 (.load false 1 (.t 235)), J 237 (.bin .add (.t 231) (.t 236)), J 16 (.move (.t 237))]
def T0 : List XI := [J 238 (.move (.t 17)), J 239 (.fieldAddr 5 (.t 5)), J 240 (.load false 1 (.t 239)), J 241 (.move (.t 22)), J 242 (.indexAddr 1 (.t 240) (.t 241)), J 243 (.load false 1 (.t 242)), J 244 (.bin .add (.t 243) (.c (.d (.int .i64 1)))), J 245 (.minmax true (.t 238) [(.t 244)]), J 17 (.move (.t 245))]
def Ts : List XI := [J 246 (.move (.t 21))]
def Up : List XI := [J 247 (.fieldAddr 6 (.t 15)), J 248 (.load false 1 (.t 247)), J 249 (.fieldAddr 3 (.t 5)), J 250 (.load false 1 (.t 249)), J 251 (.move (.t 22)), J 252 (.indexAddr 8 (.t 250) (.t 251)), J 253 (.load true 8 (.t 252)), J 254 (.buildSlice 8 [(.t 253)]), J 255 (.append AO 8 144 (.t 248) (.t 254)), J 256 (.fieldAddr 6 (.t 15)), { dst := none, op := .store 1 (.t 256) (.t 255) }]
def SU : List XI := [J 257 (.fieldAddr 7 (.t 15)), J 258 (.load false 1 (.t 257)), J 259 (.fieldAddr 3 (.t 5)), J 260 (.load false 1 (.t 259)), J 261 (.move (.t 22)), J 262 (.indexAddr 8 (.t 260) (.t 261)), J 263 (.load true 8 (.t 262)), J 264 (.buildSlice 8 [(.t 263)]), J 265 (.append AO 8 144 (.t 258) (.t 264)), J 266 (.fieldAddr 7 (.t 15)), { dst := none, op := .store 1 (.t 266) (.t 265) }]
def KU : List XI := [J 203 (.move (.t 20)), J 204 (.bin .add (.t 203) (.c (.d (.int .i64 1)))), J 20 (.move (.t 204))]
def UH : XC :=
 (.seq (.seq (.region Te)
 (.cond (.t 202)
 .skip
 (.exit 8)))
 (.seq (.block 9 (.seq (.region Ud)
 (.seq (.region SM)
 (.seq (.seq (.region T1)
 (.cond (.t 210)
 (.region Ux)
 (.region S3)))
 (.seq (.seq (.region T4)
 (.cond (.t 230)
 (.exit 9)
 .skip))
 (.seq (.region Uy)
 (.seq (.region T0)
 (.seq (.region Ts)
 (.cond (.t 246)
 (.regionS Up 1)
 (.regionS SU 1))))))))))
 (.region KU)))
def TB : List XI := [J 268 (.move (.t 16)), J 269 (.move (.t 17)), J 270 (.call TH [(.t 268), (.t 269)]), J 267 (.move (.t 270)), J 271 (.extract (.t 267) 0), J 272 (.extract (.t 267) 1), J 16 (.move (.t 271)), J 17 (.move (.t 272))]
def U1 : List XI := [J 273 (.fieldAddr 3 (.t 5)), J 274 (.load false 1 (.t 273)), J 275 (.load true 8 (.t 15)), J 276 (.buildSlice 8 [(.t 275)]), J 277 (.append AO 8 144 (.t 274) (.t 276)), J 278 (.fieldAddr 3 (.t 5)), { dst := none, op := .store 1 (.t 278) (.t 277) }]
def UA : List XI := [J 279 (.fieldAddr 4 (.t 5)), J 280 (.load false 1 (.t 279)), J 281 (.move (.t 16)), J 282 (.buildSlice 1 [(.t 281)]), J 283 (.append Ba 1 8 (.t 280) (.t 282)), J 284 (.fieldAddr 4 (.t 5)), { dst := none, op := .store 1 (.t 284) (.t 283) }]
def Su : List XI := [J 285 (.fieldAddr 5 (.t 5)), J 286 (.load false 1 (.t 285)), J 287 (.move (.t 17)), J 288 (.buildSlice 1 [(.t 287)]), J 289 (.append Ba 1 8 (.t 286) (.t 288)), J 290 (.fieldAddr 5 (.t 5)), { dst := none, op := .store 1 (.t 290) (.t 289) }]
def Tl : List XI := [J 126 (.move (.t 13)), J 127 (.bin .add (.t 126) (.c (.d (.int .i64 1)))), J 13 (.move (.t 127))]
def UR : XC :=
 (.seq (.seq (.region Tw)
 (.cond (.t 125)
 .skip
 (.exit 4)))
 (.seq (.block 5 (.seq (.region Tx)
 (.seq (.region S6)
 (.seq (.region TO)
 (.seq (.seq (.region Tt)
 (.block 6 (.loop UY)))
 (.seq (.seq (.region Tu)
 (.block 8 (.loop UH)))
 (.seq (.region TB)
 (.seq (.region U1)
 (.seq (.region UA)
 (.region Su))))))))))
 (.region Tl)))
def UD : List XI := [J 291 (.load true 6 (.t 5)), { dst := none, op := .store 6 (.t 4) (.t 291) }]
def An5 : XC :=
 (.seq (.region WK)
 (.seq (.region Wb)
 (.seq (.seq (.region Wt)
 (.block 0 (.loop Td)))
 (.seq (.seq (.region SG)
 (.block 4 (.loop UR)))
 (.seq (.region UD)
 .ret)))))
theorem AG8 : Fn PR YR 292 An5 [.cell 4 true 6] := ⟨fun vs w => Try.call26 vs w, Try.f26, _, Try.func26, rfl, rfl, by kernel_rfl, by kernel_rfl⟩
def Yh : List XI := [J 4 (.move (.c (.d (.int .i64 0)))), J 5 (.move (.c (.d (.int .i64 0))))]
def Yu : List XI := [J 6 (.move (.t 0)), J 7 (.bin .geq (.t 6) (.c (.d (.int .i64 1000)))), J 8 (.move (.t 7)), Jf 9 8 (.move (.t 1)), Jf 10 8 (.bin .geq (.t 9) (.c (.d (.int .i64 1000)))), J 11 (.pick (.t 8) (.c (.d (.bool true))) (.t 10))]
def Yi : List XI := [J 4 (.move (.c (.d (.int .i64 1000)))), J 5 (.move (.c (.d (.int .i64 1000))))]
def YF : List XI := [J 12 (.move (.t 0)), J 13 (.move (.t 1)), J 4 (.move (.t 12)), J 5 (.move (.t 13))]
def Ax2 : XC :=
 (.seq (.region Yh)
 (.seq (.seq (.region Yu)
 (.cond (.t 11)
 (.seq (.region Yi)
 .ret)
 .skip))
 (.seq (.region YF)
 .ret)))
theorem AM5 : Fn PR TH 14 Ax2 [.tmp 4, .tmp 5] := ⟨fun vs w => Try.call27 vs w, Try.f27, _, Try.func27, rfl, rfl, by kernel_rfl, by kernel_rfl⟩
def WI : List XI := [J 1 (.box (.t 0)), J 2 (.move (.c (.d (.bool false))))]
def V7 : List XI := [J 6 (.fieldAddr 2 (.t 1)), J 7 (.load false 1 (.t 6)), J 8 (.bin .eql (.t 7) (.c (.d (.str ⟨#[]⟩)))), J 3 (.move (.t 8))]
def V3 : List XI := [J 4 (.move (.c (.d (.int .i64 0))))]
def V5 : List XI := [J 9 (.move (.t 4)), J 10 (.fieldAddr 4 (.t 1)), J 11 (.load false 1 (.t 10)), J 12 (.lenR (.t 11)), J 13 (.bin .lss (.t 9) (.t 12))]
def RN : List XI := [J 16 (.fieldAddr 4 (.t 1)), J 17 (.load false 1 (.t 16)), J 18 (.move (.t 4)), J 19 (.indexAddr 2 (.t 17) (.t 18)), J 20 (.fieldAddr 0 (.t 19)), J 21 (.load false 1 (.t 20)), J 22 (.call Jh [(.t 21)]), J 23 (.not (.t 22)), J 24 (.move (.t 23)), Jf 25 24 (.fieldAddr 4 (.t 1)), Jf 26 24 (.load false 1 (.t 25)), Jf 27 24 (.move (.t 4)), Jf 28 24 (.indexAddr 2 (.t 26) (.t 27)), Jf 29 24 (.fieldAddr 1 (.t 28)), Jf 30 24 (.load false 1 (.t 29)), Jf 31 24 (.bin .lss (.t 30) (.c (.d (.int .i64 1)))), J 32 (.pick (.t 24) (.c (.d (.bool true))) (.t 31))]
def R9 : List XI := [J 33 (.move (.t 32)), Jf 34 33 (.fieldAddr 4 (.t 1)), Jf 35 33 (.load false 1 (.t 34)), Jf 36 33 (.move (.t 4)), Jf 37 33 (.indexAddr 2 (.t 35) (.t 36)), Jf 38 33 (.fieldAddr 1 (.t 37)), Jf 39 33 (.load false 1 (.t 38)), Jf 40 33 (.bin .gtr (.t 39) (.c (.d (.int .i64 3)))), J 41 (.pick (.t 33) (.c (.d (.bool true))) (.t 40))]
def W9 : List XI := RN ++ (R9)
def VW : List XI := [J 2 (.move (.c (.d (.bool false))))]
def RK : List XI := [J 42 (.move (.t 3)), J 43 (.move (.t 42)), Jf 44 43 (.fieldAddr 2 (.t 1)), Jf 45 43 (.load false 1 (.t 44)), Jf 46 43 (.fieldAddr 4 (.t 1)), Jf 47 43 (.load false 1 (.t 46)), Jf 48 43 (.move (.t 4)), Jf 49 43 (.indexAddr 2 (.t 47) (.t 48)), Jf 50 43 (.fieldAddr 0 (.t 49)), Jf 51 43 (.load false 1 (.t 50)), Jf 52 43 (.bin .eql (.t 45) (.t 51)), J 53 (.pick (.t 43) (.c (.d (.bool true))) (.t 52))]
def Nh : List XI := [J 3 (.move (.t 53))]
def V0 : List XI := RK ++ (Nh)
def WQ : List XI := [J 5 (.move (.c (.d (.int .i64 0))))]
def VL : List XI := [J 54 (.move (.t 5)), J 55 (.move (.t 4)), J 56 (.bin .lss (.t 54) (.t 55))]
def V9 : List XI := [J 59 (.fieldAddr 4 (.t 1)), J 60 (.load false 1 (.t 59)), J 61 (.move (.t 5)), J 62 (.indexAddr 2 (.t 60) (.t 61)), J 63 (.fieldAddr 0 (.t 62)), J 64 (.load false 1 (.t 63)), J 65 (.fieldAddr 4 (.t 1)), J 66 (.load false 1 (.t 65)), J 67 (.move (.t 4)), J 68 (.indexAddr 2 (.t 66) (.t 67)), J 69 (.fieldAddr 0 (.t 68)), J 70 (.load false 1 (.t 69)), J 71 (.bin .eql (.t 64) (.t 70))]
def Tq : List XI := [J 2 (.move (.c (.d (.bool false))))]
def SA : List XI := [J 57 (.move (.t 5)), J 58 (.bin .add (.t 57) (.c (.d (.int .i64 1)))), J 5 (.move (.t 58))]
def S5 : XC :=
 (.seq (.seq (.region VL)
 (.cond (.t 56)
 .skip
 (.exit 2)))
 (.seq (.block 3 (.seq (.regionS V9 0)
 (.cond (.t 71)
 (.seq (.region Tq)
 .ret)
 .skip)))
 (.region SA)))
def SO : List XI := [J 14 (.move (.t 4)), J 15 (.bin .add (.t 14) (.c (.d (.int .i64 1)))), J 4 (.move (.t 15))]
def SP : XC :=
 (.seq (.seq (.region V5)
 (.cond (.t 13)
 .skip
 (.exit 0)))
 (.seq (.block 1 (.seq (.seq (.region W9)
 (.cond (.t 41)
 (.seq (.region VW)
 .ret)
 .skip))
 (.seq (.regionS V0 0)
 (.seq (.region WQ)
 (.block 2 (.loop S5))))))
 (.region SO)))
def TA : List XI := [J 72 (.fieldAddr 1 (.t 1)), J 73 (.load false 1 (.t 72)), J 74 (.bin .neq (.t 73) (.c (.d (.str ⟨#[]⟩)))), J 75 (.move (.t 74)), Jt 76 75 (.fieldAddr 1 (.t 1)), Jt 77 75 (.load false 1 (.t 76)), Jt 78 75 (.call Jh [(.t 77)]), Jt 79 75 (.not (.t 78)), Jt 80 75 (.move (.t 79)), Jf 81 80 (.fieldAddr 4 (.t 1)), Jf 82 80 (.load false 1 (.t 81)), Jf 83 80 (.lenR (.t 82)), Jf 84 80 (.bin .gtr (.t 83) (.c (.d (.int .i64 0)))), Jt 85 75 (.pick (.t 80) (.c (.d (.bool true))) (.t 84)), J 86 (.pick (.t 75) (.t 85) (.c (.d (.bool false))))]
def OM : List XI := [J 2 (.move (.c (.d (.bool false))))]
def Q0 : List XI := [J 87 (.fieldAddr 0 (.t 1)), J 88 (.load false 1 (.t 87)), J 89 (.call Jh [(.t 88)]), J 90 (.move (.t 89)), Jt 91 90 (.fieldAddr 4 (.t 1)), Jt 92 90 (.load false 1 (.t 91)), Jt 93 90 (.lenR (.t 92)), Jt 94 90 (.bin .leq (.t 93) (.c (.d (.int .i64 8)))), J 95 (.pick (.t 90) (.t 94) (.c (.d (.bool false))))]
def Q5 : List XI := [J 96 (.move (.t 95)), Jt 97 96 (.move (.t 3)), J 98 (.pick (.t 96) (.t 97) (.c (.d (.bool false))))]
def Qe : List XI := [J 99 (.move (.t 98)), Jt 100 99 (.fieldAddr 3 (.t 1)), Jt 101 99 (.load false 1 (.t 100)), Jt 102 99 (.bin .geq (.t 101) (.c (.d (.int .i64 1)))), J 103 (.pick (.t 99) (.t 102) (.c (.d (.bool false))))]
def LV : List XI := [J 104 (.move (.t 103)), Jt 105 104 (.fieldAddr 3 (.t 1)), Jt 106 104 (.load false 1 (.t 105)), Jt 107 104 (.bin .leq (.t 106) (.c (.d (.int .i64 2000)))), J 108 (.pick (.t 104) (.t 107) (.c (.d (.bool false))))]
def Js : List XI := [J 2 (.move (.t 108))]
def TD : List XI := Q0 ++ (Q5 ++ (Qe ++ (LV ++ (Js))))
def An1 : XC :=
 (.seq (.region WI)
 (.seq (.region V7)
 (.seq (.seq (.region V3)
 (.block 0 (.loop SP)))
 (.seq (.seq (.region TA)
 (.cond (.t 86)
 (.seq (.region OM)
 .ret)
 .skip))
 (.seq (.region TD)
 .ret)))))
theorem AI3 : Fn PR Zs 109 An1 [.tmp 2] := ⟨fun vs w => Try.call28 vs w, Try.f28, _, Try.func28, rfl, rfl, by kernel_rfl, by kernel_rfl⟩
def SK : List XI := [J 2 (.move (.c (.d (.bool false))))]
def UT : List XI := [J 3 (.move (.c (.d (.int .i64 0))))]
def SJ : List XI := [J 4 (.move (.t 3)), J 5 (.move (.t 0)), J 6 (.lenR (.t 5)), J 7 (.bin .lss (.t 4) (.t 6))]
def Uw : List XI := [J 10 (.move (.t 0)), J 11 (.move (.t 3)), J 12 (.indexAddr 8 (.t 10) (.t 11)), J 13 (.load true 8 (.t 12)), J 14 (.call NE [(.t 13)]), J 15 (.not (.t 14))]
def Vi : List XI := [J 2 (.move (.c (.d (.bool false))))]
def U7 : List XI := [J 8 (.move (.t 3)), J 9 (.bin .add (.t 8) (.c (.d (.int .i64 1)))), J 3 (.move (.t 9))]
def T3 : XC :=
 (.seq (.seq (.region SJ)
 (.cond (.t 7)
 .skip
 (.exit 0)))
 (.seq (.block 1 (.seq (.region Uw)
 (.cond (.t 15)
 (.seq (.region Vi)
 .ret)
 .skip)))
 (.region U7)))
def TI : List XI := [J 2 (.move (.c (.d (.bool true))))]
def Ac4 : XC :=
 (.seq (.region SK)
 (.seq (.seq (.region UT)
 (.block 0 (.loop T3)))
 (.seq (.region TI)
 .ret)))
theorem AC0 : Fn PR HQ 16 Ac4 [.tmp 2] := ⟨fun vs w => Try.call29 vs w, Try.f29, _, Try.func29, rfl, rfl, by kernel_rfl, by kernel_rfl⟩
def Lf : List XI := [J 6 (.alloc [(.d (.int .i64 0)), (.d (.int .i64 0))])]
def Mk : List XI := [J 7 (.alloc [(.d (.int .i64 0)), (.d (.int .i64 0))])]
def LQ : List XI := [J 10 (.move (.t 0)), J 11 (.lenR (.t 10)), J 12 (.move (.c (.d (.int .i64 0))))]
def L2 : List XI := [J 13 (.bin .lss (.t 12) (.t 11))]
def Mc : List XI := [J 14 (.indexAddr 8 (.t 10) (.t 12)), J 15 (.load true 8 (.t 14)), J 9 (.alloc [(.d (.int .i64 0)), (.d (.str ⟨#[]⟩)), (.d (.str ⟨#[]⟩)), (.d (.int .i64 0)), (.ex []), (.ex []), (.ex []), (.ex [])]), { dst := none, op := .store 8 (.t 9) (.t 15) }]
def Lg : List XI := [J 16 (.call IU [(.t 7)]), J 17 (.move (.t 16)), Jf 18 17 (.move (.t 1)), Jf 19 17 (.bin .geq (.t 18) (.c (.d (.int .i64 1000)))), J 20 (.pick (.t 17) (.c (.d (.bool true))) (.t 19))]
def Lx : List XI := [J 21 (.build [(.d (.int .i64 0)), (.d (.int .i64 0))] [(0, 1, (.c (.d (.int .i64 1000)))), (1, 1, (.c (.d (.int .i64 1000))))]), { dst := none, op := .store 2 (.t 6) (.t 21) }]
def Ma : List XI := [J 22 (.move (.t 2)), J 23 (.load true 8 (.t 9)), J 24 (.move (.t 1)), J 25 (.dyn (.t 22) [(.t 23), (.t 24)]), J 26 (.call IK [(.t 7), (.t 25)])]
def LF : List XI := [J 27 (.bin .add (.t 12) (.c (.d (.int .i64 1)))), J 12 (.move (.t 27))]
def L6 : XC :=
 (.seq (.region L2)
 (.seq (.cond (.t 13)
 .skip
 (.exit 0))
 (.seq (.block 1 (.seq (.region Mc)
 (.seq (.seq (.region Lg)
 (.cond (.t 20)
 (.seq (.region Lx)
 .ret)
 .skip))
 (.region Ma))))
 (.region LF))))
def KL : List XI := [J 28 (.load true 2 (.t 7)), { dst := none, op := .store 2 (.t 6) (.t 28) }]
def PH : XC :=
 (.seq (.region Lf)
 (.seq (.region Mk)
 (.seq (.seq (.region LQ)
 (.block 0 (.loop L6)))
 (.seq (.region KL)
 .ret))))
theorem Xh : Fn PR FG 29 PH [.cell 6 true 2] := ⟨fun vs w => Try.call30 vs w, Try.f30, _, Try.func30, rfl, rfl, by kernel_rfl, by kernel_rfl⟩
def Ra : List XI := [J 2 (.box (.t 0)), J 4 (.alloc [(.d (.int .i64 0)), (.d (.int .i64 0))])]
def Q4 : List XI := [J 6 (.fieldAddr 5 (.t 2)), J 7 (.load false 1 (.t 6)), J 8 (.move (.t 1)), J 9 (.bin .add (.t 8) (.c (.d (.int .i64 1)))), J 10 (.call Iq [(.t 7), (.t 9), (.c (.fn Hx [] []))]), J 5 (.alloc [(.d (.int .i64 0)), (.d (.int .i64 0))]), { dst := none, op := .store 2 (.t 5) (.t 10) }]
def QQ : List XI := [J 11 (.fieldAddr 6 (.t 2)), J 12 (.load false 1 (.t 11)), J 13 (.move (.t 1)), J 14 (.bin .add (.t 13) (.c (.d (.int .i64 1)))), J 15 (.call FG [(.t 12), (.t 14), (.c (.fn FL [] []))]), J 16 (.call IK [(.t 5), (.t 15)])]
def PP : List XI := [J 17 (.fieldAddr 7 (.t 2)), J 18 (.load false 1 (.t 17)), J 19 (.move (.t 1)), J 20 (.bin .add (.t 19) (.c (.d (.int .i64 1)))), J 21 (.call FG [(.t 18), (.t 20), (.c (.fn FL [] []))]), J 22 (.call IK [(.t 5), (.t 21)])]
def Qr : List XI := [J 23 (.load true 2 (.t 5)), J 24 (.call Xs [(.t 23)]), { dst := none, op := .store 2 (.t 4) (.t 24) }]
def WT : XC :=
 (.seq (.region Ra)
 (.seq (.region Q4)
 (.seq (.region QQ)
 (.seq (.region PP)
 (.seq (.region Qr)
 .ret)))))
theorem As6 : Fn PR FL 25 WT [.cell 4 true 2] := ⟨fun vs w => Try.call31 vs w, Try.f31, _, Try.func31, rfl, rfl, by kernel_rfl, by kernel_rfl⟩
def Pt : List XI := [J 2 (.move (.c (.d (.int .i64 0)))), J 3 (.move (.c (.d (.int .i64 0))))]
def PD : List XI := [J 4 (.move (.t 0)), J 5 (.call IU [(.t 4)])]
def Pr : List XI := [J 2 (.move (.c (.d (.int .i64 1000)))), J 3 (.move (.c (.d (.int .i64 1000))))]
def Pk : List XI := [J 6 (.move (.t 0)), J 7 (.nilCheck (.t 6)), J 8 (.fieldAddr 0 (.t 7)), J 9 (.load false 1 (.t 8)), J 10 (.move (.t 0)), J 11 (.nilCheck (.t 10)), J 12 (.fieldAddr 1 (.t 11)), J 13 (.load false 1 (.t 12)), J 2 (.move (.t 9)), J 3 (.move (.t 13))]
def UE : XC :=
 (.seq (.region Pt)
 (.seq (.seq (.region PD)
 (.cond (.t 5)
 (.seq (.region Pr)
 .ret)
 .skip))
 (.seq (.regionS Pk 0)
 .ret)))
theorem Aj1 : Fn PR OF 14 UE [.tmp 2, .tmp 3] := ⟨fun vs w => Try.call32 vs w, Try.f32, _, Try.func32, rfl, rfl, by kernel_rfl, by kernel_rfl⟩
def DF : List XI := [J 1 (.box (.t 0)), J 2 (.move (.c .nilf))]
def DD : List XI := [J 3 (.mkfn Bc [] [(.t 1)]), J 2 (.move (.t 3))]
def Ek : XC :=
 (.seq (.region DF)
 (.seq (.region DD)
 .ret))
theorem Ho : Fn PR Bx 4 Ek [.tmp 2] := ⟨fun vs w => Try.call34 vs w, Try.f34, _, Try.func34, rfl, rfl, by kernel_rfl, by kernel_rfl⟩
def Y5 : List XI := [J 1 (.box (.t 0)), J 2 (.alloc [.nilm, .nilm, .nilm])]
def XB : List XI := [J 6 (.mkMap AD AU), J 7 (.mkMap AD AU), J 8 (.mkMap AD AU), J 9 (.build [.nilm, .nilm, .nilm] [(0, 1, (.t 6)), (1, 1, (.t 7)), (2, 1, (.t 8))]), J 3 (.alloc [.nilm, .nilm, .nilm]), { dst := none, op := .store 3 (.t 3) (.t 9) }]
def X9 : List XI := [J 10 (.load true 6 (.t 1)), J 11 (.call PX [(.t 10)])]
def YW : List XI := [J 12 (.fieldAddr 5 (.t 1)), J 13 (.load false 1 (.t 12)), J 14 (.lenR (.t 13)), J 15 (.move (.c (.d (.int .i64 0))))]
def XG : List XI := [J 16 (.bin .lss (.t 15) (.t 14))]
def Zp : List XI := [J 17 (.indexAddr 8 (.t 13) (.t 15)), J 18 (.load true 8 (.t 17)), J 5 (.alloc [(.d (.int .i64 0)), (.d (.str ⟨#[]⟩)), (.d (.str ⟨#[]⟩)), (.d (.int .i64 0)), (.ex []), (.ex []), (.ex []), (.ex [])]), { dst := none, op := .store 8 (.t 5) (.t 18) }]
def XO : List XI := [J 19 (.load true 3 (.t 3)), J 20 (.load true 8 (.t 5)), J 21 (.call GR [(.t 19), (.t 20)])]
def Yf : List XI := [J 22 (.bin .add (.t 15) (.c (.d (.int .i64 1)))), J 15 (.move (.t 22))]
def Zc : XC :=
 (.seq (.region XG)
 (.seq (.cond (.t 16)
 .skip
 (.exit 0))
 (.seq (.block 1 (.seq (.region Zp)
 (.region XO)))
 (.region Yf))))
def Sl : List XI := [J 23 (.load true 3 (.t 3)), { dst := none, op := .store 3 (.t 2) (.t 23) }]
def AA2 : XC :=
 (.seq (.region Y5)
 (.seq (.region XB)
 (.seq (.seq (.region X9)
 (.cond (.t 11)
 (.seq (.region YW)
 (.block 0 (.loop Zc)))
 .skip))
 (.seq (.region Sl)
 .ret))))
theorem AK8 : Fn PR Xr 24 AA2 [.cell 2 true 3] := ⟨fun vs w => Try.call35 vs w, Try.f35, _, Try.func35, rfl, rfl, by kernel_rfl, by kernel_rfl⟩
def WP : List XI := [J 1 (.box (.t 0)), J 2 (.move (.c (.d (.bool false))))]
def W7 : List XI := [J 3 (.move (.c (.ex [])))]
def WX : List XI := [J 6 (.fieldAddr 4 (.t 1)), J 7 (.load false 1 (.t 6)), J 8 (.lenR (.t 7)), J 9 (.move (.c (.d (.int .i64 0))))]
def Wv : List XI := [J 10 (.bin .lss (.t 9) (.t 8))]
def Wi : List XI := [J 11 (.indexAddr 2 (.t 7) (.t 9)), J 12 (.load true 2 (.t 11)), J 5 (.alloc [(.d (.str ⟨#[]⟩)), (.d (.int .i64 0))]), { dst := none, op := .store 2 (.t 5) (.t 12) }]
def V2 : List XI := [J 13 (.fieldAddr 1 (.t 5)), J 14 (.load false 1 (.t 13)), J 15 (.call JN [(.t 14), (.c (.d (.int .i64 1))), (.c (.d (.int .i64 3)))]), J 16 (.not (.t 15))]
def VT : List XI := [J 2 (.move (.c (.d (.bool false))))]
def WG : List XI := [J 17 (.move (.t 3)), J 18 (.fieldAddr 0 (.t 5)), J 19 (.load false 1 (.t 18)), J 20 (.buildSlice 1 [(.t 19)]), J 21 (.append AD 1 16 (.t 17) (.t 20)), J 3 (.move (.t 21))]
def W1 : List XI := [J 22 (.bin .add (.t 9) (.c (.d (.int .i64 1)))), J 9 (.move (.t 22))]
def Xd : XC :=
 (.seq (.region Wv)
 (.seq (.cond (.t 10)
 .skip
 (.exit 0))
 (.seq (.block 1 (.seq (.region Wi)
 (.seq (.seq (.region V2)
 (.cond (.t 16)
 (.seq (.region VT)
 .ret)
 .skip))
 (.region WG))))
 (.region W1))))
def QR : List XI := [J 23 (.fieldAddr 0 (.t 1)), J 24 (.load false 1 (.t 23)), J 25 (.buildSlice 1 [(.t 24)]), J 26 (.call IW [(.t 25)]), J 27 (.not (.t 26)), J 28 (.move (.t 27)), Jf 29 28 (.move (.t 3)), Jf 30 28 (.lenR (.t 29)), Jf 31 28 (.bin .gtr (.t 30) (.c (.d (.int .i64 8)))), J 32 (.pick (.t 28) (.c (.d (.bool true))) (.t 31))]
def Qg : List XI := [J 33 (.move (.t 32)), Jf 34 33 (.move (.t 3)), Jf 35 33 (.call IW [(.t 34)]), Jf 36 33 (.not (.t 35)), J 37 (.pick (.t 33) (.c (.d (.bool true))) (.t 36))]
def QY : List XI := [J 38 (.move (.t 37)), Jf 39 38 (.move (.t 3)), Jf 40 38 (.call Ld [(.t 39)]), Jf 41 38 (.not (.t 40)), J 42 (.pick (.t 38) (.c (.d (.bool true))) (.t 41))]
def PU : List XI := [J 43 (.move (.t 42)), Jf 44 43 (.fieldAddr 3 (.t 1)), Jf 45 43 (.load false 1 (.t 44)), Jf 46 43 (.call JN [(.t 45), (.c (.d (.int .i64 1))), (.c (.d (.int .i64 2000)))]), Jf 47 43 (.not (.t 46)), J 48 (.pick (.t 43) (.c (.d (.bool true))) (.t 47))]
def T7 : List XI := QR ++ (Qg ++ (QY ++ (PU)))
def UX : List XI := [J 2 (.move (.c (.d (.bool false))))]
def Uo : List XI := [J 49 (.fieldAddr 1 (.t 1)), J 50 (.load false 1 (.t 49)), J 51 (.bin .neq (.t 50) (.c (.d (.str ⟨#[]⟩))))]
def Rb : List XI := [J 52 (.fieldAddr 1 (.t 1)), J 53 (.load false 1 (.t 52)), J 54 (.buildSlice 1 [(.t 53)]), J 55 (.call IW [(.t 54)]), J 56 (.move (.t 55)), Jt 57 56 (.move (.t 3)), Jt 58 56 (.lenR (.t 57)), Jt 59 56 (.bin .eql (.t 58) (.c (.d (.int .i64 0)))), J 60 (.pick (.t 56) (.t 59) (.c (.d (.bool false))))]
def LP : List XI := [J 61 (.move (.t 60)), Jt 62 61 (.fieldAddr 2 (.t 1)), Jt 63 61 (.load false 1 (.t 62)), Jt 64 61 (.bin .eql (.t 63) (.c (.d (.str ⟨#[]⟩)))), J 65 (.pick (.t 61) (.t 64) (.c (.d (.bool false))))]
def Jl : List XI := [J 2 (.move (.t 65))]
def SD : List XI := Rb ++ (LP ++ (Jl))
def Qw : List XI := [J 66 (.fieldAddr 2 (.t 1)), J 67 (.load false 1 (.t 66)), J 68 (.bin .eql (.t 67) (.c (.d (.str ⟨#[]⟩)))), J 69 (.move (.t 68)), Jf 70 69 (.move (.t 3)), Jf 71 69 (.fieldAddr 2 (.t 1)), Jf 72 69 (.load false 1 (.t 71)), Jf 73 69 (.call CW [(.t 70), (.t 72)]), J 74 (.pick (.t 69) (.c (.d (.bool true))) (.t 73))]
def Lo : List XI := [J 2 (.move (.t 74))]
def Vl : List XI := Qw ++ (Lo)
def Aq6 : XC :=
 (.seq (.region WP)
 (.seq (.region W7)
 (.seq (.seq (.region WX)
 (.block 0 (.loop Xd)))
 (.seq (.seq (.region T7)
 (.cond (.t 48)
 (.seq (.region UX)
 .ret)
 .skip))
 (.seq (.seq (.region Uo)
 (.cond (.t 51)
 (.seq (.region SD)
 .ret)
 .skip))
 (.seq (.region Vl)
 .ret))))))
theorem AG6 : Fn PR Y3 75 Aq6 [.tmp 2] := ⟨fun vs w => Try.call36 vs w, Try.f36, _, Try.func36, rfl, rfl, by kernel_rfl, by kernel_rfl⟩
def Oi : List XI := [J 2 (.move (.c (.d (.bool false))))]
def Lz : List XI := [J 3 (.move (.t 0)), J 4 (.nilCheck (.t 3)), J 5 (.fieldAddr 0 (.t 4)), J 6 (.load false 1 (.t 5)), J 7 (.bin .leq (.t 6) (.c (.d (.int .i64 300)))), J 8 (.move (.t 7)), Jt 9 8 (.move (.t 0)), Jt 10 8 (.nilCheck (.t 9)), Jt 11 8 (.fieldAddr 1 (.t 10)), Jt 12 8 (.load false 1 (.t 11)), Jt 13 8 (.bin .leq (.t 12) (.c (.d (.int .i64 12)))), J 14 (.pick (.t 8) (.t 13) (.c (.d (.bool false))))]
def Iv : List XI := [J 2 (.move (.t 14))]
def Oq : List XI := Lz ++ (Iv)
def RR : XC :=
 (.seq (.region Oi)
 (.seq (.region Oq)
 .ret))
theorem ZH : Fn PR Nc 15 RR [.tmp 2] := ⟨fun vs w => Try.call37 vs w, Try.f37, _, Try.func37, rfl, rfl, by kernel_rfl, by kernel_rfl⟩
def Vf : List XI := [J 2 (.move (.c (.d (.bool false))))]
def TU : List XI := [J 3 (.move (.t 0)), J 4 (.call CV [(.t 3), (.c (.fn Hq [] []))]), J 5 (.not (.t 4)), J 2 (.move (.t 5))]
def Ae5 : XC :=
 (.seq (.region Vf)
 (.seq (.region TU)
 .ret))
theorem AB4 : Fn PR G7 6 Ae5 [.tmp 2] := ⟨fun vs w => Try.call38 vs w, Try.f38, _, Try.func38, rfl, rfl, by kernel_rfl, by kernel_rfl⟩
def F5 : List XI := [J 4 (.move (.c (.d (.int .i64 0))))]
def Ga : List XI := [J 6 (.move (.t 0)), J 7 (.lenR (.t 6)), J 8 (.move (.c (.d (.int .i64 0))))]
def F6 : List XI := [J 9 (.bin .lss (.t 8) (.t 7))]
def Gb : List XI := [J 10 (.move (.t 8)), J 5 (.move (.t 10))]
def Ge : List XI := [J 11 (.move (.t 1)), J 12 (.move (.t 0)), J 13 (.move (.t 5)), J 14 (.indexAddr 1 (.t 12) (.t 13)), J 15 (.load false 1 (.t 14)), J 16 (.bin .eql (.t 11) (.t 15))]
def F9 : List XI := [J 17 (.move (.t 5)), J 4 (.move (.t 17))]
def Gd : List XI := [J 18 (.bin .add (.t 8) (.c (.d (.int .i64 1)))), J 8 (.move (.t 18))]
def F7 : XC :=
 (.seq (.region F6)
 (.seq (.cond (.t 9)
 .skip
 (.exit 0))
 (.seq (.block 1 (.seq (.region Gb)
 (.seq (.region Ge)
 (.cond (.t 16)
 (.seq (.region F9)
 .ret)
 .skip))))
 (.region Gd))))
def F8 : List XI := [J 4 (.move (.c (.d (.int .i64 (-1)))))]
def G3 : XC :=
 (.seq (.region F5)
 (.seq (.seq (.region Ga)
 (.block 0 (.loop F7)))
 (.seq (.region F8)
 .ret)))
theorem KB : Fn PR EK 19 G3 [.tmp 4] := ⟨fun vs w => Try.call40 vs w, Try.f40, _, Try.func40, rfl, rfl, by kernel_rfl, by kernel_rfl⟩
def MB : List XI := [J 2 (.move (.c (.d (.bool false))))]
def KQ : List XI := [J 5 (.move (.t 0)), J 6 (.bin .eql (.t 5) (.c (.d (.str ⟨#[]⟩)))), J 7 (.move (.t 6)), Jf 8 7 (.move (.t 0)), Jf 9 7 (.lenS (.t 8)), Jf 10 7 (.bin .gtr (.t 9) (.c (.d (.int .i64 16)))), J 11 (.pick (.t 7) (.c (.d (.bool true))) (.t 10))]
def KR : List XI := [J 12 (.move (.t 11)), Jf 13 12 (.move (.t 0)), Jf 14 12 (.indexStr (.t 13) (.c (.d (.int .i64 0)))), Jf 15 12 (.call Is [(.t 14)]), Jf 16 12 (.not (.t 15)), J 17 (.pick (.t 12) (.c (.d (.bool true))) (.t 16))]
def Mv : List XI := KQ ++ (KR)
def MZ : List XI := [J 2 (.move (.c (.d (.bool false))))]
def Mq : List XI := [J 18 (.move (.t 0)), J 19 (.toBytes (.t 18)), J 20 (.lenR (.t 19)), J 21 (.move (.c (.d (.int .i64 0))))]
def Mw : List XI := [J 22 (.bin .lss (.t 21) (.t 20))]
def M7 : List XI := [J 23 (.indexAddr 1 (.t 19) (.t 21)), J 24 (.load false 1 (.t 23)), J 4 (.move (.t 24))]
def MH : List XI := [J 25 (.move (.t 4)), J 26 (.call Nf [(.t 25)]), J 27 (.not (.t 26))]
def Mn : List XI := [J 2 (.move (.c (.d (.bool false))))]
def M6 : List XI := [J 28 (.bin .add (.t 21) (.c (.d (.int .i64 1)))), J 21 (.move (.t 28))]
def MO : XC :=
 (.seq (.region Mw)
 (.seq (.cond (.t 22)
 .skip
 (.exit 0))
 (.seq (.block 1 (.seq (.region M7)
 (.seq (.region MH)
 (.cond (.t 27)
 (.seq (.region Mn)
 .ret)
 .skip))))
 (.region M6))))
def Mh : List XI := [J 2 (.move (.c (.d (.bool true))))]
def PZ : XC :=
 (.seq (.region MB)
 (.seq (.seq (.region Mv)
 (.cond (.t 17)
 (.seq (.region MZ)
 .ret)
 .skip))
 (.seq (.seq (.region Mq)
 (.block 0 (.loop MO)))
 (.seq (.region Mh)
 .ret))))
theorem XW : Fn PR LM 29 PZ [.tmp 2] := ⟨fun vs w => Try.call41 vs w, Try.f41, _, Try.func41, rfl, rfl, by kernel_rfl, by kernel_rfl⟩
def E5 : List XI := [J 4 (.move (.c (.d (.int .i64 0))))]
def Fg : List XI := [J 6 (.move (.t 0)), J 7 (.lenR (.t 6)), J 8 (.move (.c (.d (.int .i64 0))))]
def E8 : List XI := [J 9 (.bin .lss (.t 8) (.t 7))]
def Fk : List XI := [J 10 (.move (.t 8)), J 5 (.move (.t 10))]
def E0 : List XI := [J 11 (.move (.t 1)), J 12 (.move (.t 0)), J 13 (.move (.t 5)), J 14 (.indexAddr 1 (.t 12) (.t 13)), J 15 (.load false 1 (.t 14)), J 16 (.dyn (.t 11) [(.t 15)])]
def E4 : List XI := [J 17 (.move (.t 5)), J 4 (.move (.t 17))]
def Fa : List XI := [J 18 (.bin .add (.t 8) (.c (.d (.int .i64 1)))), J 8 (.move (.t 18))]
def E7 : XC :=
 (.seq (.region E8)
 (.seq (.cond (.t 9)
 .skip
 (.exit 0))
 (.seq (.block 1 (.seq (.region Fk)
 (.seq (.region E0)
 (.cond (.t 16)
 (.seq (.region E4)
 .ret)
 .skip))))
 (.region Fa))))
def E3 : List XI := [J 4 (.move (.c (.d (.int .i64 (-1)))))]
def FR : XC :=
 (.seq (.region E5)
 (.seq (.seq (.region Fg)
 (.block 0 (.loop E7)))
 (.seq (.region E3)
 .ret)))
theorem I4 : Fn PR Dv 19 FR [.tmp 4] := ⟨fun vs w => Try.call42 vs w, Try.f42, _, Try.func42, rfl, rfl, by kernel_rfl, by kernel_rfl⟩
def X4 : List XI := [J 4 (.move (.c (.d (.int .i64 0))))]
def YY : List XI := [J 5 (.move (.t 1)), J 6 (.bin .eql (.t 5) (.c (.d (.int .i64 0))))]
def Yx : List XI := [J 4 (.move (.c (.d (.int .i64 (-1)))))]
def Zf : List XI := [J 7 (.move (.t 1)), J 8 (.bin .sub (.t 7) (.c (.d (.int .i64 1)))), J 9 (.move (.t 0)), J 10 (.toInt .u64 (.t 9)), J 11 (.move (.t 1)), J 12 (.toInt .u64 (.t 11)), J 13 (.bin .rem (.t 10) (.t 12)), J 14 (.toInt .i64 (.t 13)), J 15 (.bin .sub (.t 8) (.t 14)), J 4 (.move (.t 15))]
def Ay6 : XC :=
 (.seq (.region X4)
 (.seq (.seq (.region YY)
 (.cond (.t 6)
 (.seq (.region Yx)
 .ret)
 .skip))
 (.seq (.region Zf)
 .ret)))
theorem AL4 : Fn PR Rp 16 Ay6 [.tmp 4] := ⟨fun vs w => Try.call43 vs w, Try.f43, _, Try.func43, rfl, rfl, by kernel_rfl, by kernel_rfl⟩
def VP : List XI := [J 1 (.box (.t 0)), J 2 (.move (.c (.d (.bool false))))]
def WB : List XI := [J 10 (.fieldAddr 0 (.t 1)), J 11 (.load false 1 (.t 10)), J 12 (.bin .lss (.t 11) (.c (.d (.int .i64 1)))), J 13 (.move (.t 12)), Jf 14 13 (.fieldAddr 0 (.t 1)), Jf 15 13 (.load false 1 (.t 14)), Jf 16 13 (.bin .gtr (.t 15) (.c (.d (.int .i64 10)))), J 17 (.pick (.t 13) (.c (.d (.bool true))) (.t 16))]
def Wa : List XI := [J 2 (.move (.c (.d (.bool false))))]
def VQ : List XI := [J 18 (.buildSlice 1 [(.c (.d (.str ⟨#[]⟩))), (.c (.d (.str ⟨#[110]⟩))), (.c (.d (.str ⟨#[110]⟩))), (.c (.d (.str ⟨#[115]⟩))), (.c (.d (.str ⟨#[110, 115, 99]⟩))), (.c (.d (.str ⟨#[110, 115]⟩))), (.c (.d (.str ⟨#[110, 115, 78, 98]⟩))), (.c (.d (.str ⟨#[98, 101]⟩))), (.c (.d (.str ⟨#[115]⟩))), (.c (.d (.str ⟨#[]⟩))), (.c (.d (.str ⟨#[]⟩)))]), J 3 (.move (.t 18))]
def Xb : List XI := [J 19 (.move (.t 3)), J 20 (.fieldAddr 0 (.t 1)), J 21 (.load false 1 (.t 20)), J 22 (.indexAddr 1 (.t 19) (.t 21)), J 23 (.load false 1 (.t 22)), J 4 (.move (.t 23))]
def Wk : List XI := [J 24 (.move (.t 4)), J 25 (.call RM [(.t 24), (.c (.d (.int .u8 110)))]), J 26 (.fieldAddr 1 (.t 1)), J 27 (.load false 1 (.t 26)), J 28 (.bin .neq (.t 27) (.c (.d (.str ⟨#[]⟩)))), J 29 (.eqBool true (.t 25) (.t 28)), J 30 (.move (.t 29)), Jf 31 30 (.move (.t 4)), { dst := some 32, op := .call RM [(.t 31), (.c (.d (.int .u8 115)))], guard := some (30, false), nm := 1 }, Jf 33 30 (.fieldAddr 2 (.t 1)), Jf 34 30 (.load false 1 (.t 33)), Jf 35 30 (.bin .neq (.t 34) (.c (.d (.str ⟨#[]⟩)))), Jf 36 30 (.eqBool true (.t 32) (.t 35)), J 37 (.pick (.t 30) (.c (.d (.bool true))) (.t 36)), J 38 (.move (.t 37)), Jf 39 38 (.move (.t 4)), { dst := some 40, op := .call RM [(.t 39), (.c (.d (.int .u8 110)))], guard := some (38, false), nm := 2 }, Jf 41 38 (.move (.t 40)), Jt 42 41 (.fieldAddr 1 (.t 1)), Jt 43 41 (.load false 1 (.t 42)), { dst := some 44, op := .call Jh [(.t 43)], guard := some (41, true), nm := 3 }, Jt 45 41 (.not (.t 44)), Jf 46 38 (.pick (.t 41) (.t 45) (.c (.d (.bool false)))), J 47 (.pick (.t 38) (.c (.d (.bool true))) (.t 46)), J 48 (.move (.t 47)), Jf 49 48 (.move (.t 4)), { dst := some 50, op := .call RM [(.t 49), (.c (.d (.int .u8 115)))], guard := some (48, false), nm := 4 }, Jf 51 48 (.move (.t 50)), Jt 52 51 (.fieldAddr 2 (.t 1)), Jt 53 51 (.load false 1 (.t 52)), { dst := some 54, op := .call Jh [(.t 53)], guard := some (51, true), nm := 5 }, Jt 55 51 (.not (.t 54)), Jf 56 48 (.pick (.t 51) (.t 55) (.c (.d (.bool false)))), J 57 (.pick (.t 48) (.c (.d (.bool true))) (.t 56))]
def IG : List XI := [J 2 (.move (.c (.d (.bool false))))]
def VY : List XI := [J 58 (.move (.t 4)), J 59 (.call RM [(.t 58), (.c (.d (.int .u8 99)))]), J 60 (.fieldAddr 4 (.t 1)), J 61 (.load false 1 (.t 60)), J 62 (.lenR (.t 61)), J 63 (.bin .gtr (.t 62) (.c (.d (.int .i64 0)))), J 64 (.eqBool true (.t 59) (.t 63)), J 65 (.move (.t 64)), Jf 66 65 (.fieldAddr 4 (.t 1)), Jf 67 65 (.load false 1 (.t 66)), Jf 68 65 (.lenR (.t 67)), Jf 69 65 (.bin .gtr (.t 68) (.c (.d (.int .i64 8)))), J 70 (.pick (.t 65) (.c (.d (.bool true))) (.t 69)), J 71 (.move (.t 70)), Jf 72 71 (.move (.t 4)), { dst := some 73, op := .call RM [(.t 72), (.c (.d (.int .u8 78)))], guard := some (71, false), nm := 1 }, Jf 74 71 (.not (.t 73)), Jf 75 71 (.move (.t 74)), Jt 76 75 (.fieldAddr 3 (.t 1)), Jt 77 75 (.load false 1 (.t 76)), Jt 78 75 (.bin .neq (.t 77) (.c (.d (.int .i64 0)))), Jf 79 71 (.pick (.t 75) (.t 78) (.c (.d (.bool false)))), J 80 (.pick (.t 71) (.c (.d (.bool true))) (.t 79)), J 81 (.move (.t 80)), Jf 82 81 (.fieldAddr 3 (.t 1)), Jf 83 81 (.load false 1 (.t 82)), Jf 84 81 (.bin .lss (.t 83) (.c (.d (.int .i64 0)))), J 85 (.pick (.t 81) (.c (.d (.bool true))) (.t 84)), J 86 (.move (.t 85)), Jf 87 86 (.fieldAddr 3 (.t 1)), Jf 88 86 (.load false 1 (.t 87)), Jf 89 86 (.bin .gtr (.t 88) (.c (.d (.int .i64 1000)))), J 90 (.pick (.t 86) (.c (.d (.bool true))) (.t 89)), J 91 (.move (.t 90)), Jf 92 91 (.move (.t 4)), { dst := some 93, op := .call RM [(.t 92), (.c (.d (.int .u8 98)))], guard := some (91, false), nm := 2 }, Jf 94 91 (.not (.t 93)), Jf 95 91 (.move (.t 94)), Jt 96 95 (.fieldAddr 6 (.t 1)), Jt 97 95 (.load false 1 (.t 96)), Jt 98 95 (.lenR (.t 97)), Jt 99 95 (.bin .gtr (.t 98) (.c (.d (.int .i64 0)))), Jf 100 91 (.pick (.t 95) (.t 99) (.c (.d (.bool false)))), J 101 (.pick (.t 91) (.c (.d (.bool true))) (.t 100)), J 102 (.move (.t 101)), Jf 103 102 (.move (.t 4)), { dst := some 104, op := .call RM [(.t 103), (.c (.d (.int .u8 101)))], guard := some (102, false), nm := 3 }, Jf 105 102 (.not (.t 104)), Jf 106 102 (.move (.t 105)), Jt 107 106 (.fieldAddr 7 (.t 1)), Jt 108 106 (.load false 1 (.t 107)), Jt 109 106 (.lenR (.t 108)), Jt 110 106 (.bin .gtr (.t 109) (.c (.d (.int .i64 0)))), Jf 111 102 (.pick (.t 106) (.t 110) (.c (.d (.bool false)))), J 112 (.pick (.t 102) (.c (.d (.bool true))) (.t 111))]
def Df : List XI := [J 2 (.move (.c (.d (.bool false))))]
def Wj : List XI := [J 5 (.move (.c (.d (.int .i64 0))))]
def Ur : List XI := [J 113 (.move (.t 5)), J 114 (.fieldAddr 4 (.t 1)), J 115 (.load false 1 (.t 114)), J 116 (.lenR (.t 115)), J 117 (.bin .lss (.t 113) (.t 116))]
def Vg : List XI := [J 120 (.fieldAddr 4 (.t 1)), J 121 (.load false 1 (.t 120)), J 122 (.move (.t 5)), J 123 (.indexAddr 1 (.t 121) (.t 122)), J 124 (.load false 1 (.t 123)), J 125 (.call Jh [(.t 124)]), J 126 (.not (.t 125))]
def SI : List XI := [J 2 (.move (.c (.d (.bool false))))]
def Tb : List XI := [J 6 (.move (.c (.d (.int .i64 0))))]
def Uz : List XI := [J 127 (.move (.t 6)), J 128 (.move (.t 5)), J 129 (.bin .lss (.t 127) (.t 128))]
def Uh : List XI := [J 132 (.fieldAddr 4 (.t 1)), J 133 (.load false 1 (.t 132)), J 134 (.move (.t 6)), J 135 (.indexAddr 1 (.t 133) (.t 134)), J 136 (.load false 1 (.t 135)), J 137 (.fieldAddr 4 (.t 1)), J 138 (.load false 1 (.t 137)), J 139 (.move (.t 5)), J 140 (.indexAddr 1 (.t 138) (.t 139)), J 141 (.load false 1 (.t 140)), J 142 (.bin .eql (.t 136) (.t 141))]
def Uf : List XI := [J 2 (.move (.c (.d (.bool false))))]
def Tk : List XI := [J 130 (.move (.t 6)), J 131 (.bin .add (.t 130) (.c (.d (.int .i64 1)))), J 6 (.move (.t 131))]
def Ut : XC :=
 (.seq (.seq (.region Uz)
 (.cond (.t 129)
 .skip
 (.exit 2)))
 (.seq (.block 3 (.seq (.regionS Uh 0)
 (.cond (.t 142)
 (.seq (.region Uf)
 .ret)
 .skip)))
 (.region Tk)))
def SY : List XI := [J 118 (.move (.t 5)), J 119 (.bin .add (.t 118) (.c (.d (.int .i64 1)))), J 5 (.move (.t 119))]
def TM : XC :=
 (.seq (.seq (.region Ur)
 (.cond (.t 117)
 .skip
 (.exit 0)))
 (.seq (.block 1 (.seq (.seq (.region Vg)
 (.cond (.t 126)
 (.seq (.region SI)
 .ret)
 .skip))
 (.seq (.region Tb)
 (.block 2 (.loop Ut)))))
 (.region SY)))
def S4 : List XI := [J 143 (.fieldAddr 5 (.t 1)), J 144 (.load false 1 (.t 143)), J 145 (.lenR (.t 144)), J 7 (.move (.t 145))]
def Q8 : List XI := [J 146 (.fieldAddr 0 (.t 1)), J 147 (.load false 1 (.t 146)), J 148 (.bin .eql (.t 147) (.c (.d (.int .i64 3)))), J 149 (.move (.t 148)), Jf 150 149 (.fieldAddr 0 (.t 1)), Jf 151 149 (.load false 1 (.t 150)), Jf 152 149 (.bin .eql (.t 151) (.c (.d (.int .i64 8)))), J 153 (.pick (.t 149) (.c (.d (.bool true))) (.t 152))]
def LB : List XI := [J 154 (.move (.t 153)), Jf 155 154 (.fieldAddr 0 (.t 1)), Jf 156 154 (.load false 1 (.t 155)), Jf 157 154 (.bin .eql (.t 156) (.c (.d (.int .i64 10)))), J 158 (.pick (.t 154) (.c (.d (.bool true))) (.t 157))]
def I5 : List XI := [J 8 (.move (.t 158))]
def U2 : List XI := Q8 ++ (LB ++ (I5))
def Qx : List XI := [J 159 (.move (.t 8)), J 160 (.move (.t 159)), Jt 161 160 (.move (.t 7)), Jt 162 160 (.bin .lss (.t 161) (.c (.d (.int .i64 1)))), Jt 163 160 (.move (.t 162)), Jf 164 163 (.move (.t 7)), Jf 165 163 (.bin .gtr (.t 164) (.c (.d (.int .i64 8)))), Jt 166 160 (.pick (.t 163) (.c (.d (.bool true))) (.t 165)), J 167 (.pick (.t 160) (.t 166) (.c (.d (.bool false))))]
def Qq : List XI := [J 168 (.move (.t 167)), Jf 169 168 (.move (.t 8)), Jf 170 168 (.not (.t 169)), Jf 171 168 (.move (.t 170)), Jt 172 171 (.move (.t 7)), Jt 173 171 (.fieldAddr 4 (.t 1)), Jt 174 171 (.load false 1 (.t 173)), Jt 175 171 (.lenR (.t 174)), Jt 176 171 (.bin .add (.c (.d (.int .i64 1))) (.t 175)), Jt 177 171 (.bin .neq (.t 172) (.t 176)), Jf 178 168 (.pick (.t 171) (.t 177) (.c (.d (.bool false)))), J 179 (.pick (.t 168) (.c (.d (.bool true))) (.t 178))]
def SW : List XI := Qx ++ (Qq)
def OD : List XI := [J 2 (.move (.c (.d (.bool false))))]
def UG : List XI := [J 9 (.move (.c (.d (.int .i64 0))))]
def TJ : List XI := [J 180 (.move (.t 9)), J 181 (.move (.t 7)), J 182 (.bin .lss (.t 180) (.t 181))]
def UL : List XI := [J 185 (.fieldAddr 5 (.t 1)), J 186 (.load false 1 (.t 185)), J 187 (.move (.t 9)), J 188 (.indexAddr 6 (.t 186) (.t 187)), J 189 (.load true 6 (.t 188)), J 190 (.call GM [(.t 189)]), J 191 (.not (.t 190))]
def TL : List XI := [J 2 (.move (.c (.d (.bool false))))]
def Vp : List XI := [J 183 (.move (.t 9)), J 184 (.bin .add (.t 183) (.c (.d (.int .i64 1)))), J 9 (.move (.t 184))]
def Vj : XC :=
 (.seq (.seq (.region TJ)
 (.cond (.t 182)
 .skip
 (.exit 4)))
 (.seq (.block 5 (.seq (.region UL)
 (.cond (.t 191)
 (.seq (.region TL)
 .ret)
 .skip)))
 (.region Vp)))
def Qj : List XI := [J 192 (.fieldAddr 6 (.t 1)), J 193 (.load false 1 (.t 192)), J 194 (.call HQ [(.t 193)]), J 195 (.move (.t 194)), Jt 196 195 (.fieldAddr 7 (.t 1)), Jt 197 195 (.load false 1 (.t 196)), Jt 198 195 (.call HQ [(.t 197)]), J 199 (.pick (.t 195) (.t 198) (.c (.d (.bool false))))]
def L7 : List XI := [J 2 (.move (.t 199))]
def Tc : List XI := Qj ++ (L7)
def Am6 : XC :=
 (.seq (.region VP)
 (.seq (.seq (.region WB)
 (.cond (.t 17)
 (.seq (.region Wa)
 .ret)
 .skip))
 (.seq (.region VQ)
 (.seq (.region Xb)
 (.seq (.seq (.regionD Wk [[], [0], [], [2], [3, 2], [1, 0, 4, 3, 2], [5, 1, 0, 4, 3, 2], [6, 5, 1, 0, 4, 3, 2], [7, 6, 5, 1, 0, 4, 3, 2], [6, 5, 1, 0, 4, 3, 2], [9, 6, 5, 1, 0, 4, 3, 2], [10, 9, 6, 5, 1, 0, 4, 3, 2], [8, 7, 6, 5, 1, 0, 4, 3, 2, 11, 10, 9], [6, 5, 1, 0, 4, 3, 2, 12, 8, 7, 11, 10, 9], [13, 6, 5, 1, 0, 4, 3, 2, 12, 8, 7, 11, 10, 9], [14, 13, 6, 5, 1, 0, 4, 3, 2, 12, 8, 7, 11, 10, 9], [15, 14, 13, 6, 5, 1, 0, 4, 3, 2, 12, 8, 7, 11, 10, 9], [16, 15, 14, 13, 6, 5, 1, 0, 4, 3, 2, 12, 8, 7, 11, 10, 9], [17, 16, 15, 14, 13, 6, 5, 1, 0, 4, 3, 2, 12, 8, 7, 11, 10, 9], [18, 17, 16, 15, 14, 13, 6, 5, 1, 0, 4, 3, 2, 12, 8, 7, 11, 10, 9], [19, 18, 17, 16, 15, 14, 13, 6, 5, 1, 0, 4, 3, 2, 12, 8, 7, 11, 10, 9], [20, 19, 18, 17, 16, 15, 14, 13, 6, 5, 1, 0, 4, 3, 2, 12, 8, 7, 11, 10, 9], [17, 16, 15, 14, 13, 6, 5, 1, 0, 4, 3, 2, 12, 8, 7, 11, 10, 9, 21, 20, 19, 18], [14, 13, 6, 5, 1, 0, 4, 3, 2, 12, 8, 7, 11, 10, 9, 22, 17, 16, 15, 21, 20, 19, 18], [23, 14, 13, 6, 5, 1, 0, 4, 3, 2, 12, 8, 7, 11, 10, 9, 22, 17, 16, 15, 21, 20, 19, 18], [24, 23, 14, 13, 6, 5, 1, 0, 4, 3, 2, 12, 8, 7, 11, 10, 9, 22, 17, 16, 15, 21, 20, 19, 18], [25, 24, 23, 14, 13, 6, 5, 1, 0, 4, 3, 2, 12, 8, 7, 11, 10, 9, 22, 17, 16, 15, 21, 20, 19, 18], [26, 25, 24, 23, 14, 13, 6, 5, 1, 0, 4, 3, 2, 12, 8, 7, 11, 10, 9, 22, 17, 16, 15, 21, 20, 19, 18], [27, 26, 25, 24, 23, 14, 13, 6, 5, 1, 0, 4, 3, 2, 12, 8, 7, 11, 10, 9, 22, 17, 16, 15, 21, 20, 19, 18], [28, 27, 26, 25, 24, 23, 14, 13, 6, 5, 1, 0, 4, 3, 2, 12, 8, 7, 11, 10, 9, 22, 17, 16, 15, 21, 20, 19, 18], [29, 28, 27, 26, 25, 24, 23, 14, 13, 6, 5, 1, 0, 4, 3, 2, 12, 8, 7, 11, 10, 9, 22, 17, 16, 15, 21, 20, 19, 18], [30, 29, 28, 27, 26, 25, 24, 23, 14, 13, 6, 5, 1, 0, 4, 3, 2, 12, 8, 7, 11, 10, 9, 22, 17, 16, 15, 21, 20, 19, 18], [27, 26, 25, 24, 23, 14, 13, 6, 5, 1, 0, 4, 3, 2, 12, 8, 7, 11, 10, 9, 22, 17, 16, 15, 21, 20, 19, 18, 31, 30, 29, 28], [24, 23, 14, 13, 6, 5, 1, 0, 4, 3, 2, 12, 8, 7, 11, 10, 9, 22, 17, 16, 15, 21, 20, 19, 18, 32, 27, 26, 25, 31, 30, 29, 28]] 6)
 (.cond (.t 57)
 (.seq (.region IG)
 .ret)
 .skip))
 (.seq (.seq (.regionD VY [[], [0], [], [2], [3, 2], [4, 3, 2], [1, 0, 5, 4, 3, 2], [6, 1, 0, 5, 4, 3, 2], [7, 6, 1, 0, 5, 4, 3, 2], [8, 7, 6, 1, 0, 5, 4, 3, 2], [9, 8, 7, 6, 1, 0, 5, 4, 3, 2], [10, 9, 8, 7, 6, 1, 0, 5, 4, 3, 2], [7, 6, 1, 0, 5, 4, 3, 2, 11, 10, 9, 8], [12, 7, 6, 1, 0, 5, 4, 3, 2, 11, 10, 9, 8], [13, 12, 7, 6, 1, 0, 5, 4, 3, 2, 11, 10, 9, 8], [14, 13, 12, 7, 6, 1, 0, 5, 4, 3, 2, 11, 10, 9, 8], [15, 14, 13, 12, 7, 6, 1, 0, 5, 4, 3, 2, 11, 10, 9, 8], [16, 15, 14, 13, 12, 7, 6, 1, 0, 5, 4, 3, 2, 11, 10, 9, 8], [17, 16, 15, 14, 13, 12, 7, 6, 1, 0, 5, 4, 3, 2, 11, 10, 9, 8], [18, 17, 16, 15, 14, 13, 12, 7, 6, 1, 0, 5, 4, 3, 2, 11, 10, 9, 8], [19, 18, 17, 16, 15, 14, 13, 12, 7, 6, 1, 0, 5, 4, 3, 2, 11, 10, 9, 8], [17, 16, 15, 14, 13, 12, 7, 6, 1, 0, 5, 4, 3, 2, 11, 10, 9, 8, 20, 19, 18], [13, 12, 7, 6, 1, 0, 5, 4, 3, 2, 11, 10, 9, 8, 21, 17, 16, 15, 14, 20, 19, 18], [22, 13, 12, 7, 6, 1, 0, 5, 4, 3, 2, 11, 10, 9, 8, 21, 17, 16, 15, 14, 20, 19, 18], [23, 22, 13, 12, 7, 6, 1, 0, 5, 4, 3, 2, 11, 10, 9, 8, 21, 17, 16, 15, 14, 20, 19, 18], [24, 23, 22, 13, 12, 7, 6, 1, 0, 5, 4, 3, 2, 11, 10, 9, 8, 21, 17, 16, 15, 14, 20, 19, 18], [25, 24, 23, 22, 13, 12, 7, 6, 1, 0, 5, 4, 3, 2, 11, 10, 9, 8, 21, 17, 16, 15, 14, 20, 19, 18], [23, 22, 13, 12, 7, 6, 1, 0, 5, 4, 3, 2, 11, 10, 9, 8, 21, 17, 16, 15, 14, 20, 19, 18, 26, 25, 24], [27, 23, 22, 13, 12, 7, 6, 1, 0, 5, 4, 3, 2, 11, 10, 9, 8, 21, 17, 16, 15, 14, 20, 19, 18, 26, 25, 24], [28, 27, 23, 22, 13, 12, 7, 6, 1, 0, 5, 4, 3, 2, 11, 10, 9, 8, 21, 17, 16, 15, 14, 20, 19, 18, 26, 25, 24], [29, 28, 27, 23, 22, 13, 12, 7, 6, 1, 0, 5, 4, 3, 2, 11, 10, 9, 8, 21, 17, 16, 15, 14, 20, 19, 18, 26, 25, 24], [30, 29, 28, 27, 23, 22, 13, 12, 7, 6, 1, 0, 5, 4, 3, 2, 11, 10, 9, 8, 21, 17, 16, 15, 14, 20, 19, 18, 26, 25, 24], [28, 27, 23, 22, 13, 12, 7, 6, 1, 0, 5, 4, 3, 2, 11, 10, 9, 8, 21, 17, 16, 15, 14, 20, 19, 18, 26, 25, 24, 31, 30, 29], [32, 28, 27, 23, 22, 13, 12, 7, 6, 1, 0, 5, 4, 3, 2, 11, 10, 9, 8, 21, 17, 16, 15, 14, 20, 19, 18, 26, 25, 24, 31, 30, 29], [33, 32, 28, 27, 23, 22, 13, 12, 7, 6, 1, 0, 5, 4, 3, 2, 11, 10, 9, 8, 21, 17, 16, 15, 14, 20, 19, 18, 26, 25, 24, 31, 30, 29], [34, 33, 32, 28, 27, 23, 22, 13, 12, 7, 6, 1, 0, 5, 4, 3, 2, 11, 10, 9, 8, 21, 17, 16, 15, 14, 20, 19, 18, 26, 25, 24, 31, 30, 29], [35, 34, 33, 32, 28, 27, 23, 22, 13, 12, 7, 6, 1, 0, 5, 4, 3, 2, 11, 10, 9, 8, 21, 17, 16, 15, 14, 20, 19, 18, 26, 25, 24, 31, 30, 29], [36, 35, 34, 33, 32, 28, 27, 23, 22, 13, 12, 7, 6, 1, 0, 5, 4, 3, 2, 11, 10, 9, 8, 21, 17, 16, 15, 14, 20, 19, 18, 26, 25, 24, 31, 30, 29], [37, 36, 35, 34, 33, 32, 28, 27, 23, 22, 13, 12, 7, 6, 1, 0, 5, 4, 3, 2, 11, 10, 9, 8, 21, 17, 16, 15, 14, 20, 19, 18, 26, 25, 24, 31, 30, 29], [38, 37, 36, 35, 34, 33, 32, 28, 27, 23, 22, 13, 12, 7, 6, 1, 0, 5, 4, 3, 2, 11, 10, 9, 8, 21, 17, 16, 15, 14, 20, 19, 18, 26, 25, 24, 31, 30, 29], [39, 38, 37, 36, 35, 34, 33, 32, 28, 27, 23, 22, 13, 12, 7, 6, 1, 0, 5, 4, 3, 2, 11, 10, 9, 8, 21, 17, 16, 15, 14, 20, 19, 18, 26, 25, 24, 31, 30, 29], [40, 39, 38, 37, 36, 35, 34, 33, 32, 28, 27, 23, 22, 13, 12, 7, 6, 1, 0, 5, 4, 3, 2, 11, 10, 9, 8, 21, 17, 16, 15, 14, 20, 19, 18, 26, 25, 24, 31, 30, 29], [37, 36, 35, 34, 33, 32, 28, 27, 23, 22, 13, 12, 7, 6, 1, 0, 5, 4, 3, 2, 11, 10, 9, 8, 21, 17, 16, 15, 14, 20, 19, 18, 26, 25, 24, 31, 30, 29, 41, 40, 39, 38], [33, 32, 28, 27, 23, 22, 13, 12, 7, 6, 1, 0, 5, 4, 3, 2, 11, 10, 9, 8, 21, 17, 16, 15, 14, 20, 19, 18, 26, 25, 24, 31, 30, 29, 42, 37, 36, 35, 34, 41, 40, 39, 38], [43, 33, 32, 28, 27, 23, 22, 13, 12, 7, 6, 1, 0, 5, 4, 3, 2, 11, 10, 9, 8, 21, 17, 16, 15, 14, 20, 19, 18, 26, 25, 24, 31, 30, 29, 42, 37, 36, 35, 34, 41, 40, 39, 38], [44, 43, 33, 32, 28, 27, 23, 22, 13, 12, 7, 6, 1, 0, 5, 4, 3, 2, 11, 10, 9, 8, 21, 17, 16, 15, 14, 20, 19, 18, 26, 25, 24, 31, 30, 29, 42, 37, 36, 35, 34, 41, 40, 39, 38], [45, 44, 43, 33, 32, 28, 27, 23, 22, 13, 12, 7, 6, 1, 0, 5, 4, 3, 2, 11, 10, 9, 8, 21, 17, 16, 15, 14, 20, 19, 18, 26, 25, 24, 31, 30, 29, 42, 37, 36, 35, 34, 41, 40, 39, 38], [46, 45, 44, 43, 33, 32, 28, 27, 23, 22, 13, 12, 7, 6, 1, 0, 5, 4, 3, 2, 11, 10, 9, 8, 21, 17, 16, 15, 14, 20, 19, 18, 26, 25, 24, 31, 30, 29, 42, 37, 36, 35, 34, 41, 40, 39, 38], [47, 46, 45, 44, 43, 33, 32, 28, 27, 23, 22, 13, 12, 7, 6, 1, 0, 5, 4, 3, 2, 11, 10, 9, 8, 21, 17, 16, 15, 14, 20, 19, 18, 26, 25, 24, 31, 30, 29, 42, 37, 36, 35, 34, 41, 40, 39, 38], [48, 47, 46, 45, 44, 43, 33, 32, 28, 27, 23, 22, 13, 12, 7, 6, 1, 0, 5, 4, 3, 2, 11, 10, 9, 8, 21, 17, 16, 15, 14, 20, 19, 18, 26, 25, 24, 31, 30, 29, 42, 37, 36, 35, 34, 41, 40, 39, 38], [49, 48, 47, 46, 45, 44, 43, 33, 32, 28, 27, 23, 22, 13, 12, 7, 6, 1, 0, 5, 4, 3, 2, 11, 10, 9, 8, 21, 17, 16, 15, 14, 20, 19, 18, 26, 25, 24, 31, 30, 29, 42, 37, 36, 35, 34, 41, 40, 39, 38], [50, 49, 48, 47, 46, 45, 44, 43, 33, 32, 28, 27, 23, 22, 13, 12, 7, 6, 1, 0, 5, 4, 3, 2, 11, 10, 9, 8, 21, 17, 16, 15, 14, 20, 19, 18, 26, 25, 24, 31, 30, 29, 42, 37, 36, 35, 34, 41, 40, 39, 38], [51, 50, 49, 48, 47, 46, 45, 44, 43, 33, 32, 28, 27, 23, 22, 13, 12, 7, 6, 1, 0, 5, 4, 3, 2, 11, 10, 9, 8, 21, 17, 16, 15, 14, 20, 19, 18, 26, 25, 24, 31, 30, 29, 42, 37, 36, 35, 34, 41, 40, 39, 38], [48, 47, 46, 45, 44, 43, 33, 32, 28, 27, 23, 22, 13, 12, 7, 6, 1, 0, 5, 4, 3, 2, 11, 10, 9, 8, 21, 17, 16, 15, 14, 20, 19, 18, 26, 25, 24, 31, 30, 29, 42, 37, 36, 35, 34, 41, 40, 39, 38, 52, 51, 50, 49], [44, 43, 33, 32, 28, 27, 23, 22, 13, 12, 7, 6, 1, 0, 5, 4, 3, 2, 11, 10, 9, 8, 21, 17, 16, 15, 14, 20, 19, 18, 26, 25, 24, 31, 30, 29, 42, 37, 36, 35, 34, 41, 40, 39, 38, 53, 48, 47, 46, 45, 52, 51, 50, 49]] 4)
 (.cond (.t 112)
 (.seq (.region Df)
 .ret)
 .skip))
 (.seq (.seq (.region Wj)
 (.block 0 (.loop TM)))
 (.seq (.region S4)
 (.seq (.region U2)
 (.seq (.seq (.region SW)
 (.cond (.t 179)
 (.seq (.region OD)
 .ret)
 .skip))
 (.seq (.seq (.region UG)
 (.block 4 (.loop Vj)))
 (.seq (.region Tc)
 .ret))))))))))))
theorem AJ6 : Fn PR NE 200 Am6 [.tmp 2] := ⟨fun vs w => Try.call44 vs w, Try.f44, _, Try.func44, rfl, rfl, by kernel_rfl, by kernel_rfl⟩
def O6 : List XI := [J 2 (.move (.c (.d (.bool false))))]
def MY : List XI := [J 3 (.move (.t 0)), J 4 (.nilCheck (.t 3)), J 5 (.fieldAddr 0 (.t 4)), J 6 (.load false 1 (.t 5)), J 7 (.bin .geq (.t 6) (.c (.d (.int .i64 1000)))), J 8 (.move (.t 7)), Jf 9 8 (.move (.t 0)), Jf 10 8 (.nilCheck (.t 9)), Jf 11 8 (.fieldAddr 1 (.t 10)), Jf 12 8 (.load false 1 (.t 11)), Jf 13 8 (.bin .geq (.t 12) (.c (.d (.int .i64 1000)))), J 14 (.pick (.t 8) (.c (.d (.bool true))) (.t 13))]
def Jm : List XI := [J 2 (.move (.t 14))]
def PE : List XI := MY ++ (Jm)
def S8 : XC :=
 (.seq (.region O6)
 (.seq (.region PE)
 .ret))
theorem Ai9 : Fn PR IU 15 S8 [.tmp 2] := ⟨fun vs w => Try.call45 vs w, Try.f45, _, Try.func45, rfl, rfl, by kernel_rfl, by kernel_rfl⟩
def QG : List XI := [J 3 (.box (.t 1))]
def QV : List XI := [J 4 (.move (.t 0)), J 5 (.move (.t 0)), J 6 (.move (.t 0)), J 7 (.nilCheck (.t 6)), J 8 (.fieldAddr 0 (.t 7)), J 9 (.load false 1 (.t 8)), J 10 (.fieldAddr 0 (.t 3)), J 11 (.load false 1 (.t 10)), J 12 (.bin .add (.t 9) (.t 11)), J 13 (.minmax false (.t 12) [(.c (.d (.int .i64 1000)))]), J 14 (.move (.t 0)), J 15 (.nilCheck (.t 14)), J 16 (.fieldAddr 1 (.t 15)), J 17 (.load false 1 (.t 16)), J 18 (.fieldAddr 1 (.t 3)), J 19 (.load false 1 (.t 18)), J 20 (.minmax true (.t 17) [(.t 19)]), J 21 (.nilCheck (.t 4)), J 22 (.fieldAddr 0 (.t 21)), { dst := none, op := .store 1 (.t 22) (.t 13) }, J 23 (.nilCheck (.t 5)), J 24 (.fieldAddr 1 (.t 23)), { dst := none, op := .store 1 (.t 24) (.t 20) }]
def We : XC :=
 (.seq (.region QG)
 (.regionD QV [[], [], [], [2], [3, 2], [4, 3, 2], [], [6], [5, 4, 3, 2, 7, 6], [8, 5, 4, 3, 2, 7, 6], [], [10], [11, 10], [12, 11, 10], [], [14], [13, 12, 11, 10, 15, 14], [0, 2, 3, 4, 5, 6, 7, 8, 9, 13, 12, 11, 10], [17, 0, 2, 3, 4, 5, 6, 7, 8, 9, 13, 12, 11, 10], [18, 17, 0, 2, 3, 4, 5, 6, 7, 8, 9, 13, 12, 11, 10], [1, 0, 2, 3, 4, 5, 6, 7, 8, 9, 10, 11, 12, 13, 14, 15, 16, 17, 18, 19], [20, 1, 0, 2, 3, 4, 5, 6, 7, 8, 9, 10, 11, 12, 13, 14, 15, 16, 17, 18, 19], [21, 20, 1, 0, 2, 3, 4, 5, 6, 7, 8, 9, 10, 11, 12, 13, 14, 15, 16, 17, 18, 19]] 0))
theorem Am3 : Fn PR IK 25 We [] := ⟨fun vs w => Try.call46 vs w, Try.f46, _, Try.func46, rfl, rfl, by kernel_rfl, by kernel_rfl⟩
def Lq : List XI := [J 6 (.alloc [(.d (.int .i64 0)), (.d (.int .i64 0))])]
def LR : List XI := [J 7 (.alloc [(.d (.int .i64 0)), (.d (.int .i64 0))])]
def LW : List XI := [J 10 (.move (.t 0)), J 11 (.lenR (.t 10)), J 12 (.move (.c (.d (.int .i64 0))))]
def Lv : List XI := [J 13 (.bin .lss (.t 12) (.t 11))]
def Lw : List XI := [J 14 (.indexAddr 6 (.t 10) (.t 12)), J 15 (.load true 6 (.t 14)), J 9 (.alloc [(.d (.int .i64 0)), (.d (.int .i64 0)), (.d (.str ⟨#[]⟩)), (.d (.str ⟨#[]⟩)), (.d (.str ⟨#[]⟩)), (.ex [])]), { dst := none, op := .store 6 (.t 9) (.t 15) }]
def L8 : List XI := [J 16 (.call IU [(.t 7)]), J 17 (.move (.t 16)), Jf 18 17 (.move (.t 1)), Jf 19 17 (.bin .geq (.t 18) (.c (.d (.int .i64 1000)))), J 20 (.pick (.t 17) (.c (.d (.bool true))) (.t 19))]
def L1 : List XI := [J 21 (.build [(.d (.int .i64 0)), (.d (.int .i64 0))] [(0, 1, (.c (.d (.int .i64 1000)))), (1, 1, (.c (.d (.int .i64 1000))))]), { dst := none, op := .store 2 (.t 6) (.t 21) }]
def Lk : List XI := [J 22 (.move (.t 2)), J 23 (.load true 6 (.t 9)), J 24 (.move (.t 1)), J 25 (.dyn (.t 22) [(.t 23), (.t 24)]), J 26 (.call IK [(.t 7), (.t 25)])]
def LL : List XI := [J 27 (.bin .add (.t 12) (.c (.d (.int .i64 1)))), J 12 (.move (.t 27))]
def Ly : XC :=
 (.seq (.region Lv)
 (.seq (.cond (.t 13)
 .skip
 (.exit 0))
 (.seq (.block 1 (.seq (.region Lw)
 (.seq (.seq (.region L8)
 (.cond (.t 20)
 (.seq (.region L1)
 .ret)
 .skip))
 (.region Lk))))
 (.region LL))))
def KS : List XI := [J 28 (.load true 2 (.t 7)), { dst := none, op := .store 2 (.t 6) (.t 28) }]
def Pj : XC :=
 (.seq (.region Lq)
 (.seq (.region LR)
 (.seq (.seq (.region LW)
 (.block 0 (.loop Ly)))
 (.seq (.region KS)
 .ret))))
theorem Xj : Fn PR Iq 29 Pj [.cell 6 true 2] := ⟨fun vs w => Try.call47 vs w, Try.f47, _, Try.func47, rfl, rfl, by kernel_rfl, by kernel_rfl⟩
def Re : List XI := [J 2 (.box (.t 0)), J 4 (.alloc [(.d (.int .i64 0)), (.d (.int .i64 0))])]
def QA : List XI := [J 5 (.fieldAddr 5 (.t 2)), J 6 (.load false 1 (.t 5)), J 7 (.move (.t 1)), J 8 (.bin .add (.t 7) (.c (.d (.int .i64 1)))), J 9 (.call Iq [(.t 6), (.t 8), (.c (.fn Hx [] []))]), J 10 (.call Xs [(.t 9)]), { dst := none, op := .store 2 (.t 4) (.t 10) }]
def W5 : XC :=
 (.seq (.region Re)
 (.seq (.region QA)
 .ret))
theorem Aq4 : Fn PR Hx 11 W5 [.cell 4 true 2] := ⟨fun vs w => Try.call48 vs w, Try.f48, _, Try.func48, rfl, rfl, by kernel_rfl, by kernel_rfl⟩
def Zv : List XI := [J 1 (.box (.t 0)), J 2 (.alloc [(.d (.int .i64 0)), (.d (.int .i64 0))])]
def Zo : List XI := [J 3 (.fieldAddr 0 (.t 1)), J 4 (.load false 1 (.t 3)), J 5 (.bin .add (.t 4) (.c (.d (.int .i64 1)))), J 6 (.minmax false (.t 5) [(.c (.d (.int .i64 1000)))]), J 7 (.fieldAddr 1 (.t 1)), J 8 (.load false 1 (.t 7)), J 9 (.bin .add (.t 8) (.c (.d (.int .i64 1)))), J 10 (.minmax false (.t 9) [(.c (.d (.int .i64 1000)))]), J 11 (.build [(.d (.int .i64 0)), (.d (.int .i64 0))] [(0, 1, (.t 6)), (1, 1, (.t 10))]), { dst := none, op := .store 2 (.t 2) (.t 11) }]
def Az2 : XC :=
 (.seq (.region Zv)
 (.seq (.region Zo)
 .ret))
theorem AL8 : Fn PR Xs 12 Az2 [.cell 2 true 2] := ⟨fun vs w => Try.call49 vs w, Try.f49, _, Try.func49, rfl, rfl, by kernel_rfl, by kernel_rfl⟩
def Ps : List XI := [J 2 (.box (.t 0)), J 3 (.box (.t 1))]
def Pa : List XI := [J 8 (.fieldAddr 0 (.t 3)), J 9 (.load false 1 (.t 8))]
def O0 : List XI := [J 11 (.bin .eql (.t 9) (.c (.d (.int .i64 4)))), J 10 (.move (.t 11))]
def PB : List XI := [J 12 (.bin .eql (.t 9) (.c (.d (.int .i64 5)))), J 10 (.move (.t 12))]
def Py : List XI := [J 13 (.fieldAddr 0 (.t 2)), J 14 (.load false 1 (.t 13)), J 15 (.fieldAddr 2 (.t 3)), J 16 (.load false 1 (.t 15)), J 17 (.fieldAddr 1 (.t 2)), J 18 (.load false 1 (.t 17)), J 19 (.fieldAddr 2 (.t 3)), J 20 (.load false 1 (.t 19)), { dst := none, op := .mapSet AD AU (.t 14) (.t 16) (.c (.d (.bool true))) }, { dst := none, op := .mapSet AD AU (.t 18) (.t 20) (.c (.d (.bool true))) }]
def O3 : List XI := [J 22 (.bin .eql (.t 9) (.c (.d (.int .i64 6)))), J 21 (.move (.t 22))]
def Pv : List XI := [J 23 (.fieldAddr 0 (.t 2)), J 24 (.load false 1 (.t 23)), J 25 (.fieldAddr 2 (.t 3)), J 26 (.load false 1 (.t 25)), { dst := none, op := .mapSet AD AU (.t 24) (.t 26) (.c (.d (.bool true))) }]
def Pp : List XI := [J 28 (.bin .eql (.t 9) (.c (.d (.int .i64 3)))), J 27 (.move (.t 28))]
def Pb : List XI := [J 29 (.fieldAddr 1 (.t 2)), J 30 (.load false 1 (.t 29)), J 31 (.fieldAddr 2 (.t 3)), J 32 (.load false 1 (.t 31)), { dst := none, op := .mapSet AD AU (.t 30) (.t 32) (.c (.d (.bool true))) }]
def Pu : List XI := [J 34 (.bin .eql (.t 9) (.c (.d (.int .i64 8)))), J 33 (.move (.t 34))]
def NT : List XI := [J 35 (.fieldAddr 2 (.t 2)), J 36 (.load false 1 (.t 35)), J 37 (.fieldAddr 2 (.t 3)), J 38 (.load false 1 (.t 37)), { dst := none, op := .mapSet AD AU (.t 36) (.t 38) (.c (.d (.bool true))) }]
def Og : List XI := [J 39 (.fieldAddr 5 (.t 3)), J 40 (.load false 1 (.t 39)), J 41 (.lenR (.t 40)), J 42 (.move (.c (.d (.int .i64 0))))]
def NS : List XI := [J 43 (.bin .lss (.t 42) (.t 41))]
def NQ : List XI := [J 44 (.indexAddr 6 (.t 40) (.t 42)), J 45 (.load true 6 (.t 44)), J 5 (.alloc [(.d (.int .i64 0)), (.d (.int .i64 0)), (.d (.str ⟨#[]⟩)), (.d (.str ⟨#[]⟩)), (.d (.str ⟨#[]⟩)), (.ex [])]), { dst := none, op := .store 6 (.t 5) (.t 45) }]
def Oh : List XI := [J 46 (.load true 3 (.t 2)), J 47 (.load true 6 (.t 5)), J 48 (.call GO [(.t 46), (.t 47)])]
def Ob : List XI := [J 49 (.bin .add (.t 42) (.c (.d (.int .i64 1)))), J 42 (.move (.t 49))]
def Oe : XC :=
 (.seq (.region NS)
 (.seq (.cond (.t 43)
 .skip
 (.exit 1))
 (.seq (.block 2 (.seq (.region NQ)
 (.region Oh)))
 (.region Ob))))
def NN : List XI := [J 50 (.fieldAddr 6 (.t 3)), J 51 (.load false 1 (.t 50)), J 52 (.call DA [(.t 51)]), J 53 (.fieldAddr 7 (.t 3)), J 54 (.load false 1 (.t 53)), { dst := some 55, op := .append AO 8 144 (.t 52) (.t 54), nm := 1 }, J 56 (.lenR (.t 55)), J 57 (.move (.c (.d (.int .i64 0))))]
def NC : List XI := [J 58 (.bin .lss (.t 57) (.t 56))]
def NZ : List XI := [J 59 (.indexAddr 8 (.t 55) (.t 57)), J 60 (.load true 8 (.t 59)), J 7 (.alloc [(.d (.int .i64 0)), (.d (.str ⟨#[]⟩)), (.d (.str ⟨#[]⟩)), (.d (.int .i64 0)), (.ex []), (.ex []), (.ex []), (.ex [])]), { dst := none, op := .store 8 (.t 7) (.t 60) }]
def Ov : List XI := [J 61 (.load true 3 (.t 2)), J 62 (.load true 8 (.t 7)), J 63 (.call GR [(.t 61), (.t 62)])]
def NU : List XI := [J 64 (.bin .add (.t 57) (.c (.d (.int .i64 1)))), J 57 (.move (.t 64))]
def Nq : XC :=
 (.seq (.region NC)
 (.seq (.cond (.t 58)
 .skip
 (.exit 3))
 (.seq (.block 4 (.seq (.region NZ)
 (.region Ov)))
 (.region NU))))
def Ub : XC :=
 (.seq (.region Ps)
 (.seq (.seq (.region Pa)
 (.block 0 (.seq (.seq (.region O0)
 (.cond (.t 10)
 .skip
 (.region PB)))
 (.cond (.t 10)
 (.regionD Py [[], [0], [], [2], [], [4], [], [6], [1, 0, 3, 2], [5, 4, 7, 6, 8, 1, 0, 3, 2]] 0)
 (.seq (.region O3)
 (.cond (.t 21)
 (.region Pv)
 (.seq (.region Pp)
 (.cond (.t 27)
 (.region Pb)
 (.seq (.region Pu)
 (.cond (.t 33)
 (.region NT)
 .skip))))))))))
 (.seq (.seq (.region Og)
 (.block 1 (.loop Oe)))
 (.seq (.regionD NN [[], [0], [1, 0], [], [3], [2, 1, 0, 4, 3], [5, 2, 1, 0, 4, 3], []] 2)
 (.block 3 (.loop Nq))))))
theorem Ah5 : Fn PR GR 65 Ub [] := ⟨fun vs w => Try.call53 vs w, Try.f53, _, Try.func53, rfl, rfl, by kernel_rfl, by kernel_rfl⟩
def SR : List XI := [J 6 (.move (.c (.d (.bool false))))]
def Rj : List XI := [J 7 (.move (.t 0)), J 8 (.move (.t 1)), J 9 (.bin .geq (.t 7) (.t 8)), J 10 (.move (.t 9)), Jt 11 10 (.move (.t 0)), Jt 12 10 (.move (.t 2)), Jt 13 10 (.bin .leq (.t 11) (.t 12)), J 14 (.pick (.t 10) (.t 13) (.c (.d (.bool false))))]
def LT : List XI := [J 6 (.move (.t 14))]
def Tv : List XI := Rj ++ (LT)
def Ae6 : XC :=
 (.seq (.region SR)
 (.seq (.region Tv)
 .ret))
theorem AD8 : Fn PR JN 15 Ae6 [.tmp 6] := ⟨fun vs w => Try.call54 vs w, Try.f54, _, Try.func54, rfl, rfl, by kernel_rfl, by kernel_rfl⟩
def Dy : List XI := [J 4 (.move (.c (.d (.bool false))))]
def Dw : List XI := [J 5 (.move (.t 0)), J 6 (.move (.t 1)), J 7 (.call Dc [(.t 5), (.t 6)]), J 8 (.bin .geq (.t 7) (.c (.d (.int .i64 0)))), J 4 (.move (.t 8))]
def En : XC :=
 (.seq (.region Dy)
 (.seq (.region Dw)
 .ret))
theorem Hn : Fn PR CV 9 En [.tmp 4] := ⟨fun vs w => Try.call56 vs w, Try.f56, _, Try.func56, rfl, rfl, by kernel_rfl, by kernel_rfl⟩
def Q7 : List XI := [J 1 (.box (.t 0)), J 2 (.move (.c (.d (.bool false))))]
def Rg : List XI := [J 3 (.load true 8 (.t 1)), J 4 (.call LA [(.t 3)]), J 5 (.not (.t 4)), J 2 (.move (.t 5))]
def Ww : XC :=
 (.seq (.region Q7)
 (.seq (.region Rg)
 .ret))
theorem Al8 : Fn PR Hq 6 Ww [.tmp 2] := ⟨fun vs w => Try.call57 vs w, Try.f57, _, Try.func57, rfl, rfl, by kernel_rfl, by kernel_rfl⟩
def Xc : List XI := [J 1 (.box (.t 0)), J 2 (.move (.c (.d (.bool false))))]
def RF : List XI := [J 3 (.load true 8 (.t 1)), J 4 (.call YC [(.t 3)]), J 5 (.move (.t 4)), Jt 6 5 (.fieldAddr 5 (.t 1)), Jt 7 5 (.load false 1 (.t 6)), Jt 8 5 (.call B0 [(.t 7), (.c (.fn Sq [] []))]), Jt 9 5 (.not (.t 8)), J 10 (.pick (.t 5) (.t 9) (.c (.d (.bool false))))]
def RW : List XI := [J 11 (.move (.t 10)), Jt 12 11 (.fieldAddr 6 (.t 1)), Jt 13 11 (.load false 1 (.t 12)), Jt 14 11 (.call G7 [(.t 13)]), J 15 (.pick (.t 11) (.t 14) (.c (.d (.bool false))))]
def RX : List XI := [J 16 (.move (.t 15)), Jt 17 16 (.fieldAddr 7 (.t 1)), Jt 18 16 (.load false 1 (.t 17)), Jt 19 16 (.call G7 [(.t 18)]), J 20 (.pick (.t 16) (.t 19) (.c (.d (.bool false))))]
def M9 : List XI := [J 2 (.move (.t 20))]
def VV : List XI := RF ++ (RW ++ (RX ++ (M9)))
def An0 : XC :=
 (.seq (.region Xc)
 (.seq (.region VV)
 .ret))
theorem AF3 : Fn PR LA 21 An0 [.tmp 2] := ⟨fun vs w => Try.call58 vs w, Try.f58, _, Try.func58, rfl, rfl, by kernel_rfl, by kernel_rfl⟩
def Ll : List XI := [J 2 (.move (.c (.d (.bool false))))]
def Kl : List XI := [J 3 (.move (.t 0)), J 4 (.bin .geq (.t 3) (.c (.d (.int .u8 97)))), J 5 (.move (.t 4)), Jt 6 5 (.move (.t 0)), Jt 7 5 (.bin .leq (.t 6) (.c (.d (.int .u8 122)))), J 8 (.pick (.t 5) (.t 7) (.c (.d (.bool false))))]
def Hy : List XI := [J 2 (.move (.t 8))]
def L0 : List XI := Kl ++ (Hy)
def Pl : XC :=
 (.seq (.region Ll)
 (.seq (.region L0)
 .ret))
theorem Xg : Fn PR Is 9 Pl [.tmp 2] := ⟨fun vs w => Try.call59 vs w, Try.f59, _, Try.func59, rfl, rfl, by kernel_rfl, by kernel_rfl⟩
def OA : List XI := [J 2 (.move (.c (.d (.bool false))))]
def LX : List XI := [J 3 (.move (.t 0)), J 4 (.call Is [(.t 3)]), J 5 (.move (.t 4)), Jf 6 5 (.move (.t 0)), Jf 7 5 (.bin .geq (.t 6) (.c (.d (.int .u8 48)))), Jf 8 5 (.move (.t 7)), Jt 9 8 (.move (.t 0)), Jt 10 8 (.bin .leq (.t 9) (.c (.d (.int .u8 57)))), Jf 11 5 (.pick (.t 8) (.t 10) (.c (.d (.bool false)))), J 12 (.pick (.t 5) (.c (.d (.bool true))) (.t 11))]
def GS : List XI := [J 13 (.move (.t 12)), Jf 14 13 (.move (.t 0)), Jf 15 13 (.bin .eql (.t 14) (.c (.d (.int .u8 95)))), J 16 (.pick (.t 13) (.c (.d (.bool true))) (.t 15))]
def Fs : List XI := [J 2 (.move (.t 16))]
def Nu : List XI := LX ++ (GS ++ (Fs))
def RY : XC :=
 (.seq (.region OA)
 (.seq (.region Nu)
 .ret))
theorem Aa3 : Fn PR Nf 17 RY [.tmp 2] := ⟨fun vs w => Try.call60 vs w, Try.f60, _, Try.func60, rfl, rfl, by kernel_rfl, by kernel_rfl⟩
def Ap2 : List XI := [J 4 (.move (.c (.d (.bool false))))]
def Aq0 : List XI := [J 5 (.move (.c (.d (.int .i64 0))))]
def Am8 : List XI := [J 6 (.move (.t 5)), J 7 (.move (.t 0)), J 8 (.lenS (.t 7)), J 9 (.bin .lss (.t 6) (.t 8))]
def Ak7 : List XI := [J 12 (.move (.t 0)), J 13 (.move (.t 5)), J 14 (.indexStr (.t 12) (.t 13)), J 15 (.move (.t 1)), J 16 (.bin .eql (.t 14) (.t 15))]
def Al0 : List XI := [J 4 (.move (.c (.d (.bool true))))]
def Am4 : List XI := [J 10 (.move (.t 5)), J 11 (.bin .add (.t 10) (.c (.d (.int .i64 1)))), J 5 (.move (.t 11))]
def Al1 : XC :=
 (.seq (.seq (.region Am8)
 (.cond (.t 9)
 .skip
 (.exit 0)))
 (.seq (.block 1 (.seq (.region Ak7)
 (.cond (.t 16)
 (.seq (.region Al0)
 .ret)
 .skip)))
 (.region Am4)))
def Ar8 : List XI := [J 4 (.move (.c (.d (.bool false))))]
def AO3 : XC :=
 (.seq (.region Ap2)
 (.seq (.seq (.region Aq0)
 (.block 0 (.loop Al1)))
 (.seq (.region Ar8)
 .ret)))
theorem AS3 : Fn PR RM 17 AO3 [.tmp 4] := ⟨fun vs w => Try.call61 vs w, Try.f61, _, Try.func61, rfl, rfl, by kernel_rfl, by kernel_rfl⟩
def Pq : List XI := [J 1 (.box (.t 0)), J 2 (.move (.c (.d (.bool false))))]
def Ph : List XI := [J 6 (.fieldAddr 0 (.t 1)), J 7 (.load false 1 (.t 6)), J 8 (.build [(.d (.int .i64 0)), (.d (.int .i64 0)), (.d (.str ⟨#[]⟩)), (.d (.str ⟨#[]⟩)), (.d (.str ⟨#[]⟩)), (.ex [])] [(0, 1, (.t 7))]), J 3 (.alloc [(.d (.int .i64 0)), (.d (.int .i64 0)), (.d (.str ⟨#[]⟩)), (.d (.str ⟨#[]⟩)), (.d (.str ⟨#[]⟩)), (.ex [])]), { dst := none, op := .store 6 (.t 3) (.t 8) }]
def O8 : List XI := [J 4 (.move (.c (.d (.int .i64 0))))]
def Pf : List XI := [J 10 (.fieldAddr 0 (.t 1)), J 11 (.load false 1 (.t 10)), J 12 (.bin .eql (.t 11) (.c (.d (.int .i64 1)))), J 9 (.move (.t 12))]
def O7 : List XI := [J 13 (.fieldAddr 1 (.t 1)), J 14 (.load false 1 (.t 13)), J 15 (.minmax true (.t 14) [(.c (.d (.int .i64 0)))]), J 16 (.fieldAddr 1 (.t 3)), { dst := none, op := .store 1 (.t 16) (.t 15) }]
def O5 : List XI := [J 18 (.fieldAddr 0 (.t 1)), J 19 (.load false 1 (.t 18)), J 20 (.bin .eql (.t 19) (.c (.d (.int .i64 2)))), J 17 (.move (.t 20))]
def O2 : List XI := [J 21 (.fieldAddr 2 (.t 1)), J 22 (.load false 1 (.t 21)), J 23 (.fieldAddr 2 (.t 3)), { dst := none, op := .store 1 (.t 23) (.t 22) }]
def Pd : List XI := [J 24 (.fieldAddr 2 (.t 1)), J 25 (.load false 1 (.t 24)), J 26 (.lenS (.t 25)), J 27 (.bin .gtr (.t 26) (.c (.d (.int .i64 200))))]
def O1 : List XI := [J 2 (.move (.c (.d (.bool false))))]
def PF : List XI := [J 29 (.fieldAddr 0 (.t 1)), J 30 (.load false 1 (.t 29)), J 31 (.bin .eql (.t 30) (.c (.d (.int .i64 3)))), J 28 (.move (.t 31))]
def NK : List XI := [J 32 (.fieldAddr 1 (.t 1)), J 33 (.load false 1 (.t 32)), J 34 (.minmax true (.t 33) [(.c (.d (.int .i64 0)))]), J 35 (.minmax false (.t 34) [(.c (.d (.int .i64 1)))]), J 36 (.fieldAddr 1 (.t 3)), { dst := none, op := .store 1 (.t 36) (.t 35) }]
def LC : List XI := [J 38 (.fieldAddr 0 (.t 1)), J 39 (.load false 1 (.t 38)), J 40 (.bin .eql (.t 39) (.c (.d (.int .i64 4)))), J 41 (.move (.t 40)), Jf 42 41 (.fieldAddr 0 (.t 1)), Jf 43 41 (.load false 1 (.t 42)), Jf 44 41 (.bin .eql (.t 43) (.c (.d (.int .i64 5)))), J 45 (.pick (.t 41) (.c (.d (.bool true))) (.t 44))]
def LO : List XI := [J 46 (.move (.t 45)), Jf 47 46 (.fieldAddr 0 (.t 1)), Jf 48 46 (.load false 1 (.t 47)), Jf 49 46 (.bin .geq (.t 48) (.c (.d (.int .i64 21)))), Jf 50 46 (.move (.t 49)), Jt 51 50 (.fieldAddr 0 (.t 1)), Jt 52 50 (.load false 1 (.t 51)), Jt 53 50 (.bin .leq (.t 52) (.c (.d (.int .i64 24)))), Jf 54 46 (.pick (.t 50) (.t 53) (.c (.d (.bool false)))), J 55 (.pick (.t 46) (.c (.d (.bool true))) (.t 54))]
def GN : List XI := [J 37 (.move (.t 55))]
def Ok : List XI := LC ++ (LO ++ (GN))
def Nz : List XI := [J 56 (.fieldAddr 3 (.t 1)), J 57 (.load false 1 (.t 56)), J 58 (.fieldAddr 3 (.t 3)), { dst := none, op := .store 1 (.t 58) (.t 57) }]
def NP : List XI := [J 59 (.fieldAddr 3 (.t 1)), J 60 (.load false 1 (.t 59)), J 61 (.call Jh [(.t 60)]), J 62 (.not (.t 61))]
def NL : List XI := [J 2 (.move (.c (.d (.bool false))))]
def NI : List XI := [J 63 (.fieldAddr 0 (.t 1)), J 64 (.load false 1 (.t 63)), J 65 (.bin .eql (.t 64) (.c (.d (.int .i64 5))))]
def Nt : List XI := [J 66 (.fieldAddr 2 (.t 1)), J 67 (.load false 1 (.t 66)), J 68 (.fieldAddr 2 (.t 3)), { dst := none, op := .store 1 (.t 68) (.t 67) }]
def No : List XI := [J 69 (.fieldAddr 2 (.t 1)), J 70 (.load false 1 (.t 69)), J 71 (.call Jh [(.t 70)]), J 72 (.not (.t 71))]
def ND : List XI := [J 2 (.move (.c (.d (.bool false))))]
def Ot : List XI := [J 73 (.fieldAddr 0 (.t 1)), J 74 (.load false 1 (.t 73)), J 75 (.bin .gtr (.t 74) (.c (.d (.int .i64 5))))]
def Om : List XI := [J 76 (.fieldAddr 4 (.t 1)), J 77 (.load false 1 (.t 76)), J 78 (.fieldAddr 4 (.t 3)), { dst := none, op := .store 1 (.t 78) (.t 77) }]
def Od : List XI := [J 4 (.move (.c (.d (.int .i64 2))))]
def NH : List XI := [J 79 (.fieldAddr 0 (.t 1)), J 80 (.load false 1 (.t 79)), J 81 (.bin .eql (.t 80) (.c (.d (.int .i64 21))))]
def NX : List XI := [J 4 (.move (.c (.d (.int .i64 1))))]
def NF : List XI := [J 82 (.fieldAddr 4 (.t 1)), J 83 (.load false 1 (.t 82)), J 84 (.call Jh [(.t 83)]), J 85 (.not (.t 84))]
def NY : List XI := [J 2 (.move (.c (.d (.bool false))))]
def Mb : List XI := [J 87 (.fieldAddr 0 (.t 1)), J 88 (.load false 1 (.t 87)), J 89 (.bin .geq (.t 88) (.c (.d (.int .i64 6)))), J 90 (.move (.t 89)), Jt 91 90 (.fieldAddr 0 (.t 1)), Jt 92 90 (.load false 1 (.t 91)), Jt 93 90 (.bin .leq (.t 92) (.c (.d (.int .i64 18)))), J 94 (.pick (.t 90) (.t 93) (.c (.d (.bool false))))]
def Iy : List XI := [J 86 (.move (.t 94))]
def Oz : List XI := Mb ++ (Iy)
def Nx : List XI := [J 4 (.move (.c (.d (.int .i64 2))))]
def Lp : List XI := [J 96 (.fieldAddr 0 (.t 1)), J 97 (.load false 1 (.t 96)), J 98 (.bin .eql (.t 97) (.c (.d (.int .i64 19)))), J 99 (.move (.t 98)), Jf 100 99 (.fieldAddr 0 (.t 1)), Jf 101 99 (.load false 1 (.t 100)), Jf 102 99 (.bin .eql (.t 101) (.c (.d (.int .i64 20)))), J 103 (.pick (.t 99) (.c (.d (.bool true))) (.t 102))]
def Ix : List XI := [J 95 (.move (.t 103))]
def Nr : List XI := Lp ++ (Ix)
def JG : List XI := [J 4 (.move (.c (.d (.int .i64 1))))]
def NB : List XI := [J 2 (.move (.c (.d (.bool false))))]
def LG : List XI := [J 104 (.fieldAddr 1 (.t 1)), J 105 (.load false 1 (.t 104)), J 106 (.fieldAddr 1 (.t 3)), J 107 (.load false 1 (.t 106)), J 108 (.bin .neq (.t 105) (.t 107)), J 109 (.move (.t 108)), Jf 110 109 (.fieldAddr 2 (.t 1)), Jf 111 109 (.load false 1 (.t 110)), Jf 112 109 (.fieldAddr 2 (.t 3)), Jf 113 109 (.load false 1 (.t 112)), Jf 114 109 (.bin .neq (.t 111) (.t 113)), J 115 (.pick (.t 109) (.c (.d (.bool true))) (.t 114))]
def L4 : List XI := [J 116 (.move (.t 115)), Jf 117 116 (.fieldAddr 3 (.t 1)), Jf 118 116 (.load false 1 (.t 117)), Jf 119 116 (.fieldAddr 3 (.t 3)), Jf 120 116 (.load false 1 (.t 119)), Jf 121 116 (.bin .neq (.t 118) (.t 120)), J 122 (.pick (.t 116) (.c (.d (.bool true))) (.t 121))]
def LJ : List XI := [J 123 (.move (.t 122)), Jf 124 123 (.fieldAddr 4 (.t 1)), Jf 125 123 (.load false 1 (.t 124)), Jf 126 123 (.fieldAddr 4 (.t 3)), Jf 127 123 (.load false 1 (.t 126)), Jf 128 123 (.bin .neq (.t 125) (.t 127)), J 129 (.pick (.t 123) (.c (.d (.bool true))) (.t 128))]
def Lj : List XI := [J 130 (.move (.t 129)), Jf 131 130 (.fieldAddr 5 (.t 1)), Jf 132 130 (.load false 1 (.t 131)), Jf 133 130 (.lenR (.t 132)), Jf 134 130 (.move (.t 4)), Jf 135 130 (.bin .neq (.t 133) (.t 134)), J 136 (.pick (.t 130) (.c (.d (.bool true))) (.t 135))]
def Oa : List XI := LG ++ (L4 ++ (LJ ++ (Lj)))
def NM : List XI := [J 2 (.move (.c (.d (.bool false))))]
def N8 : List XI := [J 5 (.move (.c (.d (.int .i64 0))))]
def Oc : List XI := [J 137 (.move (.t 5)), J 138 (.move (.t 4)), J 139 (.bin .lss (.t 137) (.t 138))]
def NW : List XI := [J 142 (.fieldAddr 5 (.t 1)), J 143 (.load false 1 (.t 142)), J 144 (.move (.t 5)), J 145 (.indexAddr 6 (.t 143) (.t 144)), J 146 (.load true 6 (.t 145)), J 147 (.call GM [(.t 146)]), J 148 (.not (.t 147))]
def Ow : List XI := [J 2 (.move (.c (.d (.bool false))))]
def Ox : List XI := [J 140 (.move (.t 5)), J 141 (.bin .add (.t 140) (.c (.d (.int .i64 1)))), J 5 (.move (.t 141))]
def Ol : XC :=
 (.seq (.seq (.region Oc)
 (.cond (.t 139)
 .skip
 (.exit 1)))
 (.seq (.block 2 (.seq (.region NW)
 (.cond (.t 148)
 (.seq (.region Ow)
 .ret)
 .skip)))
 (.region Ox)))
def NJ : List XI := [J 2 (.move (.c (.d (.bool true))))]
def Tn : XC :=
 (.seq (.region Pq)
 (.seq (.region Ph)
 (.seq (.region O8)
 (.seq (.block 0 (.seq (.region Pf)
 (.cond (.t 9)
 (.region O7)
 (.seq (.region O5)
 (.cond (.t 17)
 (.seq (.region O2)
 (.seq (.region Pd)
 (.cond (.t 27)
 (.seq (.region O1)
 .ret)
 .skip)))
 (.seq (.region PF)
 (.cond (.t 28)
 (.region NK)
 (.seq (.region Ok)
 (.cond (.t 37)
 (.seq (.region Nz)
 (.seq (.seq (.region NP)
 (.cond (.t 62)
 (.seq (.region NL)
 .ret)
 .skip))
 (.seq (.seq (.region NI)
 (.cond (.t 65)
 (.seq (.region Nt)
 (.seq (.region No)
 (.cond (.t 72)
 (.seq (.region ND)
 .ret)
 .skip)))
 .skip))
 (.seq (.region Ot)
 (.cond (.t 75)
 (.seq (.region Om)
 (.seq (.region Od)
 (.seq (.seq (.region NH)
 (.cond (.t 81)
 (.region NX)
 .skip))
 (.seq (.region NF)
 (.cond (.t 85)
 (.seq (.region NY)
 .ret)
 .skip)))))
 .skip)))))
 (.seq (.region Oz)
 (.cond (.t 86)
 (.region Nx)
 (.seq (.region Nr)
 (.cond (.t 95)
 (.region JG)
 (.seq (.region NB)
 .ret))))))))))))))
 (.seq (.seq (.region Oa)
 (.cond (.t 136)
 (.seq (.region NM)
 .ret)
 .skip))
 (.seq (.seq (.region N8)
 (.block 1 (.loop Ol)))
 (.seq (.region NJ)
 .ret)))))))
theorem Ak0 : Fn PR GM 149 Tn [.tmp 2] := ⟨fun vs w => Try.call62 vs w, Try.f62, _, Try.func62, rfl, rfl, by kernel_rfl, by kernel_rfl⟩
def Pz : List XI := [J 2 (.box (.t 0)), J 3 (.box (.t 1))]
def Pc : List XI := [J 9 (.fieldAddr 0 (.t 3)), J 10 (.load false 1 (.t 9)), J 11 (.call U8 [(.t 10)]), J 8 (.move (.t 11)), J 12 (.extract (.t 8) 0), J 13 (.extract (.t 8) 1), J 4 (.move (.t 12)), J 5 (.move (.t 13))]
def OZ : List XI := [J 14 (.move (.t 5))]
def Pn : List XI := [J 15 (.fieldAddr 0 (.t 2)), J 16 (.load false 1 (.t 15)), J 17 (.fieldAddr 4 (.t 3)), J 18 (.load false 1 (.t 17)), { dst := none, op := .mapSet AD AU (.t 16) (.t 18) (.c (.d (.bool true))) }]
def O4 : List XI := [J 19 (.fieldAddr 5 (.t 3)), J 20 (.load false 1 (.t 19)), J 21 (.lenR (.t 20)), J 22 (.move (.c (.d (.int .i64 0))))]
def Pm : List XI := [J 23 (.bin .lss (.t 22) (.t 21))]
def Po : List XI := [J 24 (.indexAddr 6 (.t 20) (.t 22)), J 25 (.load true 6 (.t 24)), J 7 (.alloc [(.d (.int .i64 0)), (.d (.int .i64 0)), (.d (.str ⟨#[]⟩)), (.d (.str ⟨#[]⟩)), (.d (.str ⟨#[]⟩)), (.ex [])]), { dst := none, op := .store 6 (.t 7) (.t 25) }]
def Px : List XI := [J 26 (.load true 3 (.t 2)), J 27 (.load true 6 (.t 7)), J 28 (.call GO [(.t 26), (.t 27)])]
def PG : List XI := [J 29 (.bin .add (.t 22) (.c (.d (.int .i64 1)))), J 22 (.move (.t 29))]
def Pg : XC :=
 (.seq (.region Pm)
 (.seq (.cond (.t 23)
 .skip
 (.exit 0))
 (.seq (.block 1 (.seq (.region Po)
 (.region Px)))
 (.region PG))))
def SE : XC :=
 (.seq (.region Pz)
 (.seq (.seq (.region Pc)
 (.seq (.region OZ)
 (.cond (.t 14)
 (.region Pn)
 .skip)))
 (.seq (.region O4)
 (.block 0 (.loop Pg)))))
theorem Ag9 : Fn PR GO 30 SE [] := ⟨fun vs w => Try.call66 vs w, Try.f66, _, Try.func66, rfl, rfl, by kernel_rfl, by kernel_rfl⟩
def EZ : List XI := [J 2 (.move (.c (.ex [])))]
def E2 : List XI := [J 3 (.move (.t 0)), J 4 (.eqNil false (.t 3))]
def E1 : List XI := [J 2 (.move (.c (.ex [])))]
def Fi : List XI := [J 5 (.buildSlice 8 []), J 6 (.move (.t 0)), J 7 (.append AO 8 144 (.t 5) (.t 6)), J 2 (.move (.t 7))]
def FV : XC :=
 (.seq (.region EZ)
 (.seq (.seq (.region E2)
 (.cond (.t 4)
 (.seq (.region E1)
 .ret)
 .skip))
 (.seq (.region Fi)
 .ret)))
theorem I9 : Fn PR DA 8 FV [.tmp 2] := ⟨fun vs w => Try.call67 vs w, Try.f67, _, Try.func67, rfl, rfl, by kernel_rfl, by kernel_rfl⟩
def Eg : List XI := [J 4 (.move (.c (.d (.int .i64 0))))]
def Ed : List XI := [J 6 (.move (.t 0)), J 7 (.lenR (.t 6)), J 8 (.move (.c (.d (.int .i64 0))))]
def Ew : List XI := [J 9 (.bin .lss (.t 8) (.t 7))]
def Ef : List XI := [J 10 (.move (.t 8)), J 5 (.move (.t 10))]
def EA : List XI := [J 11 (.move (.t 1)), J 12 (.move (.t 0)), J 13 (.move (.t 5)), J 14 (.indexAddr 8 (.t 12) (.t 13)), J 15 (.load true 8 (.t 14)), J 16 (.dyn (.t 11) [(.t 15)])]
def Es : List XI := [J 17 (.move (.t 5)), J 4 (.move (.t 17))]
def Et : List XI := [J 18 (.bin .add (.t 8) (.c (.d (.int .i64 1)))), J 8 (.move (.t 18))]
def Em : XC :=
 (.seq (.region Ew)
 (.seq (.cond (.t 9)
 .skip
 (.exit 0))
 (.seq (.block 1 (.seq (.region Ef)
 (.seq (.region EA)
 (.cond (.t 16)
 (.seq (.region Es)
 .ret)
 .skip))))
 (.region Et))))
def Ej : List XI := [J 4 (.move (.c (.d (.int .i64 (-1)))))]
def EN : XC :=
 (.seq (.region Eg)
 (.seq (.seq (.region Ed)
 (.block 0 (.loop Em)))
 (.seq (.region Ej)
 .ret)))
theorem H3 : Fn PR Dc 19 EN [.tmp 4] := ⟨fun vs w => Try.call70 vs w, Try.f70, _, Try.func70, rfl, rfl, by kernel_rfl, by kernel_rfl⟩
def V6 : List XI := [J 1 (.box (.t 0)), J 2 (.move (.c (.d (.bool false))))]
def Xa : List XI := [J 3 (.move (.c (.d (.bool false)))), J 4 (.move (.c (.d (.bool false)))), J 5 (.move (.c (.d (.bool false)))), J 6 (.move (.c (.d (.bool false)))), J 7 (.move (.c (.d (.bool false))))]
def WM : List XI := [J 8 (.move (.c (.d (.int .i64 1)))), J 9 (.move (.c (.d (.int .i64 1))))]
def WY : List XI := [J 10 (.move (.c (.d (.bool true))))]
def WN : List XI := [J 11 (.fieldAddr 0 (.t 1)), J 12 (.load false 1 (.t 11))]
def VR : List XI := [J 14 (.bin .eql (.t 12) (.c (.d (.int .i64 1)))), J 13 (.move (.t 14))]
def Wn : List XI := [J 15 (.bin .eql (.t 12) (.c (.d (.int .i64 2)))), J 13 (.move (.t 15))]
def Wd : List XI := [J 3 (.move (.c (.d (.bool true)))), J 10 (.move (.c (.d (.bool false))))]
def Wu : List XI := [J 17 (.bin .eql (.t 12) (.c (.d (.int .i64 3)))), J 16 (.move (.t 17))]
def Wg : List XI := [J 18 (.bin .eql (.t 12) (.c (.d (.int .i64 8)))), J 16 (.move (.t 18))]
def SL : List XI := [J 9 (.move (.c (.d (.int .i64 8))))]
def Sy : List XI := [J 20 (.bin .eql (.t 12) (.c (.d (.int .i64 4)))), J 19 (.move (.t 20))]
def U6 : List XI := [J 3 (.move (.c (.d (.bool true)))), J 4 (.move (.c (.d (.bool true))))]
def UU : List XI := [J 21 (.fieldAddr 4 (.t 1)), J 22 (.load false 1 (.t 21)), J 23 (.lenR (.t 22)), J 24 (.bin .add (.t 23) (.c (.d (.int .i64 1)))), J 25 (.fieldAddr 4 (.t 1)), J 26 (.load false 1 (.t 25)), J 27 (.lenR (.t 26)), J 28 (.bin .add (.t 27) (.c (.d (.int .i64 1)))), J 8 (.move (.t 24)), J 9 (.move (.t 28))]
def TT : List XI := [J 30 (.bin .eql (.t 12) (.c (.d (.int .i64 5)))), J 29 (.move (.t 30))]
def Uu : List XI := [J 3 (.move (.c (.d (.bool true))))]
def UC : List XI := [J 32 (.bin .eql (.t 12) (.c (.d (.int .i64 6)))), J 31 (.move (.t 32))]
def Vk : List XI := [J 3 (.move (.c (.d (.bool true)))), J 5 (.move (.c (.d (.bool true)))), J 6 (.move (.c (.d (.bool true))))]
def SB : List XI := [J 34 (.bin .eql (.t 12) (.c (.d (.int .i64 7)))), J 33 (.move (.t 34))]
def Th : List XI := [J 6 (.move (.c (.d (.bool true)))), J 7 (.move (.c (.d (.bool true)))), J 10 (.move (.c (.d (.bool false))))]
def Ti : List XI := [J 36 (.bin .eql (.t 12) (.c (.d (.int .i64 9)))), J 35 (.move (.t 36))]
def SX : List XI := [J 10 (.move (.c (.d (.bool false))))]
def Ug : List XI := [J 38 (.bin .eql (.t 12) (.c (.d (.int .i64 10)))), J 37 (.move (.t 38))]
def U3 : List XI := [J 9 (.move (.c (.d (.int .i64 8)))), J 10 (.move (.c (.d (.bool false))))]
def SF : List XI := [J 2 (.move (.c (.d (.bool false))))]
def Q3 : List XI := [J 39 (.move (.t 3)), J 40 (.fieldAddr 1 (.t 1)), J 41 (.load false 1 (.t 40)), J 42 (.call Ag2 [(.t 39), (.t 41)]), J 43 (.call IW [(.t 42)]), J 44 (.move (.t 43)), Jt 45 44 (.move (.t 10)), Jt 46 44 (.fieldAddr 2 (.t 1)), Jt 47 44 (.load false 1 (.t 46)), Jt 48 44 (.call Ag2 [(.t 45), (.t 47)]), Jt 49 44 (.call IW [(.t 48)]), J 50 (.pick (.t 44) (.t 49) (.c (.d (.bool false))))]
def PQ : List XI := [J 51 (.move (.t 50)), Jt 52 51 (.move (.t 3)), Jt 53 51 (.move (.t 52)), Jf 54 53 (.fieldAddr 1 (.t 1)), Jf 55 53 (.load false 1 (.t 54)), Jf 56 53 (.bin .eql (.t 55) (.c (.d (.str ⟨#[]⟩)))), Jt 57 51 (.pick (.t 53) (.c (.d (.bool true))) (.t 56)), J 58 (.pick (.t 51) (.t 57) (.c (.d (.bool false))))]
def Q1 : List XI := [J 59 (.move (.t 58)), Jt 60 59 (.move (.t 10)), Jt 61 59 (.move (.t 60)), Jf 62 61 (.fieldAddr 2 (.t 1)), Jf 63 61 (.load false 1 (.t 62)), Jf 64 61 (.bin .eql (.t 63) (.c (.d (.str ⟨#[]⟩)))), Jt 65 59 (.pick (.t 61) (.c (.d (.bool true))) (.t 64)), J 66 (.pick (.t 59) (.t 65) (.c (.d (.bool false))))]
def PO : List XI := [J 67 (.move (.t 66)), Jt 68 67 (.move (.t 4)), Jt 69 67 (.move (.t 68)), Jt 70 69 (.fieldAddr 4 (.t 1)), Jt 71 69 (.load false 1 (.t 70)), Jt 72 69 (.lenR (.t 71)), Jt 73 69 (.call JN [(.t 72), (.c (.d (.int .i64 1))), (.c (.d (.int .i64 8)))]), Jt 74 67 (.pick (.t 69) (.t 73) (.c (.d (.bool false)))), Jt 75 67 (.move (.t 74)), Jt 76 75 (.fieldAddr 4 (.t 1)), Jt 77 75 (.load false 1 (.t 76)), Jt 78 75 (.call IW [(.t 77)]), Jt 79 67 (.pick (.t 75) (.t 78) (.c (.d (.bool false)))), Jt 80 67 (.move (.t 79)), Jt 81 80 (.fieldAddr 4 (.t 1)), Jt 82 80 (.load false 1 (.t 81)), Jt 83 80 (.call Ld [(.t 82)]), Jt 84 67 (.pick (.t 80) (.t 83) (.c (.d (.bool false)))), Jt 85 67 (.move (.t 84)), Jf 86 85 (.move (.t 4)), Jf 87 85 (.not (.t 86)), Jf 88 85 (.move (.t 87)), Jt 89 88 (.fieldAddr 4 (.t 1)), Jt 90 88 (.load false 1 (.t 89)), Jt 91 88 (.lenR (.t 90)), Jt 92 88 (.bin .eql (.t 91) (.c (.d (.int .i64 0)))), Jf 93 85 (.pick (.t 88) (.t 92) (.c (.d (.bool false)))), Jt 94 67 (.pick (.t 85) (.c (.d (.bool true))) (.t 93)), J 95 (.pick (.t 67) (.t 94) (.c (.d (.bool false))))]
def QB : List XI := [J 96 (.move (.t 95)), Jt 97 96 (.move (.t 5)), Jt 98 96 (.move (.t 97)), Jt 99 98 (.fieldAddr 3 (.t 1)), Jt 100 98 (.load false 1 (.t 99)), Jt 101 98 (.call JN [(.t 100), (.c (.d (.int .i64 0))), (.c (.d (.int .i64 1000)))]), Jt 102 96 (.pick (.t 98) (.t 101) (.c (.d (.bool false)))), Jt 103 96 (.move (.t 102)), Jf 104 103 (.move (.t 5)), Jf 105 103 (.not (.t 104)), Jf 106 103 (.move (.t 105)), Jt 107 106 (.fieldAddr 3 (.t 1)), Jt 108 106 (.load false 1 (.t 107)), Jt 109 106 (.bin .eql (.t 108) (.c (.d (.int .i64 0)))), Jf 110 103 (.pick (.t 106) (.t 109) (.c (.d (.bool false)))), Jt 111 96 (.pick (.t 103) (.c (.d (.bool true))) (.t 110)), J 112 (.pick (.t 96) (.t 111) (.c (.d (.bool false))))]
def Ri : List XI := [J 113 (.move (.t 112)), Jt 114 113 (.fieldAddr 5 (.t 1)), Jt 115 113 (.load false 1 (.t 114)), Jt 116 113 (.lenR (.t 115)), Jt 117 113 (.move (.t 8)), Jt 118 113 (.move (.t 9)), Jt 119 113 (.call JN [(.t 116), (.t 117), (.t 118)]), J 120 (.pick (.t 113) (.t 119) (.c (.d (.bool false))))]
def QW : List XI := [J 121 (.move (.t 120)), Jt 122 121 (.move (.t 6)), Jt 123 121 (.move (.t 122)), Jf 124 123 (.fieldAddr 6 (.t 1)), Jf 125 123 (.load false 1 (.t 124)), Jf 126 123 (.lenR (.t 125)), Jf 127 123 (.bin .eql (.t 126) (.c (.d (.int .i64 0)))), Jt 128 121 (.pick (.t 123) (.c (.d (.bool true))) (.t 127)), J 129 (.pick (.t 121) (.t 128) (.c (.d (.bool false))))]
def Qo : List XI := [J 130 (.move (.t 129)), Jt 131 130 (.move (.t 7)), Jt 132 130 (.move (.t 131)), Jf 133 132 (.fieldAddr 7 (.t 1)), Jf 134 132 (.load false 1 (.t 133)), Jf 135 132 (.lenR (.t 134)), Jf 136 132 (.bin .eql (.t 135) (.c (.d (.int .i64 0)))), Jt 137 130 (.pick (.t 132) (.c (.d (.bool true))) (.t 136)), J 138 (.pick (.t 130) (.t 137) (.c (.d (.bool false))))]
def I0 : List XI := [J 2 (.move (.t 138))]
def Uv : List XI := Q3 ++ (PQ ++ (Q1 ++ (PO ++ (QB ++ (Ri ++ (QW ++ (Qo ++ (I0))))))))
def Aq9 : XC :=
 (.seq (.region V6)
 (.seq (.region Xa)
 (.seq (.region WM)
 (.seq (.region WY)
 (.seq (.seq (.region WN)
 (.block 0 (.seq (.seq (.region VR)
 (.cond (.t 13)
 .skip
 (.region Wn)))
 (.cond (.t 13)
 (.region Wd)
 (.seq (.seq (.region Wu)
 (.cond (.t 16)
 .skip
 (.region Wg)))
 (.cond (.t 16)
 (.region SL)
 (.seq (.region Sy)
 (.cond (.t 19)
 (.seq (.region U6)
 (.regionS UU 0))
 (.seq (.region TT)
 (.cond (.t 29)
 (.region Uu)
 (.seq (.region UC)
 (.cond (.t 31)
 (.region Vk)
 (.seq (.region SB)
 (.cond (.t 33)
 (.region Th)
 (.seq (.region Ti)
 (.cond (.t 35)
 (.region SX)
 (.seq (.region Ug)
 (.cond (.t 37)
 (.region U3)
 (.seq (.region SF)
 .ret)))))))))))))))))))
 (.seq (.region Uv)
 .ret))))))
theorem AH1 : Fn PR YC 139 Aq9 [.tmp 2] := ⟨fun vs w => Try.call71 vs w, Try.f71, _, Try.func71, rfl, rfl, by kernel_rfl, by kernel_rfl⟩
def DG : List XI := [J 4 (.move (.c (.d (.bool false))))]
def Dx : List XI := [J 5 (.move (.t 0)), J 6 (.move (.t 1)), J 7 (.call Dd [(.t 5), (.t 6)]), J 8 (.bin .geq (.t 7) (.c (.d (.int .i64 0)))), J 4 (.move (.t 8))]
def Er : XC :=
 (.seq (.region DG)
 (.seq (.region Dx)
 .ret))
theorem Hl : Fn PR B0 9 Er [.tmp 4] := ⟨fun vs w => Try.call72 vs w, Try.f72, _, Try.func72, rfl, rfl, by kernel_rfl, by kernel_rfl⟩
def RV : List XI := [J 1 (.box (.t 0)), J 2 (.move (.c (.d (.bool false))))]
def RG : List XI := [J 3 (.load true 6 (.t 1)), J 4 (.call FT [(.t 3)]), J 5 (.not (.t 4)), J 2 (.move (.t 5))]
def YD : XC :=
 (.seq (.region RV)
 (.seq (.region RG)
 .ret))
theorem Aw3 : Fn PR Sq 6 YD [.tmp 2] := ⟨fun vs w => Try.call73 vs w, Try.f73, _, Try.func73, rfl, rfl, by kernel_rfl, by kernel_rfl⟩
def OY : List XI := [J 1 (.box (.t 0)), J 2 (.move (.c (.d (.bool false))))]
def O9 : List XI := [J 6 (.fieldAddr 0 (.t 1)), J 7 (.load false 1 (.t 6)), J 8 (.call U8 [(.t 7)]), J 5 (.move (.t 8)), J 9 (.extract (.t 5) 0), J 10 (.extract (.t 5) 1), J 3 (.move (.t 9)), J 4 (.move (.t 10))]
def MC : List XI := [J 11 (.move (.t 3)), J 12 (.fieldAddr 5 (.t 1)), J 13 (.load false 1 (.t 12)), J 14 (.lenR (.t 13)), J 15 (.bin .eql (.t 11) (.t 14)), J 16 (.move (.t 15)), Jt 17 16 (.load true 6 (.t 1)), Jt 18 16 (.call Vx [(.t 17)]), J 19 (.pick (.t 16) (.t 18) (.c (.d (.bool false))))]
def MS : List XI := [J 20 (.move (.t 19)), Jt 21 20 (.fieldAddr 5 (.t 1)), Jt 22 20 (.load false 1 (.t 21)), Jt 23 20 (.call B0 [(.t 22), (.c (.fn Gk [] []))]), Jt 24 20 (.not (.t 23)), J 25 (.pick (.t 20) (.t 24) (.c (.d (.bool false))))]
def Jo : List XI := [J 2 (.move (.t 25))]
def Pw : List XI := MC ++ (MS ++ (Jo))
def UI : XC :=
 (.seq (.region OY)
 (.seq (.region O9)
 (.seq (.region Pw)
 .ret)))
theorem Aj9 : Fn PR FT 26 UI [.tmp 2] := ⟨fun vs w => Try.call74 vs w, Try.f74, _, Try.func74, rfl, rfl, by kernel_rfl, by kernel_rfl⟩
def YV : List XI := [J 2 (.move (.c (.d (.int .i64 0)))), J 3 (.move (.c (.d (.bool false))))]
def Tp : List XI := [J 5 (.move (.t 0)), J 6 (.bin .geq (.t 5) (.c (.d (.int .i64 1)))), J 7 (.move (.t 6)), Jt 8 7 (.move (.t 0)), Jt 9 7 (.bin .leq (.t 8) (.c (.d (.int .i64 5)))), J 10 (.pick (.t 7) (.t 9) (.c (.d (.bool false))))]
def OU : List XI := [J 4 (.move (.t 10))]
def XX : List XI := Tp ++ (OU)
def Xz : List XI := [J 2 (.move (.c (.d (.int .i64 0)))), J 3 (.move (.c (.d (.bool false))))]
def Tg : List XI := [J 12 (.move (.t 0)), J 13 (.bin .geq (.t 12) (.c (.d (.int .i64 6)))), J 14 (.move (.t 13)), Jt 15 14 (.move (.t 0)), Jt 16 14 (.bin .leq (.t 15) (.c (.d (.int .i64 18)))), J 17 (.pick (.t 14) (.t 16) (.c (.d (.bool false))))]
def OC : List XI := [J 11 (.move (.t 17))]
def YO : List XI := Tg ++ (OC)
def YS : List XI := [J 2 (.move (.c (.d (.int .i64 2)))), J 3 (.move (.c (.d (.bool false))))]
def T8 : List XI := [J 19 (.move (.t 0)), J 20 (.bin .eql (.t 19) (.c (.d (.int .i64 19)))), J 21 (.move (.t 20)), Jf 22 21 (.move (.t 0)), Jf 23 21 (.bin .eql (.t 22) (.c (.d (.int .i64 20)))), J 24 (.pick (.t 21) (.c (.d (.bool true))) (.t 23))]
def OH : List XI := [J 18 (.move (.t 24))]
def XY : List XI := T8 ++ (OH)
def Yw : List XI := [J 2 (.move (.c (.d (.int .i64 1)))), J 3 (.move (.c (.d (.bool false))))]
def Yp : List XI := [J 26 (.move (.t 0)), J 27 (.bin .eql (.t 26) (.c (.d (.int .i64 21)))), J 25 (.move (.t 27))]
def X6 : List XI := [J 2 (.move (.c (.d (.int .i64 1)))), J 3 (.move (.c (.d (.bool true))))]
def Ui : List XI := [J 29 (.move (.t 0)), J 30 (.bin .geq (.t 29) (.c (.d (.int .i64 22)))), J 31 (.move (.t 30)), Jt 32 31 (.move (.t 0)), Jt 33 31 (.bin .leq (.t 32) (.c (.d (.int .i64 24)))), J 34 (.pick (.t 31) (.t 33) (.c (.d (.bool false))))]
def OQ : List XI := [J 28 (.move (.t 34))]
def YN : List XI := Ui ++ (OQ)
def W0 : List XI := [J 2 (.move (.c (.d (.int .i64 2)))), J 3 (.move (.c (.d (.bool true))))]
def QM : List XI := [J 2 (.move (.c (.d (.int .i64 (-1))))), J 3 (.move (.c (.d (.bool false))))]
def Ay4 : XC :=
 (.seq (.region YV)
 (.seq (.block 0 (.seq (.region XX)
 (.cond (.t 4)
 (.seq (.region Xz)
 .ret)
 (.seq (.region YO)
 (.cond (.t 11)
 (.seq (.region YS)
 .ret)
 (.seq (.region XY)
 (.cond (.t 18)
 (.seq (.region Yw)
 .ret)
 (.seq (.region Yp)
 (.cond (.t 25)
 (.seq (.region X6)
 .ret)
 (.seq (.region YN)
 (.cond (.t 28)
 (.seq (.region W0)
 .ret)
 .skip)))))))))))
 (.seq (.region QM)
 .ret)))
theorem AL0 : Fn PR U8 35 Ay4 [.tmp 2, .tmp 3] := ⟨fun vs w => Try.call86 vs w, Try.f86, _, Try.func86, rfl, rfl, by kernel_rfl, by kernel_rfl⟩
def Ac3 : List XI := [J 4 (.move (.c (.ex [])))]
def Ad0 : List XI := [J 5 (.move (.t 0)), J 6 (.not (.t 5))]
def Ac2 : List XI := [J 4 (.move (.c (.ex [])))]
def Ae4 : List XI := [J 7 (.move (.t 1)), J 8 (.buildSlice 1 [(.t 7)]), J 4 (.move (.t 8))]
def AI1 : XC :=
 (.seq (.region Ac3)
 (.seq (.seq (.region Ad0)
 (.cond (.t 6)
 (.seq (.region Ac2)
 .ret)
 .skip))
 (.seq (.region Ae4)
 .ret)))
theorem AP2 : Fn PR Ag2 9 AI1 [.tmp 4] := ⟨fun vs w => Try.call88 vs w, Try.f88, _, Try.func88, rfl, rfl, by kernel_rfl, by kernel_rfl⟩
def Ez : List XI := [J 4 (.move (.c (.d (.int .i64 0))))]
def Ee : List XI := [J 6 (.move (.t 0)), J 7 (.lenR (.t 6)), J 8 (.move (.c (.d (.int .i64 0))))]
def Eh : List XI := [J 9 (.bin .lss (.t 8) (.t 7))]
def El : List XI := [J 10 (.move (.t 8)), J 5 (.move (.t 10))]
def Ei : List XI := [J 11 (.move (.t 1)), J 12 (.move (.t 0)), J 13 (.move (.t 5)), J 14 (.indexAddr 6 (.t 12) (.t 13)), J 15 (.load true 6 (.t 14)), J 16 (.dyn (.t 11) [(.t 15)])]
def Ep : List XI := [J 17 (.move (.t 5)), J 4 (.move (.t 17))]
def Eo : List XI := [J 18 (.bin .add (.t 8) (.c (.d (.int .i64 1)))), J 8 (.move (.t 18))]
def Eu : XC :=
 (.seq (.region Eh)
 (.seq (.cond (.t 9)
 .skip
 (.exit 0))
 (.seq (.block 1 (.seq (.region El)
 (.seq (.region Ei)
 (.cond (.t 16)
 (.seq (.region Ep)
 .ret)
 .skip))))
 (.region Eo))))
def Ey : List XI := [J 4 (.move (.c (.d (.int .i64 (-1)))))]
def EQ : XC :=
 (.seq (.region Ez)
 (.seq (.seq (.region Ee)
 (.block 0 (.loop Eu)))
 (.seq (.region Ey)
 .ret)))
theorem H1 : Fn PR Dd 19 EQ [.tmp 4] := ⟨fun vs w => Try.call89 vs w, Try.f89, _, Try.func89, rfl, rfl, by kernel_rfl, by kernel_rfl⟩
def Uc : List XI := [J 1 (.box (.t 0)), J 2 (.move (.c (.d (.bool false))))]
def S1 : List XI := [J 8 (.fieldAddr 0 (.t 1)), J 9 (.load false 1 (.t 8)), J 10 (.call U8 [(.t 9)]), J 7 (.move (.t 10)), J 11 (.extract (.t 7) 0), J 12 (.extract (.t 7) 1), J 3 (.move (.t 11)), J 4 (.move (.t 12))]
def UW : List XI := [J 5 (.move (.c (.d (.bool false))))]
def UO : List XI := [J 6 (.alloc [(.d (.int .i64 0)), (.d (.int .i64 0)), (.d (.str ⟨#[]⟩)), (.d (.str ⟨#[]⟩)), (.d (.str ⟨#[]⟩)), (.ex [])])]
def Vo : List XI := [J 14 (.fieldAddr 0 (.t 1)), J 15 (.load false 1 (.t 14)), J 16 (.bin .eql (.t 15) (.c (.d (.int .i64 1)))), J 13 (.move (.t 16))]
def Ty : List XI := [J 17 (.fieldAddr 1 (.t 1)), J 18 (.load false 1 (.t 17)), J 19 (.bin .geq (.t 18) (.c (.d (.int .i64 0)))), J 20 (.fieldAddr 1 (.t 1)), J 21 (.load false 1 (.t 20)), J 5 (.move (.t 19)), J 22 (.fieldAddr 1 (.t 6)), { dst := none, op := .store 1 (.t 22) (.t 21) }]
def Vm : List XI := [J 24 (.fieldAddr 0 (.t 1)), J 25 (.load false 1 (.t 24)), J 26 (.bin .eql (.t 25) (.c (.d (.int .i64 2)))), J 23 (.move (.t 26))]
def SV : List XI := [J 27 (.fieldAddr 2 (.t 1)), J 28 (.load false 1 (.t 27)), J 29 (.lenS (.t 28)), J 30 (.bin .leq (.t 29) (.c (.d (.int .i64 200)))), J 31 (.fieldAddr 2 (.t 1)), J 32 (.load false 1 (.t 31)), J 5 (.move (.t 30)), J 33 (.fieldAddr 2 (.t 6)), { dst := none, op := .store 1 (.t 33) (.t 32) }]
def UK : List XI := [J 35 (.fieldAddr 0 (.t 1)), J 36 (.load false 1 (.t 35)), J 37 (.bin .eql (.t 36) (.c (.d (.int .i64 3)))), J 34 (.move (.t 37))]
def Ve : List XI := [J 38 (.fieldAddr 1 (.t 1)), J 39 (.load false 1 (.t 38)), J 40 (.bin .shr (.t 39) (.c (.d (.int .u64 1)))), J 41 (.bin .eql (.t 40) (.c (.d (.int .i64 0)))), J 42 (.fieldAddr 1 (.t 1)), J 43 (.load false 1 (.t 42)), J 5 (.move (.t 41)), J 44 (.fieldAddr 1 (.t 6)), { dst := none, op := .store 1 (.t 44) (.t 43) }]
def R4 : List XI := [J 46 (.fieldAddr 0 (.t 1)), J 47 (.load false 1 (.t 46)), J 48 (.bin .eql (.t 47) (.c (.d (.int .i64 4)))), J 45 (.move (.t 48))]
def RD : List XI := [J 49 (.fieldAddr 3 (.t 1)), J 50 (.load false 1 (.t 49)), J 51 (.buildSlice 1 [(.t 50)]), J 52 (.call IW [(.t 51)]), J 53 (.fieldAddr 3 (.t 1)), J 54 (.load false 1 (.t 53)), J 5 (.move (.t 52)), J 55 (.fieldAddr 3 (.t 6)), { dst := none, op := .store 1 (.t 55) (.t 54) }]
def R6 : List XI := [J 57 (.fieldAddr 0 (.t 1)), J 58 (.load false 1 (.t 57)), J 59 (.bin .eql (.t 58) (.c (.d (.int .i64 5)))), J 56 (.move (.t 59))]
def RU : List XI := [J 60 (.fieldAddr 3 (.t 1)), J 61 (.load false 1 (.t 60)), J 62 (.fieldAddr 2 (.t 1)), J 63 (.load false 1 (.t 62)), J 64 (.buildSlice 1 [(.t 61), (.t 63)]), J 65 (.call IW [(.t 64)]), J 66 (.fieldAddr 3 (.t 1)), J 67 (.load false 1 (.t 66)), J 68 (.fieldAddr 2 (.t 1)), J 69 (.load false 1 (.t 68)), J 5 (.move (.t 65)), J 70 (.fieldAddr 3 (.t 6)), { dst := none, op := .store 1 (.t 70) (.t 67) }, J 71 (.fieldAddr 2 (.t 6)), { dst := none, op := .store 1 (.t 71) (.t 69) }]
def RQ : List XI := [J 73 (.move (.t 4)), J 72 (.move (.t 73))]
def RS : List XI := [J 74 (.fieldAddr 3 (.t 1)), J 75 (.load false 1 (.t 74)), J 76 (.fieldAddr 4 (.t 1)), J 77 (.load false 1 (.t 76)), J 78 (.buildSlice 1 [(.t 75), (.t 77)]), J 79 (.call IW [(.t 78)]), J 80 (.fieldAddr 3 (.t 1)), J 81 (.load false 1 (.t 80)), J 82 (.fieldAddr 4 (.t 1)), J 83 (.load false 1 (.t 82)), J 5 (.move (.t 79)), J 84 (.fieldAddr 3 (.t 6)), { dst := none, op := .store 1 (.t 84) (.t 81) }, J 85 (.fieldAddr 4 (.t 6)), { dst := none, op := .store 1 (.t 85) (.t 83) }]
def R3 : List XI := [J 5 (.move (.c (.d (.bool true))))]
def DT : List XI := [J 86 (.move (.t 5)), J 87 (.move (.t 86)), Jt 88 87 (.fieldAddr 1 (.t 6)), Jt 89 87 (.load false 1 (.t 88)), Jt 90 87 (.fieldAddr 1 (.t 1)), Jt 91 87 (.load false 1 (.t 90)), Jt 92 87 (.bin .eql (.t 89) (.t 91)), J 93 (.pick (.t 87) (.t 92) (.c (.d (.bool false))))]
def DP : List XI := [J 94 (.move (.t 93)), Jt 95 94 (.fieldAddr 2 (.t 6)), Jt 96 94 (.load false 1 (.t 95)), Jt 97 94 (.fieldAddr 2 (.t 1)), Jt 98 94 (.load false 1 (.t 97)), Jt 99 94 (.bin .eql (.t 96) (.t 98)), J 100 (.pick (.t 94) (.t 99) (.c (.d (.bool false))))]
def DM : List XI := [J 101 (.move (.t 100)), Jt 102 101 (.fieldAddr 3 (.t 6)), Jt 103 101 (.load false 1 (.t 102)), Jt 104 101 (.fieldAddr 3 (.t 1)), Jt 105 101 (.load false 1 (.t 104)), Jt 106 101 (.bin .eql (.t 103) (.t 105)), J 107 (.pick (.t 101) (.t 106) (.c (.d (.bool false))))]
def DJ : List XI := [J 108 (.move (.t 107)), Jt 109 108 (.fieldAddr 4 (.t 6)), Jt 110 108 (.load false 1 (.t 109)), Jt 111 108 (.fieldAddr 4 (.t 1)), Jt 112 108 (.load false 1 (.t 111)), Jt 113 108 (.bin .eql (.t 110) (.t 112)), J 114 (.pick (.t 108) (.t 113) (.c (.d (.bool false))))]
def BI : List XI := [J 2 (.move (.t 114))]
def Fc : List XI := DT ++ (DP ++ (DM ++ (DJ ++ (BI))))
def Ae9 : XC :=
 (.seq (.region Uc)
 (.seq (.region S1)
 (.seq (.region UW)
 (.seq (.region UO)
 (.seq (.block 0 (.seq (.region Vo)
 (.cond (.t 13)
 (.regionS Ty 0)
 (.seq (.region Vm)
 (.cond (.t 23)
 (.regionS SV 0)
 (.seq (.region UK)
 (.cond (.t 34)
 (.regionS Ve 0)
 (.seq (.region R4)
 (.cond (.t 45)
 (.regionD RD [[], [0], [1, 0], [2, 1, 0], [], [4], [3, 2, 1, 0], [0, 1, 2, 3, 4, 5, 6], [7, 0, 1, 2, 3, 4, 5, 6]] 1)
 (.seq (.region R6)
 (.cond (.t 56)
 (.regionD RU [[], [0], [], [2], [1, 0, 3, 2], [4, 1, 0, 3, 2], [], [6], [], [8], [5, 4, 1, 0, 3, 2], [0, 1, 2, 3, 4, 5, 6, 7, 10], [11, 0, 1, 2, 3, 4, 5, 6, 7, 10], [0, 1, 2, 3, 4, 5, 6, 7, 8, 9, 10, 11, 12], [13, 0, 1, 2, 3, 4, 5, 6, 7, 8, 9, 10, 11, 12]] 1)
 (.seq (.region RQ)
 (.cond (.t 72)
 (.regionD RS [[], [0], [], [2], [1, 0, 3, 2], [4, 1, 0, 3, 2], [], [6], [], [8], [5, 4, 1, 0, 3, 2], [0, 1, 2, 3, 4, 5, 6, 7, 10], [11, 0, 1, 2, 3, 4, 5, 6, 7, 10], [0, 1, 2, 3, 4, 5, 6, 7, 8, 9, 10, 11, 12], [13, 0, 1, 2, 3, 4, 5, 6, 7, 8, 9, 10, 11, 12]] 1)
 (.region R3))))))))))))))
 (.seq (.region Fc)
 .ret))))))
theorem AD2 : Fn PR Vx 115 Ae9 [.tmp 2] := ⟨fun vs w => Try.call90 vs w, Try.f90, _, Try.func90, rfl, rfl, by kernel_rfl, by kernel_rfl⟩
def Mx : List XI := [J 1 (.box (.t 0)), J 2 (.move (.c (.d (.bool false))))]
def My : List XI := [J 3 (.load true 6 (.t 1)), J 4 (.call FT [(.t 3)]), J 5 (.not (.t 4)), J 2 (.move (.t 5))]
def Qm : XC :=
 (.seq (.region Mx)
 (.seq (.region My)
 .ret))
theorem YK : Fn PR Gk 6 Qm [.tmp 2] := ⟨fun vs w => Try.call91 vs w, Try.f91, _, Try.func91, rfl, rfl, by kernel_rfl, by kernel_rfl⟩
end Go.Ax
