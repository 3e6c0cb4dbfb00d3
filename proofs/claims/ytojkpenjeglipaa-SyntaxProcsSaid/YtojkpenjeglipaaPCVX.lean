import Derived.Test.YtojkpenjeglipaaProg
import Derived.Test.YtojkpenjeglipaaPAxVk
import Derived.KernelRfl
set_option linter.unusedVariables false
namespace Go.Ax
abbrev J (d : Nat) (o : XOp) : XI := { dst := some d, op := o, guard := none, nm := 0 }
abbrev Jt (d g : Nat) (o : XOp) : XI := { dst := some d, op := o, guard := some (g, true), nm := 0 }
abbrev Jf (d g : Nat) (o : XOp) : XI := { dst := some d, op := o, guard := some (g, false), nm := 0 }
open Go.Proofs
noncomputable abbrev PR : Program := Try.prog
abbrev QO : Nat := 5
abbrev Tq : Nat := 6
abbrev Q8 : Nat := 7
abbrev QV : Nat := 8
abbrev JK : Nat := 9
abbrev Jl : Nat := 10
abbrev AL0 : Nat := 11
abbrev Yp : Nat := 12
abbrev VP : Nat := 13
abbrev O6 : Nat := 14
abbrev Am8 : Nat := 15
abbrev QZ : Nat := 16
abbrev Ks : Nat := 17
abbrev RK : Nat := 18
abbrev Z8 : Nat := 19
abbrev CX : Nat := 20
abbrev Y1 : Nat := 21
abbrev Ms : Nat := 22
abbrev Dk : Nat := 23
abbrev Il : Nat := 24
abbrev Yx : Nat := 25
abbrev Y6 : Nat := 26
abbrev Tp : Nat := 27
abbrev Aa6 : Nat := 28
abbrev Ic : Nat := 29
abbrev FN : Nat := 30
abbrev F0 : Nat := 31
abbrev Po : Nat := 32
abbrev CI : Nat := 33
abbrev Bp : Nat := 34
abbrev V5 : Nat := 35
abbrev Y8 : Nat := 36
abbrev Nx : Nat := 37
abbrev Hl : Nat := 38
abbrev IV : Nat := 39
abbrev ET : Nat := 40
abbrev Mn : Nat := 41
abbrev DH : Nat := 42
abbrev RZ : Nat := 43
abbrev NL : Nat := 44
abbrev Jp : Nat := 45
abbrev I0 : Nat := 46
abbrev IL : Nat := 47
abbrev HD : Nat := 48
abbrev Ym : Nat := 49
abbrev Hr : Nat := 51
abbrev Bc : Nat := 52
abbrev GY : Nat := 53
abbrev Kn : Nat := 54
abbrev Ln : Nat := 55
abbrev CV : Nat := 56
abbrev HB : Nat := 57
abbrev LG : Nat := 58
abbrev IK : Nat := 59
abbrev NA : Nat := 60
abbrev Sm : Nat := 61
abbrev G2 : Nat := 62
abbrev Ha : Nat := 66
abbrev DO : Nat := 67
abbrev Df : Nat := 70
abbrev YI : Nat := 71
abbrev B4 : Nat := 72
abbrev SV : Nat := 73
abbrev Gb : Nat := 74
abbrev T9 : Nat := 86
abbrev Ap2 : Nat := 88
abbrev De : Nat := 89
abbrev Wn : Nat := 90
abbrev Gz : Nat := 91
abbrev AU : Nat := 52
abbrev AD : Nat := 9
abbrev AX : Nat := 50
abbrev Bb : Nat := 3
abbrev AV : Nat := 4
def ME : List XI := [J 1 (.box (.t 0)), J 2 (.move (.c (.d (.bool false))))]
def MQ : List XI := [J 14 (.load true 8 (.t 1)), J 15 (.call AL0 [(.t 14)]), J 13 (.move (.t 15)), J 16 (.extract (.t 13) 0), J 17 (.extract (.t 13) 1), J 18 (.extract (.t 13) 2), J 19 (.extract (.t 13) 3), J 20 (.extract (.t 13) 4), J 3 (.alloc [(.d (.str ⟨#[]⟩)), (.d (.str ⟨#[]⟩)), (.d (.str ⟨#[]⟩)), (.d (.int .i64 0)), (.ex []), (.ex [])]), { dst := none, op := .store 6 (.t 3) (.t 16) }, J 4 (.move (.t 17)), J 5 (.move (.t 18)), J 6 (.move (.t 19)), J 7 (.move (.t 20))]
def MR : List XI := [J 21 (.move (.t 7)), J 22 (.not (.t 21))]
def Nd : List XI := [J 23 (.call Tq []), J 2 (.move (.t 23))]
def MT : List XI := [J 25 (.load true 6 (.t 3)), J 26 (.call Yp [(.t 25)]), J 24 (.move (.t 26)), J 27 (.extract (.t 24) 0), J 28 (.extract (.t 24) 1), J 8 (.move (.t 27)), J 9 (.move (.t 28))]
def Nb : List XI := [J 10 (.move (.c (.ex []))), J 11 (.move (.c (.ex []))), J 12 (.move (.c (.ex [])))]
def Nu : List XI := [J 29 (.move (.t 6))]
def Nh : List XI := [J 30 (.fieldAddr 5 (.t 3)), J 31 (.load false 1 (.t 30)), J 32 (.call Ks [(.c (.ex [])), (.t 31), (.c (.d (.int .i64 0)))]), J 10 (.move (.t 32))]
def Nm : List XI := [J 33 (.fieldAddr 5 (.t 3)), J 34 (.load false 1 (.t 33)), J 35 (.call Ks [(.c (.ex [])), (.t 34), (.c (.d (.int .i64 1)))]), J 11 (.move (.t 35))]
def Np : List XI := [J 36 (.fieldAddr 5 (.t 3)), J 37 (.load false 1 (.t 36)), J 38 (.call Ks [(.c (.ex [])), (.t 37), (.c (.d (.int .i64 2)))]), J 12 (.move (.t 38))]
def HO : List XI := [J 39 (.move (.t 8)), J 40 (.move (.t 4)), J 41 (.bin .eql (.t 39) (.t 40)), J 42 (.move (.t 41)), Jt 43 42 (.move (.t 9)), Jt 44 42 (.move (.t 5)), Jt 45 42 (.bin .eql (.t 43) (.t 44)), J 46 (.pick (.t 42) (.t 45) (.c (.d (.bool false))))]
def HK : List XI := [J 47 (.move (.t 46)), Jt 48 47 (.load true 6 (.t 3)), Jt 49 47 (.call QZ [(.t 48)]), Jt 50 47 (.move (.t 6)), Jt 51 47 (.eqBool false (.t 49) (.t 50)), J 52 (.pick (.t 47) (.t 51) (.c (.d (.bool false))))]
def HV : List XI := [J 53 (.move (.t 52)), Jt 54 53 (.load true 6 (.t 3)), Jt 55 53 (.call VP [(.t 54)]), Jt 56 53 (.move (.t 10)), Jt 57 53 (.call O6 [(.t 55), (.t 56)]), J 58 (.pick (.t 53) (.t 57) (.c (.d (.bool false))))]
def HH : List XI := [J 59 (.move (.t 58)), Jt 60 59 (.load true 6 (.t 3)), Jt 61 59 (.call RK [(.t 60)]), Jt 62 59 (.move (.t 11)), Jt 63 59 (.call O6 [(.t 61), (.t 62)]), J 64 (.pick (.t 59) (.t 63) (.c (.d (.bool false))))]
def HR : List XI := [J 65 (.move (.t 64)), Jt 66 65 (.load true 6 (.t 3)), Jt 67 65 (.call Z8 [(.t 66)]), Jt 68 65 (.move (.t 12)), Jt 69 65 (.call O6 [(.t 67), (.t 68)]), J 70 (.pick (.t 65) (.t 69) (.c (.d (.bool false))))]
def EI : List XI := [J 71 (.move (.t 70)), Jt 72 71 (.call Tq []), J 73 (.pick (.t 71) (.t 72) (.c (.d (.bool false))))]
def C0 : List XI := [J 2 (.move (.t 73))]
def IW : List XI := HO ++ (HK ++ (HV ++ (HH ++ (HR ++ (EI ++ (C0))))))
def QC : XC :=
 (.seq (.region ME)
 (.seq (.region MQ)
 (.seq (.seq (.region MR)
 (.cond (.t 22)
 (.seq (.region Nd)
 .ret)
 .skip))
 (.seq (.region MT)
 (.seq (.region Nb)
 (.seq (.seq (.region Nu)
 (.cond (.t 29)
 (.seq (.region Nh)
 (.seq (.region Nm)
 (.region Np)))
 .skip))
 (.seq (.region IW)
 .ret)))))))
theorem Aa8 : Fn PR QO 74 QC [.tmp 2] := ⟨fun vs w => Try.call5 vs w, Try.f5, _, Try.func5, rfl, rfl, by kernel_rfl, by kernel_rfl⟩
def X3 : List XI := [J 0 (.move (.c (.d (.bool false))))]
def Xy : List XI := [J 5 (.build [(.d (.int .i64 0)), (.d (.int .i64 0)), (.d (.str ⟨#[]⟩)), (.d (.str ⟨#[]⟩)), (.d (.str ⟨#[]⟩)), (.ex [])] [(0, 1, (.c (.d (.int .i64 3)))), (1, 1, (.c (.d (.int .i64 1))))]), J 1 (.alloc [(.d (.int .i64 0)), (.d (.int .i64 0)), (.d (.str ⟨#[]⟩)), (.d (.str ⟨#[]⟩)), (.d (.str ⟨#[]⟩)), (.ex [])]), { dst := none, op := .store 6 (.t 1) (.t 5) }]
def XO : List XI := [J 6 (.load true 6 (.t 1)), J 7 (.buildSlice 6 [(.t 6)]), J 8 (.build [(.d (.int .i64 0)), (.d (.str ⟨#[]⟩)), (.d (.str ⟨#[]⟩)), (.d (.int .i64 0)), (.ex []), (.ex []), (.ex []), (.ex [])] [(0, 1, (.c (.d (.int .i64 5)))), (1, 1, (.c (.d (.str ⟨#[97]⟩)))), (2, 1, (.c (.d (.str ⟨#[116]⟩)))), (5, 1, (.t 7))]), J 9 (.buildSlice 8 [(.t 8)]), J 10 (.build [(.d (.str ⟨#[]⟩)), (.d (.str ⟨#[]⟩)), (.d (.str ⟨#[]⟩)), (.d (.int .i64 0)), (.ex []), (.ex [])] [(0, 1, (.c (.d (.str ⟨#[112]⟩)))), (3, 1, (.c (.d (.int .i64 1)))), (5, 1, (.t 9))]), J 2 (.alloc [(.d (.str ⟨#[]⟩)), (.d (.str ⟨#[]⟩)), (.d (.str ⟨#[]⟩)), (.d (.int .i64 0)), (.ex []), (.ex [])]), { dst := none, op := .store 6 (.t 2) (.t 10) }]
def X1 : List XI := [J 12 (.load true 6 (.t 2)), J 13 (.call Yp [(.t 12)]), J 11 (.move (.t 13)), J 14 (.extract (.t 11) 0), J 15 (.extract (.t 11) 1), J 3 (.move (.t 14)), J 4 (.move (.t 15))]
def Sf : List XI := [J 16 (.load true 6 (.t 2)), J 17 (.call QZ [(.t 16)]), J 18 (.move (.t 17)), Jt 19 18 (.load true 6 (.t 2)), Jt 20 18 (.call VP [(.t 19)]), Jt 21 18 (.buildSlice 1 [(.c (.d (.str ⟨#[116]⟩)))]), Jt 22 18 (.call O6 [(.t 20), (.t 21)]), J 23 (.pick (.t 18) (.t 22) (.c (.d (.bool false))))]
def Sv : List XI := [J 24 (.move (.t 23)), Jt 25 24 (.load true 6 (.t 2)), Jt 26 24 (.call RK [(.t 25)]), Jt 27 24 (.buildSlice 1 [(.c (.d (.str ⟨#[116]⟩)))]), Jt 28 24 (.call O6 [(.t 26), (.t 27)]), J 29 (.pick (.t 24) (.t 28) (.c (.d (.bool false))))]
def Sn : List XI := [J 30 (.move (.t 29)), Jt 31 30 (.move (.t 3)), Jt 32 30 (.bin .eql (.t 31) (.c (.d (.int .i64 2)))), J 33 (.pick (.t 30) (.t 32) (.c (.d (.bool false))))]
def NE : List XI := [J 34 (.move (.t 33)), Jt 35 34 (.move (.t 4)), Jt 36 34 (.bin .eql (.t 35) (.c (.d (.int .i64 2)))), J 37 (.pick (.t 34) (.t 36) (.c (.d (.bool false))))]
def Kw : List XI := [J 0 (.move (.t 37))]
def XJ : List XI := Sf ++ (Sv ++ (Sn ++ (NE ++ (Kw))))
def Aw6 : XC :=
 (.seq (.region X3)
 (.seq (.region Xy)
 (.seq (.region XO)
 (.seq (.region X1)
 (.seq (.region XJ)
 .ret)))))
theorem AO0 : Fn PR Tq 38 Aw6 [.tmp 0] := ⟨fun vs w => Try.call6 vs w, Try.f6, _, Try.func6, rfl, rfl, by kernel_rfl, by kernel_rfl⟩
def RI : List XI := [J 2 (.move (.c (.d (.bool false))))]
def QI : List XI := [J 3 (.call Y1 []), J 4 (.move (.t 0)), J 5 (.call CX [(.t 3), (.t 4)]), J 2 (.move (.t 5))]
def X6 : XC :=
 (.seq (.region RI)
 (.seq (.region QI)
 .ret))
theorem Av8 : Fn PR Q8 6 X6 [.tmp 2] := ⟨fun vs w => Try.call7 vs w, Try.f7, _, Try.func7, rfl, rfl, by kernel_rfl, by kernel_rfl⟩
def RB : List XI := [J 2 (.move (.c (.d (.bool false))))]
def Rk : List XI := [J 5 (.buildSlice 1 [(.c (.d (.str ⟨#[97, 110, 100]⟩))), (.c (.d (.str ⟨#[111, 114]⟩))), (.c (.d (.str ⟨#[110, 111, 116]⟩))), (.c (.d (.str ⟨#[116, 114, 117, 101]⟩))), (.c (.d (.str ⟨#[102, 97, 108, 115, 101]⟩))), (.c (.d (.str ⟨#[108, 101, 116]⟩))), (.c (.d (.str ⟨#[115, 101, 116]⟩))), (.c (.d (.str ⟨#[105, 110, 115, 101, 114, 116]⟩))), (.c (.d (.str ⟨#[117, 112, 100, 97, 116, 101]⟩))), (.c (.d (.str ⟨#[100, 101, 108, 101, 116, 101]⟩))), (.c (.d (.str ⟨#[102, 111, 114]⟩))), (.c (.d (.str ⟨#[105, 110]⟩))), (.c (.d (.str ⟨#[119, 104, 101, 114, 101]⟩))), (.c (.d (.str ⟨#[108, 105, 109, 105, 116]⟩))), (.c (.d (.str ⟨#[105, 102]⟩))), (.c (.d (.str ⟨#[101, 108, 115, 101]⟩))), (.c (.d (.str ⟨#[101, 109, 105, 116]⟩))), (.c (.d (.str ⟨#[97, 98, 111, 114, 116]⟩))), (.c (.d (.str ⟨#[114, 101, 112, 108, 121]⟩))), (.c (.d (.str ⟨#[99, 111, 117, 110, 116]⟩))), (.c (.d (.str ⟨#[115, 117, 109]⟩))), (.c (.d (.str ⟨#[109, 105, 110]⟩))), (.c (.d (.str ⟨#[109, 97, 120]⟩))), (.c (.d (.str ⟨#[105, 110, 116]⟩))), (.c (.d (.str ⟨#[116, 101, 120, 116]⟩))), (.c (.d (.str ⟨#[98, 111, 111, 108]⟩))), (.c (.d (.str ⟨#[116, 97, 98, 108, 101]⟩))), (.c (.d (.str ⟨#[115, 116, 114, 101, 97, 109]⟩))), (.c (.d (.str ⟨#[119, 105, 110, 100, 111, 119]⟩))), (.c (.d (.str ⟨#[115, 105, 110, 107]⟩))), (.c (.d (.str ⟨#[112, 114, 111, 99]⟩))), (.c (.d (.str ⟨#[107, 101, 121]⟩))), (.c (.d (.str ⟨#[117, 110, 105, 113, 117, 101]⟩))), (.c (.d (.str ⟨#[105, 110, 100, 101, 120]⟩))), (.c (.d (.str ⟨#[112, 97, 114, 116, 115]⟩))), (.c (.d (.str ⟨#[98, 121]⟩))), (.c (.d (.str ⟨#[111, 110]⟩))), (.c (.d (.str ⟨#[102, 114, 111, 109]⟩))), (.c (.d (.str ⟨#[97, 116]⟩))), (.c (.d (.str ⟨#[102, 117, 101, 108]⟩))), (.c (.d (.str ⟨#[116, 117, 112, 108, 101, 115]⟩))), (.c (.d (.str ⟨#[98, 97, 116, 99, 104, 101, 115]⟩))), (.c (.d (.str ⟨#[115, 108, 105, 100, 101]⟩)))]), J 3 (.move (.t 5))]
def Rj : List XI := [J 4 (.move (.c (.d (.int .i64 0))))]
def Qo : List XI := [J 6 (.move (.t 4)), J 7 (.move (.t 3)), J 8 (.lenR (.t 7)), J 9 (.bin .lss (.t 6) (.t 8))]
def RG : List XI := [J 12 (.move (.t 3)), J 13 (.move (.t 4)), J 14 (.indexAddr 1 (.t 12) (.t 13)), J 15 (.load false 1 (.t 14)), J 16 (.move (.t 0)), J 17 (.bin .eql (.t 15) (.t 16))]
def Ro : List XI := [J 2 (.move (.c (.d (.bool true))))]
def QD : List XI := [J 10 (.move (.t 4)), J 11 (.bin .add (.t 10) (.c (.d (.int .i64 1)))), J 4 (.move (.t 11))]
def QE : XC :=
 (.seq (.seq (.region Qo)
 (.cond (.t 9)
 .skip
 (.exit 0)))
 (.seq (.block 1 (.seq (.region RG)
 (.cond (.t 17)
 (.seq (.region Ro)
 .ret)
 .skip)))
 (.region QD)))
def Qu : List XI := [J 2 (.move (.c (.d (.bool false))))]
def XB : XC :=
 (.seq (.region RB)
 (.seq (.region Rk)
 (.seq (.seq (.region Rj)
 (.block 0 (.loop QE)))
 (.seq (.region Qu)
 .ret))))
theorem Az3 : Fn PR QV 18 XB [.tmp 2] := ⟨fun vs w => Try.call8 vs w, Try.f8, _, Try.func8, rfl, rfl, by kernel_rfl, by kernel_rfl⟩
def ZW : List XI := [J 2 (.move (.c (.d (.bool false))))]
def Uw : List XI := [J 3 (.move (.t 0)), J 4 (.call Ms [(.t 3)]), J 5 (.move (.t 4)), Jt 6 5 (.move (.t 0)), Jt 7 5 (.call Dk [(.t 6), (.c (.fn Q8 [] []))]), Jt 8 5 (.not (.t 7)), J 9 (.pick (.t 5) (.t 8) (.c (.d (.bool false))))]
def O7 : List XI := [J 2 (.move (.t 9))]
def Zq : List XI := Uw ++ (O7)
def AH1 : XC :=
 (.seq (.region ZW)
 (.seq (.region Zq)
 .ret))
theorem AS5 : Fn PR JK 10 AH1 [.tmp 2] := ⟨fun vs w => Try.call9 vs w, Try.f9, _, Try.func9, rfl, rfl, by kernel_rfl, by kernel_rfl⟩
def Yw : List XI := [J 2 (.move (.c (.d (.bool false))))]
def UZ : List XI := [J 3 (.move (.t 0)), J 4 (.call Il [(.t 3)]), J 5 (.move (.t 4)), Jt 6 5 (.move (.t 0)), Jt 7 5 (.call QV [(.t 6)]), Jt 8 5 (.not (.t 7)), J 9 (.pick (.t 5) (.t 8) (.c (.d (.bool false))))]
def O2 : List XI := [J 2 (.move (.t 9))]
def Za : List XI := UZ ++ (O2)
def AE8 : XC :=
 (.seq (.region Yw)
 (.seq (.region Za)
 .ret))
theorem AV0 : Fn PR Jl 10 AE8 [.tmp 2] := ⟨fun vs w => Try.call10 vs w, Try.f10, _, Try.func10, rfl, rfl, by kernel_rfl, by kernel_rfl⟩
def Az0 : List XI := [J 1 (.box (.t 0)), J 2 (.alloc [(.d (.str ⟨#[]⟩)), (.d (.str ⟨#[]⟩)), (.d (.str ⟨#[]⟩)), (.d (.int .i64 0)), (.ex []), (.ex [])]), J 3 (.move (.c (.d (.int .i64 0)))), J 4 (.move (.c (.d (.int .i64 0)))), J 5 (.move (.c (.d (.bool false)))), J 6 (.move (.c (.d (.bool false))))]
def Az6 : List XI := [J 13 (.fieldAddr 0 (.t 1)), J 14 (.load false 1 (.t 13)), J 15 (.fieldAddr 1 (.t 1)), J 16 (.load false 1 (.t 15)), J 17 (.fieldAddr 2 (.t 1)), J 18 (.load false 1 (.t 17)), J 19 (.fieldAddr 3 (.t 1)), J 20 (.load false 1 (.t 19)), J 21 (.fieldAddr 4 (.t 1)), J 22 (.load false 1 (.t 21)), J 23 (.build [(.d (.str ⟨#[]⟩)), (.d (.str ⟨#[]⟩)), (.d (.str ⟨#[]⟩)), (.d (.int .i64 0)), (.ex []), (.ex [])] [(0, 1, (.t 14)), (1, 1, (.t 16)), (2, 1, (.t 18)), (3, 1, (.t 20)), (4, 1, (.t 22))]), J 7 (.alloc [(.d (.str ⟨#[]⟩)), (.d (.str ⟨#[]⟩)), (.d (.str ⟨#[]⟩)), (.d (.int .i64 0)), (.ex []), (.ex [])]), { dst := none, op := .store 6 (.t 7) (.t 23) }]
def YX : List XI := [J 24 (.fieldAddr 5 (.t 1)), J 25 (.load false 1 (.t 24)), J 26 (.fieldAddr 6 (.t 1)), J 27 (.load false 1 (.t 26)), J 28 (.call Yx [(.t 25), (.t 27)]), J 29 (.move (.t 28)), Jf 30 29 (.fieldAddr 4 (.t 1)), Jf 31 29 (.load false 1 (.t 30)), Jf 32 29 (.lenR (.t 31)), Jf 33 29 (.bin .gtr (.t 32) (.c (.d (.int .i64 12)))), J 34 (.pick (.t 29) (.c (.d (.bool true))) (.t 33))]
def ZL : List XI := [J 35 (.move (.t 34)), Jf 36 35 (.fieldAddr 7 (.t 1)), Jf 37 35 (.load false 1 (.t 36)), Jf 38 35 (.lenR (.t 37)), Jf 39 35 (.bin .gtr (.t 38) (.c (.d (.int .i64 12)))), J 40 (.pick (.t 35) (.c (.d (.bool true))) (.t 39))]
def Yy : List XI := [J 41 (.move (.t 40)), Jf 42 41 (.fieldAddr 0 (.t 1)), Jf 43 41 (.load false 1 (.t 42)), Jf 44 41 (.lenS (.t 43)), Jf 45 41 (.bin .gtr (.t 44) (.c (.d (.int .i64 100)))), J 46 (.pick (.t 41) (.c (.d (.bool true))) (.t 45))]
def Zu : List XI := [J 47 (.move (.t 46)), Jf 48 47 (.fieldAddr 1 (.t 1)), Jf 49 47 (.load false 1 (.t 48)), Jf 50 47 (.lenS (.t 49)), Jf 51 47 (.bin .gtr (.t 50) (.c (.d (.int .i64 100)))), J 52 (.pick (.t 47) (.c (.d (.bool true))) (.t 51))]
def S1 : List XI := [J 53 (.move (.t 52)), Jf 54 53 (.fieldAddr 2 (.t 1)), Jf 55 53 (.load false 1 (.t 54)), Jf 56 53 (.lenS (.t 55)), Jf 57 53 (.bin .gtr (.t 56) (.c (.d (.int .i64 100)))), J 58 (.pick (.t 53) (.c (.d (.bool true))) (.t 57))]
def Ax0 : List XI := YX ++ (ZL ++ (Yy ++ (Zu ++ (S1))))
def Au3 : List XI := [J 59 (.load true 6 (.t 7)), { dst := none, op := .store 6 (.t 2) (.t 59) }, J 3 (.move (.c (.d (.int .i64 0)))), J 4 (.move (.c (.d (.int .i64 0)))), J 5 (.move (.c (.d (.bool false)))), J 6 (.move (.c (.d (.bool false))))]
def Au4 : List XI := [J 60 (.fieldAddr 5 (.t 1)), J 61 (.load false 1 (.t 60)), J 62 (.fieldAddr 6 (.t 1)), J 63 (.load false 1 (.t 62)), J 64 (.call Y6 [(.t 61), (.t 63)]), J 8 (.alloc [(.ex []), (.ex []), (.ex []), (.ex []), (.ex []), (.ex [])]), { dst := none, op := .store 6 (.t 8) (.t 64) }]
def Ay0 : List XI := [J 9 (.move (.c (.d (.int .i64 0)))), J 10 (.move (.c (.d (.int .i64 0))))]
def As2 : List XI := [J 11 (.move (.c (.d (.int .i64 0))))]
def As9 : List XI := [J 65 (.move (.t 11)), J 66 (.fieldAddr 7 (.t 1)), J 67 (.load false 1 (.t 66)), J 68 (.lenR (.t 67)), J 69 (.bin .lss (.t 65) (.t 68)), J 70 (.move (.t 69)), Jt 71 70 (.fieldAddr 3 (.t 8)), Jt 72 70 (.load false 1 (.t 71)), Jt 73 70 (.lenR (.t 72)), Jt 74 70 (.bin .gtr (.t 73) (.c (.d (.int .i64 0)))), J 75 (.pick (.t 70) (.t 74) (.c (.d (.bool false))))]
def Ay4 : List XI := [J 78 (.fieldAddr 3 (.t 8)), J 79 (.load false 1 (.t 78)), J 80 (.lenR (.t 79)), J 81 (.bin .sub (.t 80) (.c (.d (.int .i64 1)))), J 82 (.fieldAddr 7 (.t 1)), J 83 (.load false 1 (.t 82)), J 84 (.move (.t 11)), J 85 (.indexAddr 1 (.t 83) (.t 84)), J 86 (.load false 1 (.t 85)), J 87 (.toInt .u64 (.t 86)), J 88 (.fieldAddr 3 (.t 8)), J 89 (.load false 1 (.t 88)), J 90 (.lenR (.t 89)), J 91 (.toInt .u64 (.t 90)), J 92 (.bin .rem (.t 87) (.t 91)), J 93 (.toInt .i64 (.t 92)), J 94 (.bin .sub (.t 81) (.t 93)), J 12 (.move (.t 94))]
def Ax5 : List XI := [J 95 (.fieldAddr 5 (.t 7)), J 96 (.load false 1 (.t 95)), J 97 (.fieldAddr 3 (.t 8)), J 98 (.load false 1 (.t 97)), J 99 (.move (.t 12)), J 100 (.indexAddr 8 (.t 98) (.t 99)), J 101 (.load true 8 (.t 100)), J 102 (.buildSlice 8 [(.t 101)]), J 103 (.append AU 8 144 (.t 96) (.t 102)), J 104 (.fieldAddr 5 (.t 7)), { dst := none, op := .store 1 (.t 104) (.t 103) }]
def Aj1 : List XI := [J 105 (.move (.t 9)), J 106 (.fieldAddr 4 (.t 8)), J 107 (.load false 1 (.t 106)), J 108 (.move (.t 12)), J 109 (.indexAddr 1 (.t 107) (.t 108)), J 110 (.load false 1 (.t 109)), J 111 (.bin .add (.t 105) (.t 110)), J 9 (.move (.t 111))]
def Am5 : List XI := [J 112 (.move (.t 10)), J 113 (.fieldAddr 5 (.t 8)), J 114 (.load false 1 (.t 113)), J 115 (.move (.t 12)), J 116 (.indexAddr 1 (.t 114) (.t 115)), J 117 (.load false 1 (.t 116)), J 118 (.minmax true (.t 112) [(.t 117)]), J 10 (.move (.t 118))]
def Ak0 : List XI := [J 76 (.move (.t 11)), J 77 (.bin .add (.t 76) (.c (.d (.int .i64 1)))), J 11 (.move (.t 77))]
def Am7 : XC :=
 (.seq (.seq (.region As9)
 (.cond (.t 75)
 .skip
 (.exit 0)))
 (.seq (.block 1 (.seq (.regionS Ay4 0)
 (.seq (.regionS Ax5 1)
 (.seq (.region Aj1)
 (.region Am5)))))
 (.region Ak0)))
def Ak4 : List XI := [J 120 (.move (.t 9)), J 121 (.move (.t 10)), J 122 (.call Tp [(.t 120), (.t 121)]), J 119 (.move (.t 122)), J 123 (.extract (.t 119) 0), J 124 (.extract (.t 119) 1), J 9 (.move (.t 123)), J 10 (.move (.t 124))]
def Ai8 : List XI := [J 125 (.load true 6 (.t 7)), J 126 (.move (.t 9)), J 127 (.move (.t 10)), J 128 (.move (.t 9)), J 129 (.bin .leq (.t 128) (.c (.d (.int .i64 300)))), J 130 (.move (.t 129)), Jt 131 130 (.move (.t 10)), Jt 132 130 (.bin .leq (.t 131) (.c (.d (.int .i64 12)))), J 133 (.pick (.t 130) (.t 132) (.c (.d (.bool false)))), J 134 (.move (.t 133)), Jt 135 134 (.load true 6 (.t 7)), Jt 136 134 (.call Aa6 [(.t 135)]), J 137 (.pick (.t 134) (.t 136) (.c (.d (.bool false)))), J 138 (.move (.t 137)), Jt 139 138 (.fieldAddr 5 (.t 7)), Jt 140 138 (.load false 1 (.t 139)), { dst := some 141, op := .call Ic [(.t 140)], guard := some (138, true), nm := 1 }, J 142 (.pick (.t 138) (.t 141) (.c (.d (.bool false)))), { dst := none, op := .store 6 (.t 2) (.t 125) }, J 3 (.move (.t 126)), J 4 (.move (.t 127)), J 5 (.move (.t 142)), J 6 (.move (.c (.d (.bool true))))]
def AV9 : XC :=
 (.seq (.region Az0)
 (.seq (.region Az6)
 (.seq (.seq (.region Ax0)
 (.cond (.t 58)
 (.seq (.region Au3)
 .ret)
 .skip))
 (.seq (.region Au4)
 (.seq (.region Ay0)
 (.seq (.seq (.region As2)
 (.block 0 (.loop Am7)))
 (.seq (.region Ak4)
 (.seq (.regionD Ai8 [[], [], [], [], [3], [4, 3], [5, 4, 3], [6, 5, 4, 3], [5, 4, 3, 7, 6], [8, 5, 4, 3, 7, 6], [9, 8, 5, 4, 3, 7, 6], [10, 9, 8, 5, 4, 3, 7, 6], [9, 8, 5, 4, 3, 7, 6, 11, 10], [12, 9, 8, 5, 4, 3, 7, 6, 11, 10], [13, 12, 9, 8, 5, 4, 3, 7, 6, 11, 10], [14, 13, 12, 9, 8, 5, 4, 3, 7, 6, 11, 10], [15, 14, 13, 12, 9, 8, 5, 4, 3, 7, 6, 11, 10], [13, 12, 9, 8, 5, 4, 3, 7, 6, 11, 10, 16, 15, 14], [0, 16, 15, 14, 13, 12, 9, 8, 5, 4, 3, 7, 6, 11, 10], [1, 18, 0, 16, 15, 14, 13, 12, 9, 8, 5, 4, 3, 7, 6, 11, 10], [2, 19, 1, 18, 0, 16, 15, 14, 13, 12, 9, 8, 5, 4, 3, 7, 6, 11, 10], [17, 13, 12, 9, 8, 5, 4, 3, 7, 6, 11, 10, 16, 15, 14, 20, 2, 19, 1, 18, 0], [21, 17, 13, 12, 9, 8, 5, 4, 3, 7, 6, 11, 10, 16, 15, 14, 20, 2, 19, 1, 18, 0]] 2)
 .ret))))))))
theorem AZ1 : Fn PR AL0 143 AV9 [.cell 2 true 6, .tmp 3, .tmp 4, .tmp 5, .tmp 6] := ⟨fun vs w => Try.call11 vs w, Try.f11, _, Try.func11, rfl, rfl, by kernel_rfl, by kernel_rfl⟩
def YY : List XI := [J 1 (.box (.t 0)), J 2 (.move (.c (.d (.int .i64 0)))), J 3 (.move (.c (.d (.int .i64 0))))]
def YJ : List XI := [J 5 (.fieldAddr 5 (.t 1)), J 6 (.load false 1 (.t 5)), J 7 (.call FN [(.t 6), (.c (.d (.int .i64 0))), (.c (.fn F0 [] []))]), J 4 (.alloc [(.d (.int .i64 0)), (.d (.int .i64 0))]), { dst := none, op := .store 2 (.t 4) (.t 7) }]
def Ab1 : List XI := [J 8 (.call Po [(.t 4)]), J 9 (.extract (.t 8) 0), J 10 (.extract (.t 8) 1), J 2 (.move (.t 9)), J 3 (.move (.t 10))]
def AF5 : XC :=
 (.seq (.region YY)
 (.seq (.region YJ)
 (.seq (.region Ab1)
 .ret)))
theorem AT1 : Fn PR Yp 11 AF5 [.tmp 2, .tmp 3] := ⟨fun vs w => Try.call12 vs w, Try.f12, _, Try.func12, rfl, rfl, by kernel_rfl, by kernel_rfl⟩
def Xp : List XI := [J 1 (.box (.t 0)), J 2 (.move (.c (.ex [])))]
def X5 : List XI := [J 3 (.load true 6 (.t 1)), J 4 (.call V5 [(.t 3)]), J 5 (.field false 0 1 (.t 4)), J 6 (.call Bp [(.t 5)]), J 7 (.call CI [(.t 6)]), J 2 (.move (.t 7))]
def Av9 : XC :=
 (.seq (.region Xp)
 (.seq (.region X5)
 .ret))
theorem AR8 : Fn PR VP 8 Av9 [.tmp 2] := ⟨fun vs w => Try.call13 vs w, Try.f13, _, Try.func13, rfl, rfl, by kernel_rfl, by kernel_rfl⟩
def Zo : List XI := [J 4 (.move (.c (.d (.bool false))))]
def YP : List XI := [J 6 (.move (.t 0)), J 7 (.lenR (.t 6)), J 8 (.move (.t 1)), J 9 (.lenR (.t 8)), J 10 (.bin .neq (.t 7) (.t 9))]
def Y0 : List XI := [J 4 (.move (.c (.d (.bool false))))]
def YN : List XI := [J 5 (.move (.c (.d (.int .i64 0))))]
def Zx : List XI := [J 11 (.move (.t 5)), J 12 (.move (.t 0)), J 13 (.lenR (.t 12)), J 14 (.bin .lss (.t 11) (.t 13))]
def Y7 : List XI := [J 17 (.move (.t 0)), J 18 (.move (.t 5)), J 19 (.indexAddr 1 (.t 17) (.t 18)), J 20 (.load false 1 (.t 19)), J 21 (.move (.t 1)), J 22 (.move (.t 5)), J 23 (.indexAddr 1 (.t 21) (.t 22)), J 24 (.load false 1 (.t 23)), J 25 (.bin .neq (.t 20) (.t 24))]
def ZT : List XI := [J 4 (.move (.c (.d (.bool false))))]
def YK : List XI := [J 15 (.move (.t 5)), J 16 (.bin .add (.t 15) (.c (.d (.int .i64 1)))), J 5 (.move (.t 16))]
def YG : XC :=
 (.seq (.seq (.region Zx)
 (.cond (.t 14)
 .skip
 (.exit 0)))
 (.seq (.block 1 (.seq (.regionS Y7 0)
 (.cond (.t 25)
 (.seq (.region ZT)
 .ret)
 .skip)))
 (.region YK)))
def ZK : List XI := [J 4 (.move (.c (.d (.bool true))))]
def AF7 : XC :=
 (.seq (.region Zo)
 (.seq (.seq (.region YP)
 (.cond (.t 10)
 (.seq (.region Y0)
 .ret)
 .skip))
 (.seq (.seq (.region YN)
 (.block 0 (.loop YG)))
 (.seq (.region ZK)
 .ret))))
theorem AS1 : Fn PR O6 26 AF7 [.tmp 4] := ⟨fun vs w => Try.call14 vs w, Try.f14, _, Try.func14, rfl, rfl, by kernel_rfl, by kernel_rfl⟩
def Al2 : List XI := [J 4 (.move (.c (.ex [])))]
def Aj3 : List XI := [J 5 (.move (.c (.d (.int .i64 0))))]
def Am3 : List XI := [J 7 (.move (.t 5)), J 8 (.move (.t 0)), J 9 (.lenR (.t 8)), J 10 (.bin .lss (.t 7) (.t 9)), J 11 (.move (.t 10)), Jt 12 11 (.move (.t 0)), Jt 13 11 (.move (.t 5)), Jt 14 11 (.indexAddr 1 (.t 12) (.t 13)), Jt 15 11 (.load false 1 (.t 14)), Jt 16 11 (.move (.t 1)), Jt 17 11 (.bin .lss (.t 15) (.t 16)), J 18 (.pick (.t 11) (.t 17) (.c (.d (.bool false))))]
def Al6 : List XI := [J 19 (.move (.t 5)), J 20 (.bin .add (.t 19) (.c (.d (.int .i64 1)))), J 5 (.move (.t 20))]
def Aj2 : XC :=
 (.seq (.seq (.region Am3)
 (.cond (.t 18)
 .skip
 (.exit 0)))
 (.block 1 (.region Al6)))
def Ak2 : List XI := [J 21 (.move (.t 5)), J 22 (.move (.t 0)), J 23 (.lenR (.t 22)), J 24 (.bin .lss (.t 21) (.t 23)), J 25 (.move (.t 24)), Jt 26 25 (.move (.t 0)), Jt 27 25 (.move (.t 5)), Jt 28 25 (.indexAddr 1 (.t 26) (.t 27)), Jt 29 25 (.load false 1 (.t 28)), Jt 30 25 (.move (.t 1)), Jt 31 25 (.bin .eql (.t 29) (.t 30)), J 32 (.pick (.t 25) (.t 31) (.c (.d (.bool false))))]
def Ak8 : List XI := [J 33 (.move (.t 0)), J 4 (.move (.t 33))]
def Ak3 : List XI := [J 6 (.move (.c (.ex [])))]
def Al3 : List XI := [J 34 (.move (.t 6)), J 35 (.move (.t 0)), J 36 (.move (.t 5)), J 37 (.sliceR 1 (.t 35) none (some (.t 36)) none), J 38 (.append AD 1 16 (.t 34) (.t 37)), J 6 (.move (.t 38))]
def Ak5 : List XI := [J 39 (.move (.t 6)), J 40 (.move (.t 1)), J 41 (.buildSlice 1 [(.t 40)]), J 42 (.append AD 1 16 (.t 39) (.t 41)), J 6 (.move (.t 42))]
def Zf : List XI := [J 43 (.move (.t 6)), J 44 (.move (.t 0)), J 45 (.move (.t 5)), J 46 (.sliceR 1 (.t 44) (some (.t 45)) none none), J 47 (.append AD 1 16 (.t 43) (.t 46)), J 4 (.move (.t 47))]
def AP8 : XC :=
 (.seq (.region Al2)
 (.seq (.region Aj3)
 (.seq (.block 0 (.loop Aj2))
 (.seq (.seq (.region Ak2)
 (.cond (.t 32)
 (.seq (.region Ak8)
 .ret)
 .skip))
 (.seq (.region Ak3)
 (.seq (.region Al3)
 (.seq (.region Ak5)
 (.seq (.region Zf)
 .ret))))))))
theorem AX9 : Fn PR Am8 48 AP8 [.tmp 4] := ⟨fun vs w => Try.call15 vs w, Try.f15, _, Try.func15, rfl, rfl, by kernel_rfl, by kernel_rfl⟩
def Xg : List XI := [J 1 (.box (.t 0)), J 2 (.move (.c (.d (.bool false))))]
def Xc : List XI := [J 4 (.fieldAddr 5 (.t 1)), J 5 (.load false 1 (.t 4)), J 6 (.call FN [(.t 5), (.c (.d (.int .i64 0))), (.c (.fn F0 [] []))]), J 3 (.alloc [(.d (.int .i64 0)), (.d (.int .i64 0))]), { dst := none, op := .store 2 (.t 3) (.t 6) }]
def Se : List XI := [J 7 (.load true 6 (.t 1)), J 8 (.call Y8 [(.t 7)]), J 9 (.move (.t 8)), Jt 10 9 (.call Nx [(.t 3)]), J 11 (.pick (.t 9) (.t 10) (.c (.d (.bool false))))]
def SA : List XI := [J 12 (.move (.t 11)), Jt 13 12 (.fieldAddr 5 (.t 1)), Jt 14 12 (.load false 1 (.t 13)), Jt 15 12 (.call Hl [(.t 14)]), J 16 (.pick (.t 12) (.t 15) (.c (.d (.bool false))))]
def NB : List XI := [J 2 (.move (.t 16))]
def WG : List XI := Se ++ (SA ++ (NB))
def Aw2 : XC :=
 (.seq (.region Xg)
 (.seq (.region Xc)
 (.seq (.region WG)
 .ret)))
theorem AQ0 : Fn PR QZ 17 Aw2 [.tmp 2] := ⟨fun vs w => Try.call16 vs w, Try.f16, _, Try.func16, rfl, rfl, by kernel_rfl, by kernel_rfl⟩
def YD : List XI := [J 6 (.move (.c (.ex [])))]
def Zj : List XI := [J 7 (.move (.c (.d (.int .i64 0))))]
def Zd : List XI := [J 10 (.move (.t 7)), J 11 (.move (.t 1)), J 12 (.lenR (.t 11)), J 13 (.bin .lss (.t 10) (.t 12))]
def YE : List XI := [J 16 (.move (.t 1)), J 17 (.move (.t 7)), J 18 (.indexAddr 8 (.t 16) (.t 17)), J 19 (.load true 8 (.t 18)), J 8 (.alloc [(.d (.int .i64 0)), (.d (.str ⟨#[]⟩)), (.d (.str ⟨#[]⟩)), (.d (.int .i64 0)), (.ex []), (.ex []), (.ex []), (.ex [])]), { dst := none, op := .store 8 (.t 8) (.t 19) }]
def UW : List XI := [J 20 (.move (.t 2)), J 21 (.bin .eql (.t 20) (.c (.d (.int .i64 0)))), J 22 (.move (.t 21)), Jt 23 22 (.fieldAddr 0 (.t 8)), Jt 24 22 (.load false 1 (.t 23)), Jt 25 22 (.bin .geq (.t 24) (.c (.d (.int .i64 4)))), J 26 (.pick (.t 22) (.t 25) (.c (.d (.bool false))))]
def VK : List XI := [J 27 (.move (.t 26)), Jt 28 27 (.fieldAddr 0 (.t 8)), Jt 29 27 (.load false 1 (.t 28)), Jt 30 27 (.bin .leq (.t 29) (.c (.d (.int .i64 6)))), J 31 (.pick (.t 27) (.t 30) (.c (.d (.bool false))))]
def UJ : List XI := [J 32 (.move (.t 31)), Jf 33 32 (.move (.t 2)), Jf 34 32 (.bin .eql (.t 33) (.c (.d (.int .i64 1)))), Jf 35 32 (.move (.t 34)), Jt 36 35 (.fieldAddr 0 (.t 8)), Jt 37 35 (.load false 1 (.t 36)), Jt 38 35 (.bin .geq (.t 37) (.c (.d (.int .i64 3)))), Jf 39 32 (.pick (.t 35) (.t 38) (.c (.d (.bool false)))), Jf 40 32 (.move (.t 39)), Jt 41 40 (.fieldAddr 0 (.t 8)), Jt 42 40 (.load false 1 (.t 41)), Jt 43 40 (.bin .leq (.t 42) (.c (.d (.int .i64 5)))), Jf 44 32 (.pick (.t 40) (.t 43) (.c (.d (.bool false)))), J 45 (.pick (.t 32) (.c (.d (.bool true))) (.t 44))]
def T4 : List XI := [J 46 (.move (.t 45)), Jf 47 46 (.move (.t 2)), Jf 48 46 (.bin .eql (.t 47) (.c (.d (.int .i64 2)))), Jf 49 46 (.move (.t 48)), Jt 50 49 (.fieldAddr 0 (.t 8)), Jt 51 49 (.load false 1 (.t 50)), Jt 52 49 (.bin .eql (.t 51) (.c (.d (.int .i64 8)))), Jf 53 46 (.pick (.t 49) (.t 52) (.c (.d (.bool false)))), J 54 (.pick (.t 46) (.c (.d (.bool true))) (.t 53))]
def Ac9 : List XI := UW ++ (VK ++ (UJ ++ (T4)))
def ZY : List XI := [J 55 (.move (.t 0)), J 56 (.fieldAddr 2 (.t 8)), J 57 (.load false 1 (.t 56)), J 58 (.call Am8 [(.t 55), (.t 57)]), J 0 (.move (.t 58))]
def Y2 : List XI := [J 9 (.move (.c (.d (.int .i64 0))))]
def ZO : List XI := [J 59 (.move (.t 9)), J 60 (.fieldAddr 5 (.t 8)), J 61 (.load false 1 (.t 60)), J 62 (.lenR (.t 61)), J 63 (.bin .lss (.t 59) (.t 62)), J 64 (.move (.t 63)), Jt 65 64 (.move (.t 2)), Jt 66 64 (.bin .eql (.t 65) (.c (.d (.int .i64 0)))), J 67 (.pick (.t 64) (.t 66) (.c (.d (.bool false))))]
def Ac0 : List XI := [J 70 (.move (.t 0)), J 71 (.fieldAddr 5 (.t 8)), J 72 (.load false 1 (.t 71)), J 73 (.move (.t 9)), J 74 (.indexAddr 6 (.t 72) (.t 73)), J 75 (.load true 6 (.t 74)), J 76 (.call IV [(.t 70), (.t 75)]), J 0 (.move (.t 76))]
def ZP : List XI := [J 68 (.move (.t 9)), J 69 (.bin .add (.t 68) (.c (.d (.int .i64 1)))), J 9 (.move (.t 69))]
def WR : XC :=
 (.seq (.seq (.region ZO)
 (.cond (.t 67)
 .skip
 (.exit 2)))
 (.seq (.block 3 (.region Ac0))
 (.region ZP)))
def W4 : List XI := [J 77 (.move (.t 0)), J 78 (.fieldAddr 6 (.t 8)), J 79 (.load false 1 (.t 78)), J 80 (.move (.t 2)), J 81 (.call Ks [(.t 77), (.t 79), (.t 80)]), J 0 (.move (.t 81))]
def Xk : List XI := [J 82 (.move (.t 0)), J 83 (.fieldAddr 7 (.t 8)), J 84 (.load false 1 (.t 83)), J 85 (.move (.t 2)), J 86 (.call Ks [(.t 82), (.t 84), (.t 85)]), J 0 (.move (.t 86))]
def Xf : List XI := [J 14 (.move (.t 7)), J 15 (.bin .add (.t 14) (.c (.d (.int .i64 1)))), J 7 (.move (.t 15))]
def Xs : XC :=
 (.seq (.seq (.region Zd)
 (.cond (.t 13)
 .skip
 (.exit 0)))
 (.seq (.block 1 (.seq (.region YE)
 (.seq (.seq (.region Ac9)
 (.cond (.t 54)
 (.region ZY)
 .skip))
 (.seq (.seq (.region Y2)
 (.block 2 (.loop WR)))
 (.seq (.region W4)
 (.region Xk))))))
 (.region Xf)))
def XD : List XI := [J 87 (.move (.t 0)), J 6 (.move (.t 87))]
def AG4 : XC :=
 (.seq (.region YD)
 (.seq (.seq (.region Zj)
 (.block 0 (.loop Xs)))
 (.seq (.region XD)
 .ret)))
theorem AV1 : Fn PR Ks 88 AG4 [.tmp 6] := ⟨fun vs w => Try.call17 vs w, Try.f17, _, Try.func17, rfl, rfl, by kernel_rfl, by kernel_rfl⟩
def TU : List XI := [J 1 (.box (.t 0)), J 2 (.move (.c (.ex [])))]
def Vs : List XI := [J 3 (.load true 6 (.t 1)), J 4 (.call V5 [(.t 3)]), J 5 (.field false 1 1 (.t 4)), J 6 (.call Bp [(.t 5)]), J 7 (.call CI [(.t 6)]), J 2 (.move (.t 7))]
def Aj6 : XC :=
 (.seq (.region TU)
 (.seq (.region Vs)
 .ret))
theorem AI3 : Fn PR RK 8 Aj6 [.tmp 2] := ⟨fun vs w => Try.call18 vs w, Try.f18, _, Try.func18, rfl, rfl, by kernel_rfl, by kernel_rfl⟩
def Xh : List XI := [J 1 (.box (.t 0)), J 2 (.move (.c (.ex [])))]
def Xx : List XI := [J 3 (.load true 6 (.t 1)), J 4 (.call V5 [(.t 3)]), J 5 (.field false 2 1 (.t 4)), J 6 (.call Bp [(.t 5)]), J 7 (.call CI [(.t 6)]), J 2 (.move (.t 7))]
def At0 : XC :=
 (.seq (.region Xh)
 (.seq (.region Xx)
 .ret))
theorem AR7 : Fn PR Z8 8 At0 [.tmp 2] := ⟨fun vs w => Try.call19 vs w, Try.f19, _, Try.func19, rfl, rfl, by kernel_rfl, by kernel_rfl⟩
def Fz : List XI := [J 4 (.move (.c (.d (.bool false))))]
def FC : List XI := [J 5 (.move (.t 0)), J 6 (.move (.t 1)), J 7 (.call ET [(.t 5), (.t 6)]), J 8 (.bin .geq (.t 7) (.c (.d (.int .i64 0)))), J 4 (.move (.t 8))]
def Gu : XC :=
 (.seq (.region Fz)
 (.seq (.region FC)
 .ret))
theorem JZ : Fn PR CX 9 Gu [.tmp 4] := ⟨fun vs w => Try.call20 vs w, Try.f20, _, Try.func20, rfl, rfl, by kernel_rfl, by kernel_rfl⟩
def Xq : List XI := [J 0 (.move (.c (.ex [])))]
def XM : List XI := [J 1 (.buildSlice 1 [(.c (.d (.str ⟨#[97, 110, 100]⟩))), (.c (.d (.str ⟨#[111, 114]⟩))), (.c (.d (.str ⟨#[110, 111, 116]⟩))), (.c (.d (.str ⟨#[116, 114, 117, 101]⟩))), (.c (.d (.str ⟨#[102, 97, 108, 115, 101]⟩))), (.c (.d (.str ⟨#[108, 101, 116]⟩))), (.c (.d (.str ⟨#[115, 101, 116]⟩))), (.c (.d (.str ⟨#[105, 110, 115, 101, 114, 116]⟩))), (.c (.d (.str ⟨#[117, 112, 100, 97, 116, 101]⟩))), (.c (.d (.str ⟨#[100, 101, 108, 101, 116, 101]⟩))), (.c (.d (.str ⟨#[102, 111, 114]⟩))), (.c (.d (.str ⟨#[105, 110]⟩))), (.c (.d (.str ⟨#[119, 104, 101, 114, 101]⟩))), (.c (.d (.str ⟨#[108, 105, 109, 105, 116]⟩))), (.c (.d (.str ⟨#[105, 102]⟩))), (.c (.d (.str ⟨#[101, 108, 115, 101]⟩))), (.c (.d (.str ⟨#[101, 109, 105, 116]⟩))), (.c (.d (.str ⟨#[97, 98, 111, 114, 116]⟩))), (.c (.d (.str ⟨#[114, 101, 112, 108, 121]⟩))), (.c (.d (.str ⟨#[99, 111, 117, 110, 116]⟩))), (.c (.d (.str ⟨#[115, 117, 109]⟩))), (.c (.d (.str ⟨#[109, 105, 110]⟩))), (.c (.d (.str ⟨#[109, 97, 120]⟩))), (.c (.d (.str ⟨#[105, 110, 116]⟩))), (.c (.d (.str ⟨#[116, 101, 120, 116]⟩))), (.c (.d (.str ⟨#[98, 111, 111, 108]⟩))), (.c (.d (.str ⟨#[116, 97, 98, 108, 101]⟩))), (.c (.d (.str ⟨#[115, 116, 114, 101, 97, 109]⟩))), (.c (.d (.str ⟨#[119, 105, 110, 100, 111, 119]⟩))), (.c (.d (.str ⟨#[115, 105, 110, 107]⟩))), (.c (.d (.str ⟨#[112, 114, 111, 99]⟩))), (.c (.d (.str ⟨#[107, 101, 121]⟩))), (.c (.d (.str ⟨#[117, 110, 105, 113, 117, 101]⟩))), (.c (.d (.str ⟨#[105, 110, 100, 101, 120]⟩))), (.c (.d (.str ⟨#[112, 97, 114, 116, 115]⟩))), (.c (.d (.str ⟨#[98, 121]⟩))), (.c (.d (.str ⟨#[111, 110]⟩))), (.c (.d (.str ⟨#[102, 114, 111, 109]⟩))), (.c (.d (.str ⟨#[97, 116]⟩))), (.c (.d (.str ⟨#[102, 117, 101, 108]⟩))), (.c (.d (.str ⟨#[116, 117, 112, 108, 101, 115]⟩))), (.c (.d (.str ⟨#[98, 97, 116, 99, 104, 101, 115]⟩))), (.c (.d (.str ⟨#[115, 108, 105, 100, 101]⟩)))]), J 0 (.move (.t 1))]
def Ay8 : XC :=
 (.seq (.region Xq)
 (.seq (.region XM)
 .ret))
theorem AP6 : Fn PR Y1 2 Ay8 [.tmp 0] := ⟨fun vs w => Try.call21 vs w, Try.f21, _, Try.func21, rfl, rfl, by kernel_rfl, by kernel_rfl⟩
def MJ : List XI := [J 2 (.move (.c (.d (.bool false))))]
def Na : List XI := [J 5 (.move (.t 0)), J 6 (.lenR (.t 5)), J 7 (.move (.c (.d (.int .i64 0))))]
def Nn : List XI := [J 8 (.bin .lss (.t 7) (.t 6))]
def ML : List XI := [J 9 (.indexAddr 1 (.t 5) (.t 7)), J 10 (.load false 1 (.t 9)), J 4 (.move (.t 10))]
def M8 : List XI := [J 11 (.move (.t 4)), J 12 (.call Mn [(.t 11)]), J 13 (.not (.t 12))]
def Nl : List XI := [J 2 (.move (.c (.d (.bool false))))]
def MO : List XI := [J 14 (.bin .add (.t 7) (.c (.d (.int .i64 1)))), J 7 (.move (.t 14))]
def MN : XC :=
 (.seq (.region Nn)
 (.seq (.cond (.t 8)
 .skip
 (.exit 0))
 (.seq (.block 1 (.seq (.region ML)
 (.seq (.region M8)
 (.cond (.t 13)
 (.seq (.region Nl)
 .ret)
 .skip))))
 (.region MO))))
def Ni : List XI := [J 2 (.move (.c (.d (.bool true))))]
def QF : XC :=
 (.seq (.region MJ)
 (.seq (.seq (.region Na)
 (.block 0 (.loop MN)))
 (.seq (.region Ni)
 .ret)))
theorem ZI : Fn PR Ms 15 QF [.tmp 2] := ⟨fun vs w => Try.call22 vs w, Try.f22, _, Try.func22, rfl, rfl, by kernel_rfl, by kernel_rfl⟩
def EH : List XI := [J 4 (.move (.c (.d (.bool false))))]
def EO : List XI := [J 5 (.move (.t 0)), J 6 (.move (.t 1)), J 7 (.call DH [(.t 5), (.t 6)]), J 8 (.bin .geq (.t 7) (.c (.d (.int .i64 0)))), J 4 (.move (.t 8))]
def Fa : XC :=
 (.seq (.region EH)
 (.seq (.region EO)
 .ret))
theorem ID : Fn PR Dk 9 Fa [.tmp 4] := ⟨fun vs w => Try.call23 vs w, Try.f23, _, Try.func23, rfl, rfl, by kernel_rfl, by kernel_rfl⟩
def JQ : List XI := [J 2 (.move (.c (.d (.bool false))))]
def JH : List XI := [J 6 (.move (.t 0)), J 7 (.lenS (.t 6)), J 8 (.bin .lss (.t 7) (.c (.d (.int .i64 1)))), J 9 (.move (.t 8)), Jf 10 9 (.move (.t 0)), Jf 11 9 (.lenS (.t 10)), Jf 12 9 (.bin .gtr (.t 11) (.c (.d (.int .i64 16)))), J 13 (.pick (.t 9) (.c (.d (.bool true))) (.t 12))]
def JJ : List XI := [J 2 (.move (.c (.d (.bool false))))]
def Jd : List XI := [J 3 (.move (.c (.d (.int .i64 0))))]
def JL : List XI := [J 14 (.move (.t 3)), J 15 (.move (.t 0)), J 16 (.lenS (.t 15)), J 17 (.bin .lss (.t 14) (.t 16))]
def JA : List XI := [J 20 (.move (.t 0)), J 21 (.move (.t 3)), J 22 (.indexStr (.t 20) (.t 21)), J 4 (.move (.t 22))]
def IB : List XI := [J 23 (.move (.t 4)), J 24 (.bin .geq (.t 23) (.c (.d (.int .u8 97)))), J 25 (.move (.t 24)), Jt 26 25 (.move (.t 4)), Jt 27 25 (.bin .leq (.t 26) (.c (.d (.int .u8 122)))), J 28 (.pick (.t 25) (.t 27) (.c (.d (.bool false))))]
def Gf : List XI := [J 5 (.move (.t 28))]
def Jk : List XI := IB ++ (Gf)
def JF : List XI := [J 29 (.move (.t 5)), J 30 (.not (.t 29)), J 31 (.move (.t 30)), Jt 32 31 (.move (.t 3)), Jt 33 31 (.bin .eql (.t 32) (.c (.d (.int .i64 0)))), Jt 34 31 (.move (.t 33)), Jf 35 34 (.move (.t 4)), Jf 36 34 (.bin .geq (.t 35) (.c (.d (.int .u8 48)))), Jf 37 34 (.move (.t 36)), Jt 38 37 (.move (.t 4)), Jt 39 37 (.bin .leq (.t 38) (.c (.d (.int .u8 57)))), Jf 40 34 (.pick (.t 37) (.t 39) (.c (.d (.bool false)))), Jf 41 34 (.not (.t 40)), Jf 42 34 (.move (.t 41)), Jt 43 42 (.move (.t 4)), Jt 44 42 (.bin .neq (.t 43) (.c (.d (.int .u8 95)))), Jf 45 34 (.pick (.t 42) (.t 44) (.c (.d (.bool false)))), Jt 46 31 (.pick (.t 34) (.c (.d (.bool true))) (.t 45)), J 47 (.pick (.t 31) (.t 46) (.c (.d (.bool false))))]
def E3 : List XI := [J 2 (.move (.c (.d (.bool false))))]
def Da : List XI := [J 18 (.move (.t 3)), J 19 (.bin .add (.t 18) (.c (.d (.int .i64 1)))), J 3 (.move (.t 19))]
def IZ : XC :=
 (.seq (.seq (.region JL)
 (.cond (.t 17)
 .skip
 (.exit 0)))
 (.seq (.block 1 (.seq (.region JA)
 (.seq (.region Jk)
 (.seq (.region JF)
 (.cond (.t 47)
 (.seq (.region E3)
 .ret)
 .skip)))))
 (.region Da)))
def I7 : List XI := [J 2 (.move (.c (.d (.bool true))))]
def K8 : XC :=
 (.seq (.region JQ)
 (.seq (.seq (.region JH)
 (.cond (.t 13)
 (.seq (.region JJ)
 .ret)
 .skip))
 (.seq (.seq (.region Jd)
 (.block 0 (.loop IZ)))
 (.seq (.region I7)
 .ret))))
theorem R3 : Fn PR Il 48 K8 [.tmp 2] := ⟨fun vs w => Try.call24 vs w, Try.f24, _, Try.func24, rfl, rfl, by kernel_rfl, by kernel_rfl⟩
def WY : List XI := [J 4 (.move (.c (.d (.bool false))))]
def Xe : List XI := [J 8 (.move (.t 0)), J 9 (.lenR (.t 8)), J 10 (.bin .gtr (.t 9) (.c (.d (.int .i64 50)))), J 11 (.move (.t 10)), Jf 12 11 (.move (.t 1)), Jf 13 11 (.lenR (.t 12)), Jf 14 11 (.bin .gtr (.t 13) (.c (.d (.int .i64 50)))), J 15 (.pick (.t 11) (.c (.d (.bool true))) (.t 14))]
def WZ : List XI := [J 4 (.move (.c (.d (.bool true))))]
def WM : List XI := [J 5 (.move (.c (.d (.int .i64 0))))]
def Xb : List XI := [J 16 (.move (.t 5)), J 17 (.move (.t 0)), J 18 (.lenR (.t 17)), J 19 (.bin .lss (.t 16) (.t 18))]
def Sg : List XI := [J 22 (.move (.t 0)), J 23 (.move (.t 5)), J 24 (.indexAddr 6 (.t 22) (.t 23)), J 25 (.fieldAddr 2 (.t 24)), J 26 (.load false 1 (.t 25)), J 27 (.lenS (.t 26)), J 28 (.bin .gtr (.t 27) (.c (.d (.int .i64 300)))), J 29 (.move (.t 28)), Jf 30 29 (.move (.t 0)), Jf 31 29 (.move (.t 5)), Jf 32 29 (.indexAddr 6 (.t 30) (.t 31)), Jf 33 29 (.fieldAddr 3 (.t 32)), Jf 34 29 (.load false 1 (.t 33)), Jf 35 29 (.lenS (.t 34)), Jf 36 29 (.bin .gtr (.t 35) (.c (.d (.int .i64 100)))), J 37 (.pick (.t 29) (.c (.d (.bool true))) (.t 36))]
def SJ : List XI := [J 38 (.move (.t 37)), Jf 39 38 (.move (.t 0)), Jf 40 38 (.move (.t 5)), Jf 41 38 (.indexAddr 6 (.t 39) (.t 40)), Jf 42 38 (.fieldAddr 4 (.t 41)), Jf 43 38 (.load false 1 (.t 42)), Jf 44 38 (.lenS (.t 43)), Jf 45 38 (.bin .gtr (.t 44) (.c (.d (.int .i64 100)))), J 46 (.pick (.t 38) (.c (.d (.bool true))) (.t 45))]
def Xi : List XI := Sg ++ (SJ)
def Q5 : List XI := [J 4 (.move (.c (.d (.bool true))))]
def XL : List XI := [J 20 (.move (.t 5)), J 21 (.bin .add (.t 20) (.c (.d (.int .i64 1)))), J 5 (.move (.t 21))]
def WA : XC :=
 (.seq (.seq (.region Xb)
 (.cond (.t 19)
 .skip
 (.exit 0)))
 (.seq (.block 1 (.seq (.region Xi)
 (.cond (.t 46)
 (.seq (.region Q5)
 .ret)
 .skip)))
 (.region XL)))
def XK : List XI := [J 6 (.move (.c (.d (.int .i64 0))))]
def U2 : List XI := [J 47 (.move (.t 6)), J 48 (.move (.t 1)), J 49 (.lenR (.t 48)), J 50 (.bin .lss (.t 47) (.t 49))]
def Rg : List XI := [J 53 (.move (.t 1)), J 54 (.move (.t 6)), J 55 (.indexAddr 8 (.t 53) (.t 54)), J 56 (.fieldAddr 1 (.t 55)), J 57 (.load false 1 (.t 56)), J 58 (.lenS (.t 57)), J 59 (.bin .gtr (.t 58) (.c (.d (.int .i64 100)))), J 60 (.move (.t 59)), Jf 61 60 (.move (.t 1)), Jf 62 60 (.move (.t 6)), Jf 63 60 (.indexAddr 8 (.t 61) (.t 62)), Jf 64 60 (.fieldAddr 2 (.t 63)), Jf 65 60 (.load false 1 (.t 64)), Jf 66 60 (.lenS (.t 65)), Jf 67 60 (.bin .gtr (.t 66) (.c (.d (.int .i64 100)))), J 68 (.pick (.t 60) (.c (.d (.bool true))) (.t 67))]
def QG : List XI := [J 69 (.move (.t 68)), Jf 70 69 (.move (.t 1)), Jf 71 69 (.move (.t 6)), Jf 72 69 (.indexAddr 8 (.t 70) (.t 71)), Jf 73 69 (.fieldAddr 4 (.t 72)), Jf 74 69 (.load false 1 (.t 73)), Jf 75 69 (.lenR (.t 74)), Jf 76 69 (.bin .gtr (.t 75) (.c (.d (.int .i64 12)))), J 77 (.pick (.t 69) (.c (.d (.bool true))) (.t 76))]
def Ui : List XI := Rg ++ (QG)
def UH : List XI := [J 4 (.move (.c (.d (.bool true))))]
def Ul : List XI := [J 7 (.move (.c (.d (.int .i64 0))))]
def T3 : List XI := [J 78 (.move (.t 7)), J 79 (.move (.t 1)), J 80 (.move (.t 6)), J 81 (.indexAddr 8 (.t 79) (.t 80)), J 82 (.fieldAddr 4 (.t 81)), J 83 (.load false 1 (.t 82)), J 84 (.lenR (.t 83)), J 85 (.bin .lss (.t 78) (.t 84))]
def US : List XI := [J 88 (.move (.t 1)), J 89 (.move (.t 6)), J 90 (.indexAddr 8 (.t 88) (.t 89)), J 91 (.fieldAddr 4 (.t 90)), J 92 (.load false 1 (.t 91)), J 93 (.move (.t 7)), J 94 (.indexAddr 1 (.t 92) (.t 93)), J 95 (.load false 1 (.t 94)), J 96 (.lenS (.t 95)), J 97 (.bin .gtr (.t 96) (.c (.d (.int .i64 100))))]
def Ty : List XI := [J 4 (.move (.c (.d (.bool true))))]
def Td : List XI := [J 86 (.move (.t 7)), J 87 (.bin .add (.t 86) (.c (.d (.int .i64 1)))), J 7 (.move (.t 87))]
def Vp : XC :=
 (.seq (.seq (.region T3)
 (.cond (.t 85)
 .skip
 (.exit 4)))
 (.seq (.block 5 (.seq (.region US)
 (.cond (.t 97)
 (.seq (.region Ty)
 .ret)
 .skip)))
 (.region Td)))
def Uy : List XI := [J 51 (.move (.t 6)), J 52 (.bin .add (.t 51) (.c (.d (.int .i64 1)))), J 6 (.move (.t 52))]
def U9 : XC :=
 (.seq (.seq (.region U2)
 (.cond (.t 50)
 .skip
 (.exit 2)))
 (.seq (.block 3 (.seq (.seq (.region Ui)
 (.cond (.t 77)
 (.seq (.region UH)
 .ret)
 .skip))
 (.seq (.region Ul)
 (.block 4 (.loop Vp)))))
 (.region Uy)))
def VY : List XI := [J 4 (.move (.c (.d (.bool false))))]
def Az5 : XC :=
 (.seq (.region WY)
 (.seq (.seq (.region Xe)
 (.cond (.t 15)
 (.seq (.region WZ)
 .ret)
 .skip))
 (.seq (.seq (.region WM)
 (.block 0 (.loop WA)))
 (.seq (.seq (.region XK)
 (.block 2 (.loop U9)))
 (.seq (.region VY)
 .ret)))))
theorem AO9 : Fn PR Yx 98 Az5 [.tmp 4] := ⟨fun vs w => Try.call25 vs w, Try.f25, _, Try.func25, rfl, rfl, by kernel_rfl, by kernel_rfl⟩
def WJ : List XI := [J 4 (.alloc [(.ex []), (.ex []), (.ex []), (.ex []), (.ex []), (.ex [])])]
def Xv : List XI := [J 23 (.build [(.ex []), (.ex []), (.ex []), (.ex []), (.ex []), (.ex [])] []), J 5 (.alloc [(.ex []), (.ex []), (.ex []), (.ex []), (.ex []), (.ex [])]), { dst := none, op := .store 6 (.t 5) (.t 23) }]
def XQ : List XI := [J 6 (.move (.c (.d (.int .i64 0))))]
def X8 : List XI := [J 24 (.move (.t 6)), J 25 (.move (.t 0)), J 26 (.lenR (.t 25)), J 27 (.bin .lss (.t 24) (.t 26)), J 28 (.move (.t 27)), Jt 29 28 (.move (.t 6)), Jt 30 28 (.bin .lss (.t 29) (.c (.d (.int .i64 50)))), J 31 (.pick (.t 28) (.t 30) (.c (.d (.bool false))))]
def X9 : List XI := [J 34 (.move (.t 0)), J 35 (.move (.t 6)), J 36 (.indexAddr 6 (.t 34) (.t 35)), J 37 (.load true 6 (.t 36)), J 7 (.alloc [(.d (.int .i64 0)), (.d (.int .i64 0)), (.d (.str ⟨#[]⟩)), (.d (.str ⟨#[]⟩)), (.d (.str ⟨#[]⟩)), (.ex [])]), { dst := none, op := .store 6 (.t 7) (.t 37) }]
def WP : List XI := [J 38 (.fieldAddr 0 (.t 7)), J 39 (.load false 1 (.t 38)), J 40 (.fieldAddr 1 (.t 7)), J 41 (.load false 1 (.t 40)), J 42 (.fieldAddr 2 (.t 7)), J 43 (.load false 1 (.t 42)), J 44 (.fieldAddr 3 (.t 7)), J 45 (.load false 1 (.t 44)), J 46 (.fieldAddr 4 (.t 7)), J 47 (.load false 1 (.t 46)), J 48 (.build [(.d (.int .i64 0)), (.d (.int .i64 0)), (.d (.str ⟨#[]⟩)), (.d (.str ⟨#[]⟩)), (.d (.str ⟨#[]⟩)), (.ex [])] [(0, 1, (.t 39)), (1, 1, (.t 41)), (2, 1, (.t 43)), (3, 1, (.t 45)), (4, 1, (.t 47))]), J 8 (.alloc [(.d (.int .i64 0)), (.d (.int .i64 0)), (.d (.str ⟨#[]⟩)), (.d (.str ⟨#[]⟩)), (.d (.str ⟨#[]⟩)), (.ex [])]), { dst := none, op := .store 6 (.t 8) (.t 48) }]
def Xw : List XI := [J 9 (.move (.c (.d (.int .i64 1)))), J 10 (.move (.c (.d (.int .i64 1))))]
def WK : List XI := [J 11 (.move (.c (.d (.int .i64 0))))]
def WB : List XI := [J 49 (.move (.t 11)), J 50 (.fieldAddr 5 (.t 7)), J 51 (.load false 1 (.t 50)), J 52 (.lenR (.t 51)), J 53 (.bin .lss (.t 49) (.t 52)), J 54 (.move (.t 53)), Jt 55 54 (.move (.t 11)), Jt 56 54 (.bin .lss (.t 55) (.c (.d (.int .i64 4)))), J 57 (.pick (.t 54) (.t 56) (.c (.d (.bool false))))]
def WW : List XI := [J 60 (.fieldAddr 5 (.t 7)), J 61 (.load false 1 (.t 60)), J 62 (.move (.t 11)), J 63 (.indexAddr 1 (.t 61) (.t 62)), J 64 (.load false 1 (.t 63)), J 65 (.move (.t 6)), J 66 (.call RZ [(.t 64), (.t 65)]), J 12 (.move (.t 66))]
def TB : List XI := [J 67 (.move (.t 12)), J 68 (.bin .geq (.t 67) (.c (.d (.int .i64 0))))]
def VF : List XI := [J 69 (.fieldAddr 5 (.t 8)), J 70 (.load false 1 (.t 69)), J 71 (.fieldAddr 0 (.t 5)), J 72 (.load false 1 (.t 71)), J 73 (.move (.t 12)), J 74 (.indexAddr 6 (.t 72) (.t 73)), J 75 (.load true 6 (.t 74)), J 76 (.buildSlice 6 [(.t 75)]), J 77 (.append AX 6 88 (.t 70) (.t 76)), J 78 (.fieldAddr 5 (.t 8)), { dst := none, op := .store 1 (.t 78) (.t 77) }]
def Vn : List XI := [J 79 (.move (.t 9)), J 80 (.fieldAddr 1 (.t 5)), J 81 (.load false 1 (.t 80)), J 82 (.move (.t 12)), J 83 (.indexAddr 1 (.t 81) (.t 82)), J 84 (.load false 1 (.t 83)), J 85 (.bin .add (.t 79) (.t 84)), J 9 (.move (.t 85))]
def To : List XI := [J 86 (.move (.t 10)), J 87 (.fieldAddr 2 (.t 5)), J 88 (.load false 1 (.t 87)), J 89 (.move (.t 12)), J 90 (.indexAddr 1 (.t 88) (.t 89)), J 91 (.load false 1 (.t 90)), J 92 (.bin .add (.t 91) (.c (.d (.int .i64 1)))), J 93 (.minmax true (.t 86) [(.t 92)]), J 10 (.move (.t 93))]
def Pf : List XI := [J 58 (.move (.t 11)), J 59 (.bin .add (.t 58) (.c (.d (.int .i64 1)))), J 11 (.move (.t 59))]
def VW : XC :=
 (.seq (.seq (.region WB)
 (.cond (.t 57)
 .skip
 (.exit 2)))
 (.seq (.block 3 (.seq (.region WW)
 (.seq (.region TB)
 (.cond (.t 68)
 (.seq (.regionS VF 1)
 (.seq (.region Vn)
 (.region To)))
 .skip))))
 (.region Pf)))
def Va : List XI := [J 95 (.move (.t 9)), J 96 (.move (.t 10)), J 97 (.call Tp [(.t 95), (.t 96)]), J 94 (.move (.t 97)), J 98 (.extract (.t 94) 0), J 99 (.extract (.t 94) 1), J 9 (.move (.t 98)), J 10 (.move (.t 99))]
def Vt : List XI := [J 100 (.fieldAddr 0 (.t 5)), J 101 (.load false 1 (.t 100)), J 102 (.load true 6 (.t 8)), J 103 (.buildSlice 6 [(.t 102)]), J 104 (.append AX 6 88 (.t 101) (.t 103)), J 105 (.fieldAddr 0 (.t 5)), { dst := none, op := .store 1 (.t 105) (.t 104) }]
def VO : List XI := [J 106 (.fieldAddr 1 (.t 5)), J 107 (.load false 1 (.t 106)), J 108 (.move (.t 9)), J 109 (.buildSlice 1 [(.t 108)]), J 110 (.append Bb 1 8 (.t 107) (.t 109)), J 111 (.fieldAddr 1 (.t 5)), { dst := none, op := .store 1 (.t 111) (.t 110) }]
def Uv : List XI := [J 112 (.fieldAddr 2 (.t 5)), J 113 (.load false 1 (.t 112)), J 114 (.move (.t 10)), J 115 (.buildSlice 1 [(.t 114)]), J 116 (.append Bb 1 8 (.t 113) (.t 115)), J 117 (.fieldAddr 2 (.t 5)), { dst := none, op := .store 1 (.t 117) (.t 116) }]
def VL : List XI := [J 32 (.move (.t 6)), J 33 (.bin .add (.t 32) (.c (.d (.int .i64 1)))), J 6 (.move (.t 33))]
def Vv : XC :=
 (.seq (.seq (.region X8)
 (.cond (.t 31)
 .skip
 (.exit 0)))
 (.seq (.block 1 (.seq (.region X9)
 (.seq (.region WP)
 (.seq (.region Xw)
 (.seq (.seq (.region WK)
 (.block 2 (.loop VW)))
 (.seq (.region Va)
 (.seq (.region Vt)
 (.seq (.region VO)
 (.region Uv)))))))))
 (.region VL)))
def VC : List XI := [J 13 (.move (.c (.d (.int .i64 0))))]
def Vz : List XI := [J 118 (.move (.t 13)), J 119 (.move (.t 1)), J 120 (.lenR (.t 119)), J 121 (.bin .lss (.t 118) (.t 120)), J 122 (.move (.t 121)), Jt 123 122 (.move (.t 13)), Jt 124 122 (.bin .lss (.t 123) (.c (.d (.int .i64 50)))), J 125 (.pick (.t 122) (.t 124) (.c (.d (.bool false))))]
def UT : List XI := [J 128 (.move (.t 1)), J 129 (.move (.t 13)), J 130 (.indexAddr 8 (.t 128) (.t 129)), J 131 (.load true 8 (.t 130)), J 14 (.alloc [(.d (.int .i64 0)), (.d (.str ⟨#[]⟩)), (.d (.str ⟨#[]⟩)), (.d (.int .i64 0)), (.ex []), (.ex []), (.ex []), (.ex [])]), { dst := none, op := .store 8 (.t 14) (.t 131) }]
def V3 : List XI := [J 132 (.fieldAddr 0 (.t 14)), J 133 (.load false 1 (.t 132)), J 134 (.fieldAddr 1 (.t 14)), J 135 (.load false 1 (.t 134)), J 136 (.fieldAddr 2 (.t 14)), J 137 (.load false 1 (.t 136)), J 138 (.fieldAddr 3 (.t 14)), J 139 (.load false 1 (.t 138)), J 140 (.fieldAddr 4 (.t 14)), J 141 (.load false 1 (.t 140)), J 142 (.build [(.d (.int .i64 0)), (.d (.str ⟨#[]⟩)), (.d (.str ⟨#[]⟩)), (.d (.int .i64 0)), (.ex []), (.ex []), (.ex []), (.ex [])] [(0, 1, (.t 133)), (1, 1, (.t 135)), (2, 1, (.t 137)), (3, 1, (.t 139)), (4, 1, (.t 141))]), J 15 (.alloc [(.d (.int .i64 0)), (.d (.str ⟨#[]⟩)), (.d (.str ⟨#[]⟩)), (.d (.int .i64 0)), (.ex []), (.ex []), (.ex []), (.ex [])]), { dst := none, op := .store 8 (.t 15) (.t 142) }]
def Ug : List XI := [J 16 (.move (.c (.d (.int .i64 1)))), J 17 (.move (.c (.d (.int .i64 1))))]
def UL : List XI := [J 18 (.move (.c (.d (.int .i64 0))))]
def U7 : List XI := [J 143 (.move (.t 18)), J 144 (.fieldAddr 5 (.t 14)), J 145 (.load false 1 (.t 144)), J 146 (.lenR (.t 145)), J 147 (.bin .lss (.t 143) (.t 146)), J 148 (.move (.t 147)), Jt 149 148 (.move (.t 18)), Jt 150 148 (.bin .lss (.t 149) (.c (.d (.int .i64 10)))), J 151 (.pick (.t 148) (.t 150) (.c (.d (.bool false))))]
def U6 : List XI := [J 154 (.fieldAddr 5 (.t 14)), J 155 (.load false 1 (.t 154)), J 156 (.move (.t 18)), J 157 (.indexAddr 1 (.t 155) (.t 156)), J 158 (.load false 1 (.t 157)), J 159 (.fieldAddr 0 (.t 5)), J 160 (.load false 1 (.t 159)), J 161 (.lenR (.t 160)), J 162 (.call RZ [(.t 158), (.t 161)]), J 19 (.move (.t 162))]
def Vx : List XI := [J 163 (.move (.t 19)), J 164 (.bin .geq (.t 163) (.c (.d (.int .i64 0))))]
def Tw : List XI := [J 165 (.fieldAddr 5 (.t 15)), J 166 (.load false 1 (.t 165)), J 167 (.fieldAddr 0 (.t 5)), J 168 (.load false 1 (.t 167)), J 169 (.move (.t 19)), J 170 (.indexAddr 6 (.t 168) (.t 169)), J 171 (.load true 6 (.t 170)), J 172 (.buildSlice 6 [(.t 171)]), J 173 (.append AX 6 88 (.t 166) (.t 172)), J 174 (.fieldAddr 5 (.t 15)), { dst := none, op := .store 1 (.t 174) (.t 173) }]
def T7 : List XI := [J 175 (.move (.t 16)), J 176 (.fieldAddr 1 (.t 5)), J 177 (.load false 1 (.t 176)), J 178 (.move (.t 19)), J 179 (.indexAddr 1 (.t 177) (.t 178)), J 180 (.load false 1 (.t 179)), J 181 (.bin .add (.t 175) (.t 180)), J 16 (.move (.t 181))]
def VB : List XI := [J 182 (.move (.t 17)), J 183 (.fieldAddr 2 (.t 5)), J 184 (.load false 1 (.t 183)), J 185 (.move (.t 19)), J 186 (.indexAddr 1 (.t 184) (.t 185)), J 187 (.load false 1 (.t 186)), J 188 (.bin .add (.t 187) (.c (.d (.int .i64 1)))), J 189 (.minmax true (.t 182) [(.t 188)]), J 17 (.move (.t 189))]
def Pb : List XI := [J 152 (.move (.t 18)), J 153 (.bin .add (.t 152) (.c (.d (.int .i64 1)))), J 18 (.move (.t 153))]
def VS : XC :=
 (.seq (.seq (.region U7)
 (.cond (.t 151)
 .skip
 (.exit 6)))
 (.seq (.block 7 (.seq (.regionS U6 1)
 (.seq (.region Vx)
 (.cond (.t 164)
 (.seq (.regionS Tw 1)
 (.seq (.region T7)
 (.region VB)))
 .skip))))
 (.region Pb)))
def Tv : List XI := [J 20 (.move (.c (.d (.int .i64 0))))]
def Vy : List XI := [J 190 (.move (.t 20)), J 191 (.fieldAddr 6 (.t 14)), J 192 (.load false 1 (.t 191)), J 193 (.lenR (.t 192)), J 194 (.fieldAddr 7 (.t 14)), J 195 (.load false 1 (.t 194)), J 196 (.lenR (.t 195)), J 197 (.bin .add (.t 193) (.t 196)), J 198 (.bin .lss (.t 190) (.t 197)), J 199 (.move (.t 198)), Jt 200 199 (.move (.t 20)), Jt 201 199 (.bin .lss (.t 200) (.c (.d (.int .i64 10)))), J 202 (.pick (.t 199) (.t 201) (.c (.d (.bool false))))]
def Tc : List XI := [J 205 (.move (.t 20)), J 206 (.fieldAddr 6 (.t 14)), J 207 (.load false 1 (.t 206)), J 208 (.lenR (.t 207)), J 209 (.bin .lss (.t 205) (.t 208)), J 21 (.move (.t 209))]
def Vj : List XI := [J 22 (.move (.c (.d (.int .i64 (-1)))))]
def Vb : List XI := [J 210 (.move (.t 21))]
def T8 : List XI := [J 211 (.fieldAddr 6 (.t 14)), J 212 (.load false 1 (.t 211)), J 213 (.move (.t 20)), J 214 (.indexAddr 1 (.t 212) (.t 213)), J 215 (.load false 1 (.t 214)), J 216 (.move (.t 13)), J 217 (.call RZ [(.t 215), (.t 216)]), J 22 (.move (.t 217))]
def VV : List XI := [J 218 (.fieldAddr 7 (.t 14)), J 219 (.load false 1 (.t 218)), J 220 (.move (.t 20)), J 221 (.fieldAddr 6 (.t 14)), J 222 (.load false 1 (.t 221)), J 223 (.lenR (.t 222)), J 224 (.bin .sub (.t 220) (.t 223)), J 225 (.indexAddr 1 (.t 219) (.t 224)), J 226 (.load false 1 (.t 225)), J 227 (.move (.t 13)), J 228 (.call RZ [(.t 226), (.t 227)]), J 22 (.move (.t 228))]
def TV : List XI := [J 229 (.move (.t 22)), J 230 (.bin .lss (.t 229) (.c (.d (.int .i64 0))))]
def Ur : List XI := [J 231 (.move (.t 16)), J 232 (.fieldAddr 4 (.t 5)), J 233 (.load false 1 (.t 232)), J 234 (.move (.t 22)), J 235 (.indexAddr 1 (.t 233) (.t 234)), J 236 (.load false 1 (.t 235)), J 237 (.bin .add (.t 231) (.t 236)), J 16 (.move (.t 237))]
def UB : List XI := [J 238 (.move (.t 17)), J 239 (.fieldAddr 5 (.t 5)), J 240 (.load false 1 (.t 239)), J 241 (.move (.t 22)), J 242 (.indexAddr 1 (.t 240) (.t 241)), J 243 (.load false 1 (.t 242)), J 244 (.bin .add (.t 243) (.c (.d (.int .i64 1)))), J 245 (.minmax true (.t 238) [(.t 244)]), J 17 (.move (.t 245))]
def VG : List XI := [J 246 (.move (.t 21))]
def T0 : List XI := [J 247 (.fieldAddr 6 (.t 15)), J 248 (.load false 1 (.t 247)), J 249 (.fieldAddr 3 (.t 5)), J 250 (.load false 1 (.t 249)), J 251 (.move (.t 22)), J 252 (.indexAddr 8 (.t 250) (.t 251)), J 253 (.load true 8 (.t 252)), J 254 (.buildSlice 8 [(.t 253)]), J 255 (.append AU 8 144 (.t 248) (.t 254)), J 256 (.fieldAddr 6 (.t 15)), { dst := none, op := .store 1 (.t 256) (.t 255) }]
def Uh : List XI := [J 257 (.fieldAddr 7 (.t 15)), J 258 (.load false 1 (.t 257)), J 259 (.fieldAddr 3 (.t 5)), J 260 (.load false 1 (.t 259)), J 261 (.move (.t 22)), J 262 (.indexAddr 8 (.t 260) (.t 261)), J 263 (.load true 8 (.t 262)), J 264 (.buildSlice 8 [(.t 263)]), J 265 (.append AU 8 144 (.t 258) (.t 264)), J 266 (.fieldAddr 7 (.t 15)), { dst := none, op := .store 1 (.t 266) (.t 265) }]
def Lf : List XI := [J 203 (.move (.t 20)), J 204 (.bin .add (.t 203) (.c (.d (.int .i64 1)))), J 20 (.move (.t 204))]
def UR : XC :=
 (.seq (.seq (.region Vy)
 (.cond (.t 202)
 .skip
 (.exit 8)))
 (.seq (.block 9 (.seq (.region Tc)
 (.seq (.region Vj)
 (.seq (.seq (.region Vb)
 (.cond (.t 210)
 (.region T8)
 (.region VV)))
 (.seq (.seq (.region TV)
 (.cond (.t 230)
 (.exit 9)
 .skip))
 (.seq (.region Ur)
 (.seq (.region UB)
 (.seq (.region VG)
 (.cond (.t 246)
 (.regionS T0 1)
 (.regionS Uh 1))))))))))
 (.region Lf)))
def Ub : List XI := [J 268 (.move (.t 16)), J 269 (.move (.t 17)), J 270 (.call Tp [(.t 268), (.t 269)]), J 267 (.move (.t 270)), J 271 (.extract (.t 267) 0), J 272 (.extract (.t 267) 1), J 16 (.move (.t 271)), J 17 (.move (.t 272))]
def Um : List XI := [J 273 (.fieldAddr 3 (.t 5)), J 274 (.load false 1 (.t 273)), J 275 (.load true 8 (.t 15)), J 276 (.buildSlice 8 [(.t 275)]), J 277 (.append AU 8 144 (.t 274) (.t 276)), J 278 (.fieldAddr 3 (.t 5)), { dst := none, op := .store 1 (.t 278) (.t 277) }]
def TN : List XI := [J 279 (.fieldAddr 4 (.t 5)), J 280 (.load false 1 (.t 279)), J 281 (.move (.t 16)), J 282 (.buildSlice 1 [(.t 281)]), J 283 (.append Bb 1 8 (.t 280) (.t 282)), J 284 (.fieldAddr 4 (.t 5)), { dst := none, op := .store 1 (.t 284) (.t 283) }]
def Vc : List XI := [J 285 (.fieldAddr 5 (.t 5)), J 286 (.load false 1 (.t 285)), J 287 (.move (.t 17)), J 288 (.buildSlice 1 [(.t 287)]), J 289 (.append Bb 1 8 (.t 286) (.t 288)), J 290 (.fieldAddr 5 (.t 5)), { dst := none, op := .store 1 (.t 290) (.t 289) }]
def UF : List XI := [J 126 (.move (.t 13)), J 127 (.bin .add (.t 126) (.c (.d (.int .i64 1)))), J 13 (.move (.t 127))]
def Vh : XC :=
 (.seq (.seq (.region Vz)
 (.cond (.t 125)
 .skip
 (.exit 4)))
 (.seq (.block 5 (.seq (.region UT)
 (.seq (.region V3)
 (.seq (.region Ug)
 (.seq (.seq (.region UL)
 (.block 6 (.loop VS)))
 (.seq (.seq (.region Tv)
 (.block 8 (.loop UR)))
 (.seq (.region Ub)
 (.seq (.region Um)
 (.seq (.region TN)
 (.region Vc))))))))))
 (.region UF)))
def Vl : List XI := [J 291 (.load true 6 (.t 5)), { dst := none, op := .store 6 (.t 4) (.t 291) }]
def As3 : XC :=
 (.seq (.region WJ)
 (.seq (.region Xv)
 (.seq (.seq (.region XQ)
 (.block 0 (.loop Vv)))
 (.seq (.seq (.region VC)
 (.block 4 (.loop Vh)))
 (.seq (.region Vl)
 .ret)))))
theorem AO6 : Fn PR Y6 292 As3 [.cell 4 true 6] := ⟨fun vs w => Try.call26 vs w, Try.f26, _, Try.func26, rfl, rfl, by kernel_rfl, by kernel_rfl⟩
def Zz : List XI := [J 4 (.move (.c (.d (.int .i64 0)))), J 5 (.move (.c (.d (.int .i64 0))))]
def YQ : List XI := [J 6 (.move (.t 0)), J 7 (.bin .geq (.t 6) (.c (.d (.int .i64 1000)))), J 8 (.move (.t 7)), Jf 9 8 (.move (.t 1)), Jf 10 8 (.bin .geq (.t 9) (.c (.d (.int .i64 1000)))), J 11 (.pick (.t 8) (.c (.d (.bool true))) (.t 10))]
def ZQ : List XI := [J 4 (.move (.c (.d (.int .i64 1000)))), J 5 (.move (.c (.d (.int .i64 1000))))]
def Ac4 : List XI := [J 12 (.move (.t 0)), J 13 (.move (.t 1)), J 4 (.move (.t 12)), J 5 (.move (.t 13))]
def AE7 : XC :=
 (.seq (.region Zz)
 (.seq (.seq (.region YQ)
 (.cond (.t 11)
 (.seq (.region ZQ)
 .ret)
 .skip))
 (.seq (.region Ac4)
 .ret)))
theorem AT6 : Fn PR Tp 14 AE7 [.tmp 4, .tmp 5] := ⟨fun vs w => Try.call27 vs w, Try.f27, _, Try.func27, rfl, rfl, by kernel_rfl, by kernel_rfl⟩
def WV : List XI := [J 1 (.box (.t 0)), J 2 (.move (.c (.d (.bool false))))]
def Ya : List XI := [J 6 (.fieldAddr 2 (.t 1)), J 7 (.load false 1 (.t 6)), J 8 (.bin .eql (.t 7) (.c (.d (.str ⟨#[]⟩)))), J 3 (.move (.t 8))]
def Xl : List XI := [J 4 (.move (.c (.d (.int .i64 0))))]
def Wx : List XI := [J 9 (.move (.t 4)), J 10 (.fieldAddr 4 (.t 1)), J 11 (.load false 1 (.t 10)), J 12 (.lenR (.t 11)), J 13 (.bin .lss (.t 9) (.t 12))]
def R9 : List XI := [J 16 (.fieldAddr 4 (.t 1)), J 17 (.load false 1 (.t 16)), J 18 (.move (.t 4)), J 19 (.indexAddr 2 (.t 17) (.t 18)), J 20 (.fieldAddr 0 (.t 19)), J 21 (.load false 1 (.t 20)), J 22 (.call Jl [(.t 21)]), J 23 (.not (.t 22)), J 24 (.move (.t 23)), Jf 25 24 (.fieldAddr 4 (.t 1)), Jf 26 24 (.load false 1 (.t 25)), Jf 27 24 (.move (.t 4)), Jf 28 24 (.indexAddr 2 (.t 26) (.t 27)), Jf 29 24 (.fieldAddr 1 (.t 28)), Jf 30 24 (.load false 1 (.t 29)), Jf 31 24 (.bin .lss (.t 30) (.c (.d (.int .i64 1)))), J 32 (.pick (.t 24) (.c (.d (.bool true))) (.t 31))]
def SK : List XI := [J 33 (.move (.t 32)), Jf 34 33 (.fieldAddr 4 (.t 1)), Jf 35 33 (.load false 1 (.t 34)), Jf 36 33 (.move (.t 4)), Jf 37 33 (.indexAddr 2 (.t 35) (.t 36)), Jf 38 33 (.fieldAddr 1 (.t 37)), Jf 39 33 (.load false 1 (.t 38)), Jf 40 33 (.bin .gtr (.t 39) (.c (.d (.int .i64 3)))), J 41 (.pick (.t 33) (.c (.d (.bool true))) (.t 40))]
def W0 : List XI := R9 ++ (SK)
def Wz : List XI := [J 2 (.move (.c (.d (.bool false))))]
def Sp : List XI := [J 42 (.move (.t 3)), J 43 (.move (.t 42)), Jf 44 43 (.fieldAddr 2 (.t 1)), Jf 45 43 (.load false 1 (.t 44)), Jf 46 43 (.fieldAddr 4 (.t 1)), Jf 47 43 (.load false 1 (.t 46)), Jf 48 43 (.move (.t 4)), Jf 49 43 (.indexAddr 2 (.t 47) (.t 48)), Jf 50 43 (.fieldAddr 0 (.t 49)), Jf 51 43 (.load false 1 (.t 50)), Jf 52 43 (.bin .eql (.t 45) (.t 51)), J 53 (.pick (.t 43) (.c (.d (.bool true))) (.t 52))]
def ND : List XI := [J 3 (.move (.t 53))]
def WH : List XI := Sp ++ (ND)
def X4 : List XI := [J 5 (.move (.c (.d (.int .i64 0))))]
def W5 : List XI := [J 54 (.move (.t 5)), J 55 (.move (.t 4)), J 56 (.bin .lss (.t 54) (.t 55))]
def XH : List XI := [J 59 (.fieldAddr 4 (.t 1)), J 60 (.load false 1 (.t 59)), J 61 (.move (.t 5)), J 62 (.indexAddr 2 (.t 60) (.t 61)), J 63 (.fieldAddr 0 (.t 62)), J 64 (.load false 1 (.t 63)), J 65 (.fieldAddr 4 (.t 1)), J 66 (.load false 1 (.t 65)), J 67 (.move (.t 4)), J 68 (.indexAddr 2 (.t 66) (.t 67)), J 69 (.fieldAddr 0 (.t 68)), J 70 (.load false 1 (.t 69)), J 71 (.bin .eql (.t 64) (.t 70))]
def V0 : List XI := [J 2 (.move (.c (.d (.bool false))))]
def Uc : List XI := [J 57 (.move (.t 5)), J 58 (.bin .add (.t 57) (.c (.d (.int .i64 1)))), J 5 (.move (.t 58))]
def TK : XC :=
 (.seq (.seq (.region W5)
 (.cond (.t 56)
 .skip
 (.exit 2)))
 (.seq (.block 3 (.seq (.regionS XH 0)
 (.cond (.t 71)
 (.seq (.region V0)
 .ret)
 .skip)))
 (.region Uc)))
def U8 : List XI := [J 14 (.move (.t 4)), J 15 (.bin .add (.t 14) (.c (.d (.int .i64 1)))), J 4 (.move (.t 15))]
def UG : XC :=
 (.seq (.seq (.region Wx)
 (.cond (.t 13)
 .skip
 (.exit 0)))
 (.seq (.block 1 (.seq (.seq (.region W0)
 (.cond (.t 41)
 (.seq (.region Wz)
 .ret)
 .skip))
 (.seq (.regionS WH 0)
 (.seq (.region X4)
 (.block 2 (.loop TK))))))
 (.region U8)))
def Tg : List XI := [J 72 (.fieldAddr 1 (.t 1)), J 73 (.load false 1 (.t 72)), J 74 (.bin .neq (.t 73) (.c (.d (.str ⟨#[]⟩)))), J 75 (.move (.t 74)), Jt 76 75 (.fieldAddr 1 (.t 1)), Jt 77 75 (.load false 1 (.t 76)), Jt 78 75 (.call Jl [(.t 77)]), Jt 79 75 (.not (.t 78)), Jt 80 75 (.move (.t 79)), Jf 81 80 (.fieldAddr 4 (.t 1)), Jf 82 80 (.load false 1 (.t 81)), Jf 83 80 (.lenR (.t 82)), Jf 84 80 (.bin .gtr (.t 83) (.c (.d (.int .i64 0)))), Jt 85 75 (.pick (.t 80) (.c (.d (.bool true))) (.t 84)), J 86 (.pick (.t 75) (.t 85) (.c (.d (.bool false))))]
def O1 : List XI := [J 2 (.move (.c (.d (.bool false))))]
def Ry : List XI := [J 87 (.fieldAddr 0 (.t 1)), J 88 (.load false 1 (.t 87)), J 89 (.call Jl [(.t 88)]), J 90 (.move (.t 89)), Jt 91 90 (.fieldAddr 4 (.t 1)), Jt 92 90 (.load false 1 (.t 91)), Jt 93 90 (.lenR (.t 92)), Jt 94 90 (.bin .leq (.t 93) (.c (.d (.int .i64 8)))), J 95 (.pick (.t 90) (.t 94) (.c (.d (.bool false))))]
def Qs : List XI := [J 96 (.move (.t 95)), Jt 97 96 (.move (.t 3)), J 98 (.pick (.t 96) (.t 97) (.c (.d (.bool false))))]
def Qx : List XI := [J 99 (.move (.t 98)), Jt 100 99 (.fieldAddr 3 (.t 1)), Jt 101 99 (.load false 1 (.t 100)), Jt 102 99 (.bin .geq (.t 101) (.c (.d (.int .i64 1)))), J 103 (.pick (.t 99) (.t 102) (.c (.d (.bool false))))]
def Mw : List XI := [J 104 (.move (.t 103)), Jt 105 104 (.fieldAddr 3 (.t 1)), Jt 106 104 (.load false 1 (.t 105)), Jt 107 104 (.bin .leq (.t 106) (.c (.d (.int .i64 2000)))), J 108 (.pick (.t 104) (.t 107) (.c (.d (.bool false))))]
def Ju : List XI := [J 2 (.move (.t 108))]
def Vk : List XI := Ry ++ (Qs ++ (Qx ++ (Mw ++ (Ju))))
def Aw4 : XC :=
 (.seq (.region WV)
 (.seq (.region Ya)
 (.seq (.seq (.region Xl)
 (.block 0 (.loop UG)))
 (.seq (.seq (.region Tg)
 (.cond (.t 86)
 (.seq (.region O1)
 .ret)
 .skip))
 (.seq (.region Vk)
 .ret)))))
theorem AQ9 : Fn PR Aa6 109 Aw4 [.tmp 2] := ⟨fun vs w => Try.call28 vs w, Try.f28, _, Try.func28, rfl, rfl, by kernel_rfl, by kernel_rfl⟩
def TL : List XI := [J 2 (.move (.c (.d (.bool false))))]
def UA : List XI := [J 3 (.move (.c (.d (.int .i64 0))))]
def Tl : List XI := [J 4 (.move (.t 3)), J 5 (.move (.t 0)), J 6 (.lenR (.t 5)), J 7 (.bin .lss (.t 4) (.t 6))]
def Uu : List XI := [J 10 (.move (.t 0)), J 11 (.move (.t 3)), J 12 (.indexAddr 8 (.t 10) (.t 11)), J 13 (.load true 8 (.t 12)), J 14 (.call NL [(.t 13)]), J 15 (.not (.t 14))]
def Ua : List XI := [J 2 (.move (.c (.d (.bool false))))]
def Uz : List XI := [J 8 (.move (.t 3)), J 9 (.bin .add (.t 8) (.c (.d (.int .i64 1)))), J 3 (.move (.t 9))]
def UX : XC :=
 (.seq (.seq (.region Tl)
 (.cond (.t 7)
 .skip
 (.exit 0)))
 (.seq (.block 1 (.seq (.region Uu)
 (.cond (.t 15)
 (.seq (.region Ua)
 .ret)
 .skip)))
 (.region Uz)))
def Vd : List XI := [J 2 (.move (.c (.d (.bool true))))]
def Al9 : XC :=
 (.seq (.region TL)
 (.seq (.seq (.region UA)
 (.block 0 (.loop UX)))
 (.seq (.region Vd)
 .ret)))
theorem AJ7 : Fn PR Ic 16 Al9 [.tmp 2] := ⟨fun vs w => Try.call29 vs w, Try.f29, _, Try.func29, rfl, rfl, by kernel_rfl, by kernel_rfl⟩
def L9 : List XI := [J 6 (.alloc [(.d (.int .i64 0)), (.d (.int .i64 0))])]
def LF : List XI := [J 7 (.alloc [(.d (.int .i64 0)), (.d (.int .i64 0))])]
def LP : List XI := [J 10 (.move (.t 0)), J 11 (.lenR (.t 10)), J 12 (.move (.c (.d (.int .i64 0))))]
def LX : List XI := [J 13 (.bin .lss (.t 12) (.t 11))]
def L1 : List XI := [J 14 (.indexAddr 8 (.t 10) (.t 12)), J 15 (.load true 8 (.t 14)), J 9 (.alloc [(.d (.int .i64 0)), (.d (.str ⟨#[]⟩)), (.d (.str ⟨#[]⟩)), (.d (.int .i64 0)), (.ex []), (.ex []), (.ex []), (.ex [])]), { dst := none, op := .store 8 (.t 9) (.t 15) }]
def Lt : List XI := [J 16 (.call Jp [(.t 7)]), J 17 (.move (.t 16)), Jf 18 17 (.move (.t 1)), Jf 19 17 (.bin .geq (.t 18) (.c (.d (.int .i64 1000)))), J 20 (.pick (.t 17) (.c (.d (.bool true))) (.t 19))]
def Mg : List XI := [J 21 (.build [(.d (.int .i64 0)), (.d (.int .i64 0))] [(0, 1, (.c (.d (.int .i64 1000)))), (1, 1, (.c (.d (.int .i64 1000))))]), { dst := none, op := .store 2 (.t 6) (.t 21) }]
def LU : List XI := [J 22 (.move (.t 2)), J 23 (.load true 8 (.t 9)), J 24 (.move (.t 1)), J 25 (.dyn (.t 22) [(.t 23), (.t 24)]), J 26 (.call I0 [(.t 7), (.t 25)])]
def LI : List XI := [J 27 (.bin .add (.t 12) (.c (.d (.int .i64 1)))), J 12 (.move (.t 27))]
def Mp : XC :=
 (.seq (.region LX)
 (.seq (.cond (.t 13)
 .skip
 (.exit 0))
 (.seq (.block 1 (.seq (.region L1)
 (.seq (.seq (.region Lt)
 (.cond (.t 20)
 (.seq (.region Mg)
 .ret)
 .skip))
 (.region LU))))
 (.region LI))))
def K3 : List XI := [J 28 (.load true 2 (.t 7)), { dst := none, op := .store 2 (.t 6) (.t 28) }]
def PK : XC :=
 (.seq (.region L9)
 (.seq (.region LF)
 (.seq (.seq (.region LP)
 (.block 0 (.loop Mp)))
 (.seq (.region K3)
 .ret))))
theorem Yg : Fn PR FN 29 PK [.cell 6 true 2] := ⟨fun vs w => Try.call30 vs w, Try.f30, _, Try.func30, rfl, rfl, by kernel_rfl, by kernel_rfl⟩
def QN : List XI := [J 2 (.box (.t 0)), J 4 (.alloc [(.d (.int .i64 0)), (.d (.int .i64 0))])]
def Qw : List XI := [J 6 (.fieldAddr 5 (.t 2)), J 7 (.load false 1 (.t 6)), J 8 (.move (.t 1)), J 9 (.bin .add (.t 8) (.c (.d (.int .i64 1)))), J 10 (.call IL [(.t 7), (.t 9), (.c (.fn HD [] []))]), J 5 (.alloc [(.d (.int .i64 0)), (.d (.int .i64 0))]), { dst := none, op := .store 2 (.t 5) (.t 10) }]
def Q0 : List XI := [J 11 (.fieldAddr 6 (.t 2)), J 12 (.load false 1 (.t 11)), J 13 (.move (.t 1)), J 14 (.bin .add (.t 13) (.c (.d (.int .i64 1)))), J 15 (.call FN [(.t 12), (.t 14), (.c (.fn F0 [] []))]), J 16 (.call I0 [(.t 5), (.t 15)])]
def RF : List XI := [J 17 (.fieldAddr 7 (.t 2)), J 18 (.load false 1 (.t 17)), J 19 (.move (.t 1)), J 20 (.bin .add (.t 19) (.c (.d (.int .i64 1)))), J 21 (.call FN [(.t 18), (.t 20), (.c (.fn F0 [] []))]), J 22 (.call I0 [(.t 5), (.t 21)])]
def Rl : List XI := [J 23 (.load true 2 (.t 5)), J 24 (.call Ym [(.t 23)]), { dst := none, op := .store 2 (.t 4) (.t 24) }]
def XX : XC :=
 (.seq (.region QN)
 (.seq (.region Qw)
 (.seq (.region Q0)
 (.seq (.region RF)
 (.seq (.region Rl)
 .ret)))))
theorem At6 : Fn PR F0 25 XX [.cell 4 true 2] := ⟨fun vs w => Try.call31 vs w, Try.f31, _, Try.func31, rfl, rfl, by kernel_rfl, by kernel_rfl⟩
def PX : List XI := [J 2 (.move (.c (.d (.int .i64 0)))), J 3 (.move (.c (.d (.int .i64 0))))]
def PC : List XI := [J 4 (.move (.t 0)), J 5 (.call Jp [(.t 4)])]
def Qk : List XI := [J 2 (.move (.c (.d (.int .i64 1000)))), J 3 (.move (.c (.d (.int .i64 1000))))]
def Pv : List XI := [J 6 (.move (.t 0)), J 7 (.nilCheck (.t 6)), J 8 (.fieldAddr 0 (.t 7)), J 9 (.load false 1 (.t 8)), J 10 (.move (.t 0)), J 11 (.nilCheck (.t 10)), J 12 (.fieldAddr 1 (.t 11)), J 13 (.load false 1 (.t 12)), J 2 (.move (.t 9)), J 3 (.move (.t 13))]
def Ut : XC :=
 (.seq (.region PX)
 (.seq (.seq (.region PC)
 (.cond (.t 5)
 (.seq (.region Qk)
 .ret)
 .skip))
 (.seq (.regionS Pv 0)
 .ret)))
theorem An6 : Fn PR Po 14 Ut [.tmp 2, .tmp 3] := ⟨fun vs w => Try.call32 vs w, Try.f32, _, Try.func32, rfl, rfl, by kernel_rfl, by kernel_rfl⟩
def DM : List XI := [J 1 (.box (.t 0)), J 2 (.move (.c .nilf))]
def DL : List XI := [J 3 (.mkfn Bc [] [(.t 1)]), J 2 (.move (.t 3))]
def Ez : XC :=
 (.seq (.region DM)
 (.seq (.region DL)
 .ret))
theorem Hw : Fn PR Bp 4 Ez [.tmp 2] := ⟨fun vs w => Try.call34 vs w, Try.f34, _, Try.func34, rfl, rfl, by kernel_rfl, by kernel_rfl⟩
def Z5 : List XI := [J 1 (.box (.t 0)), J 2 (.alloc [.nilm, .nilm, .nilm])]
def Z3 : List XI := [J 6 (.mkMap AD AV), J 7 (.mkMap AD AV), J 8 (.mkMap AD AV), J 9 (.build [.nilm, .nilm, .nilm] [(0, 1, (.t 6)), (1, 1, (.t 7)), (2, 1, (.t 8))]), J 3 (.alloc [.nilm, .nilm, .nilm]), { dst := none, op := .store 3 (.t 3) (.t 9) }]
def Yz : List XI := [J 10 (.load true 6 (.t 1)), J 11 (.call QZ [(.t 10)])]
def Ac6 : List XI := [J 12 (.fieldAddr 5 (.t 1)), J 13 (.load false 1 (.t 12)), J 14 (.lenR (.t 13)), J 15 (.move (.c (.d (.int .i64 0))))]
def Ab3 : List XI := [J 16 (.bin .lss (.t 15) (.t 14))]
def Z1 : List XI := [J 17 (.indexAddr 8 (.t 13) (.t 15)), J 18 (.load true 8 (.t 17)), J 5 (.alloc [(.d (.int .i64 0)), (.d (.str ⟨#[]⟩)), (.d (.str ⟨#[]⟩)), (.d (.int .i64 0)), (.ex []), (.ex []), (.ex []), (.ex [])]), { dst := none, op := .store 8 (.t 5) (.t 18) }]
def Aa7 : List XI := [J 19 (.load true 3 (.t 3)), J 20 (.load true 8 (.t 5)), J 21 (.call GY [(.t 19), (.t 20)])]
def Aa4 : List XI := [J 22 (.bin .add (.t 15) (.c (.d (.int .i64 1)))), J 15 (.move (.t 22))]
def YC : XC :=
 (.seq (.region Ab3)
 (.seq (.cond (.t 16)
 .skip
 (.exit 0))
 (.seq (.block 1 (.seq (.region Z1)
 (.region Aa7)))
 (.region Aa4))))
def ST : List XI := [J 23 (.load true 3 (.t 3)), { dst := none, op := .store 3 (.t 2) (.t 23) }]
def AG5 : XC :=
 (.seq (.region Z5)
 (.seq (.region Z3)
 (.seq (.seq (.region Yz)
 (.cond (.t 11)
 (.seq (.region Ac6)
 (.block 0 (.loop YC)))
 .skip))
 (.seq (.region ST)
 .ret))))
theorem AT3 : Fn PR V5 24 AG5 [.cell 2 true 3] := ⟨fun vs w => Try.call35 vs w, Try.f35, _, Try.func35, rfl, rfl, by kernel_rfl, by kernel_rfl⟩
def X2 : List XI := [J 1 (.box (.t 0)), J 2 (.move (.c (.d (.bool false))))]
def Xu : List XI := [J 3 (.move (.c (.ex [])))]
def W9 : List XI := [J 6 (.fieldAddr 4 (.t 1)), J 7 (.load false 1 (.t 6)), J 8 (.lenR (.t 7)), J 9 (.move (.c (.d (.int .i64 0))))]
def Wy : List XI := [J 10 (.bin .lss (.t 9) (.t 8))]
def W2 : List XI := [J 11 (.indexAddr 2 (.t 7) (.t 9)), J 12 (.load true 2 (.t 11)), J 5 (.alloc [(.d (.str ⟨#[]⟩)), (.d (.int .i64 0))]), { dst := none, op := .store 2 (.t 5) (.t 12) }]
def WO : List XI := [J 13 (.fieldAddr 1 (.t 5)), J 14 (.load false 1 (.t 13)), J 15 (.call Kn [(.t 14), (.c (.d (.int .i64 1))), (.c (.d (.int .i64 3)))]), J 16 (.not (.t 15))]
def Xr : List XI := [J 2 (.move (.c (.d (.bool false))))]
def XZ : List XI := [J 17 (.move (.t 3)), J 18 (.fieldAddr 0 (.t 5)), J 19 (.load false 1 (.t 18)), J 20 (.buildSlice 1 [(.t 19)]), J 21 (.append AD 1 16 (.t 17) (.t 20)), J 3 (.move (.t 21))]
def Xd : List XI := [J 22 (.bin .add (.t 9) (.c (.d (.int .i64 1)))), J 9 (.move (.t 22))]
def Xa : XC :=
 (.seq (.region Wy)
 (.seq (.cond (.t 10)
 .skip
 (.exit 0))
 (.seq (.block 1 (.seq (.region W2)
 (.seq (.seq (.region WO)
 (.cond (.t 16)
 (.seq (.region Xr)
 .ret)
 .skip))
 (.region XZ))))
 (.region Xd))))
def QL : List XI := [J 23 (.fieldAddr 0 (.t 1)), J 24 (.load false 1 (.t 23)), J 25 (.buildSlice 1 [(.t 24)]), J 26 (.call JK [(.t 25)]), J 27 (.not (.t 26)), J 28 (.move (.t 27)), Jf 29 28 (.move (.t 3)), Jf 30 28 (.lenR (.t 29)), Jf 31 28 (.bin .gtr (.t 30) (.c (.d (.int .i64 8)))), J 32 (.pick (.t 28) (.c (.d (.bool true))) (.t 31))]
def Rn : List XI := [J 33 (.move (.t 32)), Jf 34 33 (.move (.t 3)), Jf 35 33 (.call JK [(.t 34)]), Jf 36 33 (.not (.t 35)), J 37 (.pick (.t 33) (.c (.d (.bool true))) (.t 36))]
def Rf : List XI := [J 38 (.move (.t 37)), Jf 39 38 (.move (.t 3)), Jf 40 38 (.call Ln [(.t 39)]), Jf 41 38 (.not (.t 40)), J 42 (.pick (.t 38) (.c (.d (.bool true))) (.t 41))]
def QX : List XI := [J 43 (.move (.t 42)), Jf 44 43 (.fieldAddr 3 (.t 1)), Jf 45 43 (.load false 1 (.t 44)), Jf 46 43 (.call Kn [(.t 45), (.c (.d (.int .i64 1))), (.c (.d (.int .i64 2000)))]), Jf 47 43 (.not (.t 46)), J 48 (.pick (.t 43) (.c (.d (.bool true))) (.t 47))]
def Vg : List XI := QL ++ (Rn ++ (Rf ++ (QX)))
def TH : List XI := [J 2 (.move (.c (.d (.bool false))))]
def UN : List XI := [J 49 (.fieldAddr 1 (.t 1)), J 50 (.load false 1 (.t 49)), J 51 (.bin .neq (.t 50) (.c (.d (.str ⟨#[]⟩))))]
def Qv : List XI := [J 52 (.fieldAddr 1 (.t 1)), J 53 (.load false 1 (.t 52)), J 54 (.buildSlice 1 [(.t 53)]), J 55 (.call JK [(.t 54)]), J 56 (.move (.t 55)), Jt 57 56 (.move (.t 3)), Jt 58 56 (.lenR (.t 57)), Jt 59 56 (.bin .eql (.t 58) (.c (.d (.int .i64 0)))), J 60 (.pick (.t 56) (.t 59) (.c (.d (.bool false))))]
def Lz : List XI := [J 61 (.move (.t 60)), Jt 62 61 (.fieldAddr 2 (.t 1)), Jt 63 61 (.load false 1 (.t 62)), Jt 64 61 (.bin .eql (.t 63) (.c (.d (.str ⟨#[]⟩)))), J 65 (.pick (.t 61) (.t 64) (.c (.d (.bool false))))]
def Jr : List XI := [J 2 (.move (.t 65))]
def V2 : List XI := Qv ++ (Lz ++ (Jr))
def Re : List XI := [J 66 (.fieldAddr 2 (.t 1)), J 67 (.load false 1 (.t 66)), J 68 (.bin .eql (.t 67) (.c (.d (.str ⟨#[]⟩)))), J 69 (.move (.t 68)), Jf 70 69 (.move (.t 3)), Jf 71 69 (.fieldAddr 2 (.t 1)), Jf 72 69 (.load false 1 (.t 71)), Jf 73 69 (.call CX [(.t 70), (.t 72)]), J 74 (.pick (.t 69) (.c (.d (.bool true))) (.t 73))]
def LC : List XI := [J 2 (.move (.t 74))]
def UY : List XI := Re ++ (LC)
def Az8 : XC :=
 (.seq (.region X2)
 (.seq (.region Xu)
 (.seq (.seq (.region W9)
 (.block 0 (.loop Xa)))
 (.seq (.seq (.region Vg)
 (.cond (.t 48)
 (.seq (.region TH)
 .ret)
 .skip))
 (.seq (.seq (.region UN)
 (.cond (.t 51)
 (.seq (.region V2)
 .ret)
 .skip))
 (.seq (.region UY)
 .ret))))))
theorem AK6 : Fn PR Y8 75 Az8 [.tmp 2] := ⟨fun vs w => Try.call36 vs w, Try.f36, _, Try.func36, rfl, rfl, by kernel_rfl, by kernel_rfl⟩
def OR : List XI := [J 2 (.move (.c (.d (.bool false))))]
def Mr : List XI := [J 3 (.move (.t 0)), J 4 (.nilCheck (.t 3)), J 5 (.fieldAddr 0 (.t 4)), J 6 (.load false 1 (.t 5)), J 7 (.bin .leq (.t 6) (.c (.d (.int .i64 300)))), J 8 (.move (.t 7)), Jt 9 8 (.move (.t 0)), Jt 10 8 (.nilCheck (.t 9)), Jt 11 8 (.fieldAddr 1 (.t 10)), Jt 12 8 (.load false 1 (.t 11)), Jt 13 8 (.bin .leq (.t 12) (.c (.d (.int .i64 12)))), J 14 (.pick (.t 8) (.t 13) (.c (.d (.bool false))))]
def IN : List XI := [J 2 (.move (.t 14))]
def Oo : List XI := Mr ++ (IN)
def SD : XC :=
 (.seq (.region OR)
 (.seq (.region Oo)
 .ret))
theorem Af0 : Fn PR Nx 15 SD [.tmp 2] := ⟨fun vs w => Try.call37 vs w, Try.f37, _, Try.func37, rfl, rfl, by kernel_rfl, by kernel_rfl⟩
def Tm : List XI := [J 2 (.move (.c (.d (.bool false))))]
def V1 : List XI := [J 3 (.move (.t 0)), J 4 (.call CV [(.t 3), (.c (.fn HB [] []))]), J 5 (.not (.t 4)), J 2 (.move (.t 5))]
def Aj5 : XC :=
 (.seq (.region Tm)
 (.seq (.region V1)
 .ret))
theorem AJ1 : Fn PR Hl 6 Aj5 [.tmp 2] := ⟨fun vs w => Try.call38 vs w, Try.f38, _, Try.func38, rfl, rfl, by kernel_rfl, by kernel_rfl⟩
def Sj : List XI := [J 3 (.box (.t 1)), J 4 (.move (.c (.ex [])))]
def Sa : List XI := [J 6 (.fieldAddr 0 (.t 3)), J 7 (.load false 1 (.t 6)), J 8 (.bin .geq (.t 7) (.c (.d (.int .i64 21))))]
def SH : List XI := [J 9 (.move (.t 0)), J 10 (.fieldAddr 4 (.t 3)), J 11 (.load false 1 (.t 10)), J 12 (.call Am8 [(.t 9), (.t 11)]), J 0 (.move (.t 12))]
def Su : List XI := [J 5 (.move (.c (.d (.int .i64 0))))]
def Sw : List XI := [J 13 (.move (.t 5)), J 14 (.fieldAddr 5 (.t 3)), J 15 (.load false 1 (.t 14)), J 16 (.lenR (.t 15)), J 17 (.bin .lss (.t 13) (.t 16))]
def SF : List XI := [J 20 (.move (.t 0)), J 21 (.fieldAddr 5 (.t 3)), J 22 (.load false 1 (.t 21)), J 23 (.move (.t 5)), J 24 (.indexAddr 6 (.t 22) (.t 23)), J 25 (.load true 6 (.t 24)), J 26 (.call IV [(.t 20), (.t 25)]), J 0 (.move (.t 26))]
def R5 : List XI := [J 18 (.move (.t 5)), J 19 (.bin .add (.t 18) (.c (.d (.int .i64 1)))), J 5 (.move (.t 19))]
def SC : XC :=
 (.seq (.seq (.region Sw)
 (.cond (.t 17)
 .skip
 (.exit 0)))
 (.seq (.block 1 (.region SF))
 (.region R5)))
def Sc : List XI := [J 27 (.move (.t 0)), J 4 (.move (.t 27))]
def Aa0 : XC :=
 (.seq (.region Sj)
 (.seq (.seq (.region Sa)
 (.cond (.t 8)
 (.region SH)
 .skip))
 (.seq (.seq (.region Su)
 (.block 0 (.loop SC)))
 (.seq (.region Sc)
 .ret))))
theorem AE1 : Fn PR IV 28 Aa0 [.tmp 4] := ⟨fun vs w => Try.call39 vs w, Try.f39, _, Try.func39, rfl, rfl, by kernel_rfl, by kernel_rfl⟩
def Gi : List XI := [J 4 (.move (.c (.d (.int .i64 0))))]
def Gk : List XI := [J 6 (.move (.t 0)), J 7 (.lenR (.t 6)), J 8 (.move (.c (.d (.int .i64 0))))]
def Gt : List XI := [J 9 (.bin .lss (.t 8) (.t 7))]
def Gs : List XI := [J 10 (.move (.t 8)), J 5 (.move (.t 10))]
def Gp : List XI := [J 11 (.move (.t 1)), J 12 (.move (.t 0)), J 13 (.move (.t 5)), J 14 (.indexAddr 1 (.t 12) (.t 13)), J 15 (.load false 1 (.t 14)), J 16 (.bin .eql (.t 11) (.t 15))]
def Gn : List XI := [J 17 (.move (.t 5)), J 4 (.move (.t 17))]
def Gr : List XI := [J 18 (.bin .add (.t 8) (.c (.d (.int .i64 1)))), J 8 (.move (.t 18))]
def Gl : XC :=
 (.seq (.region Gt)
 (.seq (.cond (.t 9)
 .skip
 (.exit 0))
 (.seq (.block 1 (.seq (.region Gs)
 (.seq (.region Gp)
 (.cond (.t 16)
 (.seq (.region Gn)
 .ret)
 .skip))))
 (.region Gr))))
def Gm : List XI := [J 4 (.move (.c (.d (.int .i64 (-1)))))]
def Hd : XC :=
 (.seq (.region Gi)
 (.seq (.seq (.region Gk)
 (.block 0 (.loop Gl)))
 (.seq (.region Gm)
 .ret)))
theorem KV : Fn PR ET 19 Hd [.tmp 4] := ⟨fun vs w => Try.call40 vs w, Try.f40, _, Try.func40, rfl, rfl, by kernel_rfl, by kernel_rfl⟩
def MM : List XI := [J 2 (.move (.c (.d (.bool false))))]
def K5 : List XI := [J 5 (.move (.t 0)), J 6 (.bin .eql (.t 5) (.c (.d (.str ⟨#[]⟩)))), J 7 (.move (.t 6)), Jf 8 7 (.move (.t 0)), Jf 9 7 (.lenS (.t 8)), Jf 10 7 (.bin .gtr (.t 9) (.c (.d (.int .i64 16)))), J 11 (.pick (.t 7) (.c (.d (.bool true))) (.t 10))]
def K9 : List XI := [J 12 (.move (.t 11)), Jf 13 12 (.move (.t 0)), Jf 14 12 (.indexStr (.t 13) (.c (.d (.int .i64 0)))), Jf 15 12 (.call IK [(.t 14)]), Jf 16 12 (.not (.t 15)), J 17 (.pick (.t 12) (.c (.d (.bool true))) (.t 16))]
def M4 : List XI := K5 ++ (K9)
def Nj : List XI := [J 2 (.move (.c (.d (.bool false))))]
def M5 : List XI := [J 18 (.move (.t 0)), J 19 (.toBytes (.t 18)), J 20 (.lenR (.t 19)), J 21 (.move (.c (.d (.int .i64 0))))]
def Nw : List XI := [J 22 (.bin .lss (.t 21) (.t 20))]
def MG : List XI := [J 23 (.indexAddr 1 (.t 19) (.t 21)), J 24 (.load false 1 (.t 23)), J 4 (.move (.t 24))]
def MW : List XI := [J 25 (.move (.t 4)), J 26 (.call NA [(.t 25)]), J 27 (.not (.t 26))]
def MF : List XI := [J 2 (.move (.c (.d (.bool false))))]
def M6 : List XI := [J 28 (.bin .add (.t 21) (.c (.d (.int .i64 1)))), J 21 (.move (.t 28))]
def MC : XC :=
 (.seq (.region Nw)
 (.seq (.cond (.t 22)
 .skip
 (.exit 0))
 (.seq (.block 1 (.seq (.region MG)
 (.seq (.region MW)
 (.cond (.t 27)
 (.seq (.region MF)
 .ret)
 .skip))))
 (.region M6))))
def Ml : List XI := [J 2 (.move (.c (.d (.bool true))))]
def QS : XC :=
 (.seq (.region MM)
 (.seq (.seq (.region M4)
 (.cond (.t 17)
 (.seq (.region Nj)
 .ret)
 .skip))
 (.seq (.seq (.region M5)
 (.block 0 (.loop MC)))
 (.seq (.region Ml)
 .ret))))
theorem ZS : Fn PR Mn 29 QS [.tmp 2] := ⟨fun vs w => Try.call41 vs w, Try.f41, _, Try.func41, rfl, rfl, by kernel_rfl, by kernel_rfl⟩
def Fk : List XI := [J 4 (.move (.c (.d (.int .i64 0))))]
def Fr : List XI := [J 6 (.move (.t 0)), J 7 (.lenR (.t 6)), J 8 (.move (.c (.d (.int .i64 0))))]
def Fq : List XI := [J 9 (.bin .lss (.t 8) (.t 7))]
def Fl : List XI := [J 10 (.move (.t 8)), J 5 (.move (.t 10))]
def E5 : List XI := [J 11 (.move (.t 1)), J 12 (.move (.t 0)), J 13 (.move (.t 5)), J 14 (.indexAddr 1 (.t 12) (.t 13)), J 15 (.load false 1 (.t 14)), J 16 (.dyn (.t 11) [(.t 15)])]
def E7 : List XI := [J 17 (.move (.t 5)), J 4 (.move (.t 17))]
def E8 : List XI := [J 18 (.bin .add (.t 8) (.c (.d (.int .i64 1)))), J 8 (.move (.t 18))]
def Fh : XC :=
 (.seq (.region Fq)
 (.seq (.cond (.t 9)
 .skip
 (.exit 0))
 (.seq (.block 1 (.seq (.region Fl)
 (.seq (.region E5)
 (.cond (.t 16)
 (.seq (.region E7)
 .ret)
 .skip))))
 (.region E8))))
def Fs : List XI := [J 4 (.move (.c (.d (.int .i64 (-1)))))]
def FO : XC :=
 (.seq (.region Fk)
 (.seq (.seq (.region Fr)
 (.block 0 (.loop Fh)))
 (.seq (.region Fs)
 .ret)))
theorem Js : Fn PR DH 19 FO [.tmp 4] := ⟨fun vs w => Try.call42 vs w, Try.f42, _, Try.func42, rfl, rfl, by kernel_rfl, by kernel_rfl⟩
def YL : List XI := [J 4 (.move (.c (.d (.int .i64 0))))]
def Zp : List XI := [J 5 (.move (.t 1)), J 6 (.bin .eql (.t 5) (.c (.d (.int .i64 0))))]
def ZJ : List XI := [J 4 (.move (.c (.d (.int .i64 (-1)))))]
def ZZ : List XI := [J 7 (.move (.t 1)), J 8 (.bin .sub (.t 7) (.c (.d (.int .i64 1)))), J 9 (.move (.t 0)), J 10 (.toInt .u64 (.t 9)), J 11 (.move (.t 1)), J 12 (.toInt .u64 (.t 11)), J 13 (.bin .rem (.t 10) (.t 12)), J 14 (.toInt .i64 (.t 13)), J 15 (.bin .sub (.t 8) (.t 14)), J 4 (.move (.t 15))]
def AF1 : XC :=
 (.seq (.region YL)
 (.seq (.seq (.region Zp)
 (.cond (.t 6)
 (.seq (.region ZJ)
 .ret)
 .skip))
 (.seq (.region ZZ)
 .ret)))
theorem AV5 : Fn PR RZ 16 AF1 [.tmp 4] := ⟨fun vs w => Try.call43 vs w, Try.f43, _, Try.func43, rfl, rfl, by kernel_rfl, by kernel_rfl⟩
def WX : List XI := [J 1 (.box (.t 0)), J 2 (.move (.c (.d (.bool false))))]
def WU : List XI := [J 10 (.fieldAddr 0 (.t 1)), J 11 (.load false 1 (.t 10)), J 12 (.bin .lss (.t 11) (.c (.d (.int .i64 1)))), J 13 (.move (.t 12)), Jf 14 13 (.fieldAddr 0 (.t 1)), Jf 15 13 (.load false 1 (.t 14)), Jf 16 13 (.bin .gtr (.t 15) (.c (.d (.int .i64 10)))), J 17 (.pick (.t 13) (.c (.d (.bool true))) (.t 16))]
def WT : List XI := [J 2 (.move (.c (.d (.bool false))))]
def WI : List XI := [J 18 (.buildSlice 1 [(.c (.d (.str ⟨#[]⟩))), (.c (.d (.str ⟨#[110]⟩))), (.c (.d (.str ⟨#[110]⟩))), (.c (.d (.str ⟨#[115]⟩))), (.c (.d (.str ⟨#[110, 115, 99]⟩))), (.c (.d (.str ⟨#[110, 115]⟩))), (.c (.d (.str ⟨#[110, 115, 78, 98]⟩))), (.c (.d (.str ⟨#[98, 101]⟩))), (.c (.d (.str ⟨#[115]⟩))), (.c (.d (.str ⟨#[]⟩))), (.c (.d (.str ⟨#[]⟩)))]), J 3 (.move (.t 18))]
def XV : List XI := [J 19 (.move (.t 3)), J 20 (.fieldAddr 0 (.t 1)), J 21 (.load false 1 (.t 20)), J 22 (.indexAddr 1 (.t 19) (.t 21)), J 23 (.load false 1 (.t 22)), J 4 (.move (.t 23))]
def WC : List XI := [J 24 (.move (.t 4)), J 25 (.call Sm [(.t 24), (.c (.d (.int .u8 110)))]), J 26 (.fieldAddr 1 (.t 1)), J 27 (.load false 1 (.t 26)), J 28 (.bin .neq (.t 27) (.c (.d (.str ⟨#[]⟩)))), J 29 (.eqBool true (.t 25) (.t 28)), J 30 (.move (.t 29)), Jf 31 30 (.move (.t 4)), { dst := some 32, op := .call Sm [(.t 31), (.c (.d (.int .u8 115)))], guard := some (30, false), nm := 1 }, Jf 33 30 (.fieldAddr 2 (.t 1)), Jf 34 30 (.load false 1 (.t 33)), Jf 35 30 (.bin .neq (.t 34) (.c (.d (.str ⟨#[]⟩)))), Jf 36 30 (.eqBool true (.t 32) (.t 35)), J 37 (.pick (.t 30) (.c (.d (.bool true))) (.t 36)), J 38 (.move (.t 37)), Jf 39 38 (.move (.t 4)), { dst := some 40, op := .call Sm [(.t 39), (.c (.d (.int .u8 110)))], guard := some (38, false), nm := 2 }, Jf 41 38 (.move (.t 40)), Jt 42 41 (.fieldAddr 1 (.t 1)), Jt 43 41 (.load false 1 (.t 42)), { dst := some 44, op := .call Jl [(.t 43)], guard := some (41, true), nm := 3 }, Jt 45 41 (.not (.t 44)), Jf 46 38 (.pick (.t 41) (.t 45) (.c (.d (.bool false)))), J 47 (.pick (.t 38) (.c (.d (.bool true))) (.t 46)), J 48 (.move (.t 47)), Jf 49 48 (.move (.t 4)), { dst := some 50, op := .call Sm [(.t 49), (.c (.d (.int .u8 115)))], guard := some (48, false), nm := 4 }, Jf 51 48 (.move (.t 50)), Jt 52 51 (.fieldAddr 2 (.t 1)), Jt 53 51 (.load false 1 (.t 52)), { dst := some 54, op := .call Jl [(.t 53)], guard := some (51, true), nm := 5 }, Jt 55 51 (.not (.t 54)), Jf 56 48 (.pick (.t 51) (.t 55) (.c (.d (.bool false)))), J 57 (.pick (.t 48) (.c (.d (.bool true))) (.t 56))]
def IY : List XI := [J 2 (.move (.c (.d (.bool false))))]
def Yc : List XI := [J 58 (.move (.t 4)), J 59 (.call Sm [(.t 58), (.c (.d (.int .u8 99)))]), J 60 (.fieldAddr 4 (.t 1)), J 61 (.load false 1 (.t 60)), J 62 (.lenR (.t 61)), J 63 (.bin .gtr (.t 62) (.c (.d (.int .i64 0)))), J 64 (.eqBool true (.t 59) (.t 63)), J 65 (.move (.t 64)), Jf 66 65 (.fieldAddr 4 (.t 1)), Jf 67 65 (.load false 1 (.t 66)), Jf 68 65 (.lenR (.t 67)), Jf 69 65 (.bin .gtr (.t 68) (.c (.d (.int .i64 8)))), J 70 (.pick (.t 65) (.c (.d (.bool true))) (.t 69)), J 71 (.move (.t 70)), Jf 72 71 (.move (.t 4)), { dst := some 73, op := .call Sm [(.t 72), (.c (.d (.int .u8 78)))], guard := some (71, false), nm := 1 }, Jf 74 71 (.not (.t 73)), Jf 75 71 (.move (.t 74)), Jt 76 75 (.fieldAddr 3 (.t 1)), Jt 77 75 (.load false 1 (.t 76)), Jt 78 75 (.bin .neq (.t 77) (.c (.d (.int .i64 0)))), Jf 79 71 (.pick (.t 75) (.t 78) (.c (.d (.bool false)))), J 80 (.pick (.t 71) (.c (.d (.bool true))) (.t 79)), J 81 (.move (.t 80)), Jf 82 81 (.fieldAddr 3 (.t 1)), Jf 83 81 (.load false 1 (.t 82)), Jf 84 81 (.bin .lss (.t 83) (.c (.d (.int .i64 0)))), J 85 (.pick (.t 81) (.c (.d (.bool true))) (.t 84)), J 86 (.move (.t 85)), Jf 87 86 (.fieldAddr 3 (.t 1)), Jf 88 86 (.load false 1 (.t 87)), Jf 89 86 (.bin .gtr (.t 88) (.c (.d (.int .i64 1000)))), J 90 (.pick (.t 86) (.c (.d (.bool true))) (.t 89)), J 91 (.move (.t 90)), Jf 92 91 (.move (.t 4)), { dst := some 93, op := .call Sm [(.t 92), (.c (.d (.int .u8 98)))], guard := some (91, false), nm := 2 }, Jf 94 91 (.not (.t 93)), Jf 95 91 (.move (.t 94)), Jt 96 95 (.fieldAddr 6 (.t 1)), Jt 97 95 (.load false 1 (.t 96)), Jt 98 95 (.lenR (.t 97)), Jt 99 95 (.bin .gtr (.t 98) (.c (.d (.int .i64 0)))), Jf 100 91 (.pick (.t 95) (.t 99) (.c (.d (.bool false)))), J 101 (.pick (.t 91) (.c (.d (.bool true))) (.t 100)), J 102 (.move (.t 101)), Jf 103 102 (.move (.t 4)), { dst := some 104, op := .call Sm [(.t 103), (.c (.d (.int .u8 101)))], guard := some (102, false), nm := 3 }, Jf 105 102 (.not (.t 104)), Jf 106 102 (.move (.t 105)), Jt 107 106 (.fieldAddr 7 (.t 1)), Jt 108 106 (.load false 1 (.t 107)), Jt 109 106 (.lenR (.t 108)), Jt 110 106 (.bin .gtr (.t 109) (.c (.d (.int .i64 0)))), Jf 111 102 (.pick (.t 106) (.t 110) (.c (.d (.bool false)))), J 112 (.pick (.t 102) (.c (.d (.bool true))) (.t 111))]
def Di : List XI := [J 2 (.move (.c (.d (.bool false))))]
def XR : List XI := [J 5 (.move (.c (.d (.int .i64 0))))]
def Tk : List XI := [J 113 (.move (.t 5)), J 114 (.fieldAddr 4 (.t 1)), J 115 (.load false 1 (.t 114)), J 116 (.lenR (.t 115)), J 117 (.bin .lss (.t 113) (.t 116))]
def TM : List XI := [J 120 (.fieldAddr 4 (.t 1)), J 121 (.load false 1 (.t 120)), J 122 (.move (.t 5)), J 123 (.indexAddr 1 (.t 121) (.t 122)), J 124 (.load false 1 (.t 123)), J 125 (.call Jl [(.t 124)]), J 126 (.not (.t 125))]
def VN : List XI := [J 2 (.move (.c (.d (.bool false))))]
def Uq : List XI := [J 6 (.move (.c (.d (.int .i64 0))))]
def TG : List XI := [J 127 (.move (.t 6)), J 128 (.move (.t 5)), J 129 (.bin .lss (.t 127) (.t 128))]
def TX : List XI := [J 132 (.fieldAddr 4 (.t 1)), J 133 (.load false 1 (.t 132)), J 134 (.move (.t 6)), J 135 (.indexAddr 1 (.t 133) (.t 134)), J 136 (.load false 1 (.t 135)), J 137 (.fieldAddr 4 (.t 1)), J 138 (.load false 1 (.t 137)), J 139 (.move (.t 5)), J 140 (.indexAddr 1 (.t 138) (.t 139)), J 141 (.load false 1 (.t 140)), J 142 (.bin .eql (.t 136) (.t 141))]
def Up : List XI := [J 2 (.move (.c (.d (.bool false))))]
def Vi : List XI := [J 130 (.move (.t 6)), J 131 (.bin .add (.t 130) (.c (.d (.int .i64 1)))), J 6 (.move (.t 131))]
def Ux : XC :=
 (.seq (.seq (.region TG)
 (.cond (.t 129)
 .skip
 (.exit 2)))
 (.seq (.block 3 (.seq (.regionS TX 0)
 (.cond (.t 142)
 (.seq (.region Up)
 .ret)
 .skip)))
 (.region Vi)))
def Ts : List XI := [J 118 (.move (.t 5)), J 119 (.bin .add (.t 118) (.c (.d (.int .i64 1)))), J 5 (.move (.t 119))]
def TT : XC :=
 (.seq (.seq (.region Tk)
 (.cond (.t 117)
 .skip
 (.exit 0)))
 (.seq (.block 1 (.seq (.seq (.region TM)
 (.cond (.t 126)
 (.seq (.region VN)
 .ret)
 .skip))
 (.seq (.region Uq)
 (.block 2 (.loop Ux)))))
 (.region Ts)))
def VZ : List XI := [J 143 (.fieldAddr 5 (.t 1)), J 144 (.load false 1 (.t 143)), J 145 (.lenR (.t 144)), J 7 (.move (.t 145))]
def Qp : List XI := [J 146 (.fieldAddr 0 (.t 1)), J 147 (.load false 1 (.t 146)), J 148 (.bin .eql (.t 147) (.c (.d (.int .i64 3)))), J 149 (.move (.t 148)), Jf 150 149 (.fieldAddr 0 (.t 1)), Jf 151 149 (.load false 1 (.t 150)), Jf 152 149 (.bin .eql (.t 151) (.c (.d (.int .i64 8)))), J 153 (.pick (.t 149) (.c (.d (.bool true))) (.t 152))]
def Mq : List XI := [J 154 (.move (.t 153)), Jf 155 154 (.fieldAddr 0 (.t 1)), Jf 156 154 (.load false 1 (.t 155)), Jf 157 154 (.bin .eql (.t 156) (.c (.d (.int .i64 10)))), J 158 (.pick (.t 154) (.c (.d (.bool true))) (.t 157))]
def JG : List XI := [J 8 (.move (.t 158))]
def UO : List XI := Qp ++ (Mq ++ (JG))
def Q1 : List XI := [J 159 (.move (.t 8)), J 160 (.move (.t 159)), Jt 161 160 (.move (.t 7)), Jt 162 160 (.bin .lss (.t 161) (.c (.d (.int .i64 1)))), Jt 163 160 (.move (.t 162)), Jf 164 163 (.move (.t 7)), Jf 165 163 (.bin .gtr (.t 164) (.c (.d (.int .i64 8)))), Jt 166 160 (.pick (.t 163) (.c (.d (.bool true))) (.t 165)), J 167 (.pick (.t 160) (.t 166) (.c (.d (.bool false))))]
def Qr : List XI := [J 168 (.move (.t 167)), Jf 169 168 (.move (.t 8)), Jf 170 168 (.not (.t 169)), Jf 171 168 (.move (.t 170)), Jt 172 171 (.move (.t 7)), Jt 173 171 (.fieldAddr 4 (.t 1)), Jt 174 171 (.load false 1 (.t 173)), Jt 175 171 (.lenR (.t 174)), Jt 176 171 (.bin .add (.c (.d (.int .i64 1))) (.t 175)), Jt 177 171 (.bin .neq (.t 172) (.t 176)), Jf 178 168 (.pick (.t 171) (.t 177) (.c (.d (.bool false)))), J 179 (.pick (.t 168) (.c (.d (.bool true))) (.t 178))]
def Tf : List XI := Q1 ++ (Qr)
def Pj : List XI := [J 2 (.move (.c (.d (.bool false))))]
def TA : List XI := [J 9 (.move (.c (.d (.int .i64 0))))]
def Tx : List XI := [J 180 (.move (.t 9)), J 181 (.move (.t 7)), J 182 (.bin .lss (.t 180) (.t 181))]
def UP : List XI := [J 185 (.fieldAddr 5 (.t 1)), J 186 (.load false 1 (.t 185)), J 187 (.move (.t 9)), J 188 (.indexAddr 6 (.t 186) (.t 187)), J 189 (.load true 6 (.t 188)), J 190 (.call G2 [(.t 189)]), J 191 (.not (.t 190))]
def Tt : List XI := [J 2 (.move (.c (.d (.bool false))))]
def UU : List XI := [J 183 (.move (.t 9)), J 184 (.bin .add (.t 183) (.c (.d (.int .i64 1)))), J 9 (.move (.t 184))]
def Uj : XC :=
 (.seq (.seq (.region Tx)
 (.cond (.t 182)
 .skip
 (.exit 4)))
 (.seq (.block 5 (.seq (.region UP)
 (.cond (.t 191)
 (.seq (.region Tt)
 .ret)
 .skip)))
 (.region UU)))
def QK : List XI := [J 192 (.fieldAddr 6 (.t 1)), J 193 (.load false 1 (.t 192)), J 194 (.call Ic [(.t 193)]), J 195 (.move (.t 194)), Jt 196 195 (.fieldAddr 7 (.t 1)), Jt 197 195 (.load false 1 (.t 196)), Jt 198 195 (.call Ic [(.t 197)]), J 199 (.pick (.t 195) (.t 198) (.c (.d (.bool false))))]
def Mo : List XI := [J 2 (.move (.t 199))]
def UC : List XI := QK ++ (Mo)
def Au8 : XC :=
 (.seq (.region WX)
 (.seq (.seq (.region WU)
 (.cond (.t 17)
 (.seq (.region WT)
 .ret)
 .skip))
 (.seq (.region WI)
 (.seq (.region XV)
 (.seq (.seq (.regionD WC [[], [0], [], [2], [3, 2], [1, 0, 4, 3, 2], [5, 1, 0, 4, 3, 2], [6, 5, 1, 0, 4, 3, 2], [7, 6, 5, 1, 0, 4, 3, 2], [6, 5, 1, 0, 4, 3, 2], [9, 6, 5, 1, 0, 4, 3, 2], [10, 9, 6, 5, 1, 0, 4, 3, 2], [8, 7, 6, 5, 1, 0, 4, 3, 2, 11, 10, 9], [6, 5, 1, 0, 4, 3, 2, 12, 8, 7, 11, 10, 9], [13, 6, 5, 1, 0, 4, 3, 2, 12, 8, 7, 11, 10, 9], [14, 13, 6, 5, 1, 0, 4, 3, 2, 12, 8, 7, 11, 10, 9], [15, 14, 13, 6, 5, 1, 0, 4, 3, 2, 12, 8, 7, 11, 10, 9], [16, 15, 14, 13, 6, 5, 1, 0, 4, 3, 2, 12, 8, 7, 11, 10, 9], [17, 16, 15, 14, 13, 6, 5, 1, 0, 4, 3, 2, 12, 8, 7, 11, 10, 9], [18, 17, 16, 15, 14, 13, 6, 5, 1, 0, 4, 3, 2, 12, 8, 7, 11, 10, 9], [19, 18, 17, 16, 15, 14, 13, 6, 5, 1, 0, 4, 3, 2, 12, 8, 7, 11, 10, 9], [20, 19, 18, 17, 16, 15, 14, 13, 6, 5, 1, 0, 4, 3, 2, 12, 8, 7, 11, 10, 9], [17, 16, 15, 14, 13, 6, 5, 1, 0, 4, 3, 2, 12, 8, 7, 11, 10, 9, 21, 20, 19, 18], [14, 13, 6, 5, 1, 0, 4, 3, 2, 12, 8, 7, 11, 10, 9, 22, 17, 16, 15, 21, 20, 19, 18], [23, 14, 13, 6, 5, 1, 0, 4, 3, 2, 12, 8, 7, 11, 10, 9, 22, 17, 16, 15, 21, 20, 19, 18], [24, 23, 14, 13, 6, 5, 1, 0, 4, 3, 2, 12, 8, 7, 11, 10, 9, 22, 17, 16, 15, 21, 20, 19, 18], [25, 24, 23, 14, 13, 6, 5, 1, 0, 4, 3, 2, 12, 8, 7, 11, 10, 9, 22, 17, 16, 15, 21, 20, 19, 18], [26, 25, 24, 23, 14, 13, 6, 5, 1, 0, 4, 3, 2, 12, 8, 7, 11, 10, 9, 22, 17, 16, 15, 21, 20, 19, 18], [27, 26, 25, 24, 23, 14, 13, 6, 5, 1, 0, 4, 3, 2, 12, 8, 7, 11, 10, 9, 22, 17, 16, 15, 21, 20, 19, 18], [28, 27, 26, 25, 24, 23, 14, 13, 6, 5, 1, 0, 4, 3, 2, 12, 8, 7, 11, 10, 9, 22, 17, 16, 15, 21, 20, 19, 18], [29, 28, 27, 26, 25, 24, 23, 14, 13, 6, 5, 1, 0, 4, 3, 2, 12, 8, 7, 11, 10, 9, 22, 17, 16, 15, 21, 20, 19, 18], [30, 29, 28, 27, 26, 25, 24, 23, 14, 13, 6, 5, 1, 0, 4, 3, 2, 12, 8, 7, 11, 10, 9, 22, 17, 16, 15, 21, 20, 19, 18], [27, 26, 25, 24, 23, 14, 13, 6, 5, 1, 0, 4, 3, 2, 12, 8, 7, 11, 10, 9, 22, 17, 16, 15, 21, 20, 19, 18, 31, 30, 29, 28], [24, 23, 14, 13, 6, 5, 1, 0, 4, 3, 2, 12, 8, 7, 11, 10, 9, 22, 17, 16, 15, 21, 20, 19, 18, 32, 27, 26, 25, 31, 30, 29, 28]] 6)
 (.cond (.t 57)
 (.seq (.region IY)
 .ret)
 .skip))
 (.seq (.seq (.regionD Yc [[], [0], [], [2], [3, 2], [4, 3, 2], [1, 0, 5, 4, 3, 2], [6, 1, 0, 5, 4, 3, 2], [7, 6, 1, 0, 5, 4, 3, 2], [8, 7, 6, 1, 0, 5, 4, 3, 2], [9, 8, 7, 6, 1, 0, 5, 4, 3, 2], [10, 9, 8, 7, 6, 1, 0, 5, 4, 3, 2], [7, 6, 1, 0, 5, 4, 3, 2, 11, 10, 9, 8], [12, 7, 6, 1, 0, 5, 4, 3, 2, 11, 10, 9, 8], [13, 12, 7, 6, 1, 0, 5, 4, 3, 2, 11, 10, 9, 8], [14, 13, 12, 7, 6, 1, 0, 5, 4, 3, 2, 11, 10, 9, 8], [15, 14, 13, 12, 7, 6, 1, 0, 5, 4, 3, 2, 11, 10, 9, 8], [16, 15, 14, 13, 12, 7, 6, 1, 0, 5, 4, 3, 2, 11, 10, 9, 8], [17, 16, 15, 14, 13, 12, 7, 6, 1, 0, 5, 4, 3, 2, 11, 10, 9, 8], [18, 17, 16, 15, 14, 13, 12, 7, 6, 1, 0, 5, 4, 3, 2, 11, 10, 9, 8], [19, 18, 17, 16, 15, 14, 13, 12, 7, 6, 1, 0, 5, 4, 3, 2, 11, 10, 9, 8], [17, 16, 15, 14, 13, 12, 7, 6, 1, 0, 5, 4, 3, 2, 11, 10, 9, 8, 20, 19, 18], [13, 12, 7, 6, 1, 0, 5, 4, 3, 2, 11, 10, 9, 8, 21, 17, 16, 15, 14, 20, 19, 18], [22, 13, 12, 7, 6, 1, 0, 5, 4, 3, 2, 11, 10, 9, 8, 21, 17, 16, 15, 14, 20, 19, 18], [23, 22, 13, 12, 7, 6, 1, 0, 5, 4, 3, 2, 11, 10, 9, 8, 21, 17, 16, 15, 14, 20, 19, 18], [24, 23, 22, 13, 12, 7, 6, 1, 0, 5, 4, 3, 2, 11, 10, 9, 8, 21, 17, 16, 15, 14, 20, 19, 18], [25, 24, 23, 22, 13, 12, 7, 6, 1, 0, 5, 4, 3, 2, 11, 10, 9, 8, 21, 17, 16, 15, 14, 20, 19, 18], [23, 22, 13, 12, 7, 6, 1, 0, 5, 4, 3, 2, 11, 10, 9, 8, 21, 17, 16, 15, 14, 20, 19, 18, 26, 25, 24], [27, 23, 22, 13, 12, 7, 6, 1, 0, 5, 4, 3, 2, 11, 10, 9, 8, 21, 17, 16, 15, 14, 20, 19, 18, 26, 25, 24], [28, 27, 23, 22, 13, 12, 7, 6, 1, 0, 5, 4, 3, 2, 11, 10, 9, 8, 21, 17, 16, 15, 14, 20, 19, 18, 26, 25, 24], [29, 28, 27, 23, 22, 13, 12, 7, 6, 1, 0, 5, 4, 3, 2, 11, 10, 9, 8, 21, 17, 16, 15, 14, 20, 19, 18, 26, 25, 24], [30, 29, 28, 27, 23, 22, 13, 12, 7, 6, 1, 0, 5, 4, 3, 2, 11, 10, 9, 8, 21, 17, 16, 15, 14, 20, 19, 18, 26, 25, 24], [28, 27, 23, 22, 13, 12, 7, 6, 1, 0, 5, 4, 3, 2, 11, 10, 9, 8, 21, 17, 16, 15, 14, 20, 19, 18, 26, 25, 24, 31, 30, 29], [32, 28, 27, 23, 22, 13, 12, 7, 6, 1, 0, 5, 4, 3, 2, 11, 10, 9, 8, 21, 17, 16, 15, 14, 20, 19, 18, 26, 25, 24, 31, 30, 29], [33, 32, 28, 27, 23, 22, 13, 12, 7, 6, 1, 0, 5, 4, 3, 2, 11, 10, 9, 8, 21, 17, 16, 15, 14, 20, 19, 18, 26, 25, 24, 31, 30, 29], [34, 33, 32, 28, 27, 23, 22, 13, 12, 7, 6, 1, 0, 5, 4, 3, 2, 11, 10, 9, 8, 21, 17, 16, 15, 14, 20, 19, 18, 26, 25, 24, 31, 30, 29], [35, 34, 33, 32, 28, 27, 23, 22, 13, 12, 7, 6, 1, 0, 5, 4, 3, 2, 11, 10, 9, 8, 21, 17, 16, 15, 14, 20, 19, 18, 26, 25, 24, 31, 30, 29], [36, 35, 34, 33, 32, 28, 27, 23, 22, 13, 12, 7, 6, 1, 0, 5, 4, 3, 2, 11, 10, 9, 8, 21, 17, 16, 15, 14, 20, 19, 18, 26, 25, 24, 31, 30, 29], [37, 36, 35, 34, 33, 32, 28, 27, 23, 22, 13, 12, 7, 6, 1, 0, 5, 4, 3, 2, 11, 10, 9, 8, 21, 17, 16, 15, 14, 20, 19, 18, 26, 25, 24, 31, 30, 29], [38, 37, 36, 35, 34, 33, 32, 28, 27, 23, 22, 13, 12, 7, 6, 1, 0, 5, 4, 3, 2, 11, 10, 9, 8, 21, 17, 16, 15, 14, 20, 19, 18, 26, 25, 24, 31, 30, 29], [39, 38, 37, 36, 35, 34, 33, 32, 28, 27, 23, 22, 13, 12, 7, 6, 1, 0, 5, 4, 3, 2, 11, 10, 9, 8, 21, 17, 16, 15, 14, 20, 19, 18, 26, 25, 24, 31, 30, 29], [40, 39, 38, 37, 36, 35, 34, 33, 32, 28, 27, 23, 22, 13, 12, 7, 6, 1, 0, 5, 4, 3, 2, 11, 10, 9, 8, 21, 17, 16, 15, 14, 20, 19, 18, 26, 25, 24, 31, 30, 29], [37, 36, 35, 34, 33, 32, 28, 27, 23, 22, 13, 12, 7, 6, 1, 0, 5, 4, 3, 2, 11, 10, 9, 8, 21, 17, 16, 15, 14, 20, 19, 18, 26, 25, 24, 31, 30, 29, 41, 40, 39, 38], [33, 32, 28, 27, 23, 22, 13, 12, 7, 6, 1, 0, 5, 4, 3, 2, 11, 10, 9, 8, 21, 17, 16, 15, 14, 20, 19, 18, 26, 25, 24, 31, 30, 29, 42, 37, 36, 35, 34, 41, 40, 39, 38], [43, 33, 32, 28, 27, 23, 22, 13, 12, 7, 6, 1, 0, 5, 4, 3, 2, 11, 10, 9, 8, 21, 17, 16, 15, 14, 20, 19, 18, 26, 25, 24, 31, 30, 29, 42, 37, 36, 35, 34, 41, 40, 39, 38], [44, 43, 33, 32, 28, 27, 23, 22, 13, 12, 7, 6, 1, 0, 5, 4, 3, 2, 11, 10, 9, 8, 21, 17, 16, 15, 14, 20, 19, 18, 26, 25, 24, 31, 30, 29, 42, 37, 36, 35, 34, 41, 40, 39, 38], [45, 44, 43, 33, 32, 28, 27, 23, 22, 13, 12, 7, 6, 1, 0, 5, 4, 3, 2, 11, 10, 9, 8, 21, 17, 16, 15, 14, 20, 19, 18, 26, 25, 24, 31, 30, 29, 42, 37, 36, 35, 34, 41, 40, 39, 38], [46, 45, 44, 43, 33, 32, 28, 27, 23, 22, 13, 12, 7, 6, 1, 0, 5, 4, 3, 2, 11, 10, 9, 8, 21, 17, 16, 15, 14, 20, 19, 18, 26, 25, 24, 31, 30, 29, 42, 37, 36, 35, 34, 41, 40, 39, 38], [47, 46, 45, 44, 43, 33, 32, 28, 27, 23, 22, 13, 12, 7, 6, 1, 0, 5, 4, 3, 2, 11, 10, 9, 8, 21, 17, 16, 15, 14, 20, 19, 18, 26, 25, 24, 31, 30, 29, 42, 37, 36, 35, 34, 41, 40, 39, 38], [48, 47, 46, 45, 44, 43, 33, 32, 28, 27, 23, 22, 13, 12, 7, 6, 1, 0, 5, 4, 3, 2, 11, 10, 9, 8, 21, 17, 16, 15, 14, 20, 19, 18, 26, 25, 24, 31, 30, 29, 42, 37, 36, 35, 34, 41, 40, 39, 38], [49, 48, 47, 46, 45, 44, 43, 33, 32, 28, 27, 23, 22, 13, 12, 7, 6, 1, 0, 5, 4, 3, 2, 11, 10, 9, 8, 21, 17, 16, 15, 14, 20, 19, 18, 26, 25, 24, 31, 30, 29, 42, 37, 36, 35, 34, 41, 40, 39, 38], [50, 49, 48, 47, 46, 45, 44, 43, 33, 32, 28, 27, 23, 22, 13, 12, 7, 6, 1, 0, 5, 4, 3, 2, 11, 10, 9, 8, 21, 17, 16, 15, 14, 20, 19, 18, 26, 25, 24, 31, 30, 29, 42, 37, 36, 35, 34, 41, 40, 39, 38], [51, 50, 49, 48, 47, 46, 45, 44, 43, 33, 32, 28, 27, 23, 22, 13, 12, 7, 6, 1, 0, 5, 4, 3, 2, 11, 10, 9, 8, 21, 17, 16, 15, 14, 20, 19, 18, 26, 25, 24, 31, 30, 29, 42, 37, 36, 35, 34, 41, 40, 39, 38], [48, 47, 46, 45, 44, 43, 33, 32, 28, 27, 23, 22, 13, 12, 7, 6, 1, 0, 5, 4, 3, 2, 11, 10, 9, 8, 21, 17, 16, 15, 14, 20, 19, 18, 26, 25, 24, 31, 30, 29, 42, 37, 36, 35, 34, 41, 40, 39, 38, 52, 51, 50, 49], [44, 43, 33, 32, 28, 27, 23, 22, 13, 12, 7, 6, 1, 0, 5, 4, 3, 2, 11, 10, 9, 8, 21, 17, 16, 15, 14, 20, 19, 18, 26, 25, 24, 31, 30, 29, 42, 37, 36, 35, 34, 41, 40, 39, 38, 53, 48, 47, 46, 45, 52, 51, 50, 49]] 4)
 (.cond (.t 112)
 (.seq (.region Di)
 .ret)
 .skip))
 (.seq (.seq (.region XR)
 (.block 0 (.loop TT)))
 (.seq (.region VZ)
 (.seq (.region UO)
 (.seq (.seq (.region Tf)
 (.cond (.t 179)
 (.seq (.region Pj)
 .ret)
 .skip))
 (.seq (.seq (.region TA)
 (.block 4 (.loop Uj)))
 (.seq (.region UC)
 .ret))))))))))))
theorem AL6 : Fn PR NL 200 Au8 [.tmp 2] := ⟨fun vs w => Try.call44 vs w, Try.f44, _, Try.func44, rfl, rfl, by kernel_rfl, by kernel_rfl⟩
def Qd : List XI := [J 2 (.move (.c (.d (.bool false))))]
def Nr : List XI := [J 3 (.move (.t 0)), J 4 (.nilCheck (.t 3)), J 5 (.fieldAddr 0 (.t 4)), J 6 (.load false 1 (.t 5)), J 7 (.bin .geq (.t 6) (.c (.d (.int .i64 1000)))), J 8 (.move (.t 7)), Jf 9 8 (.move (.t 0)), Jf 10 8 (.nilCheck (.t 9)), Jf 11 8 (.fieldAddr 1 (.t 10)), Jf 12 8 (.load false 1 (.t 11)), Jf 13 8 (.bin .geq (.t 12) (.c (.d (.int .i64 1000)))), J 14 (.pick (.t 8) (.c (.d (.bool true))) (.t 13))]
def JV : List XI := [J 2 (.move (.t 14))]
def PB : List XI := Nr ++ (JV)
def Tb : XC :=
 (.seq (.region Qd)
 (.seq (.region PB)
 .ret))
theorem Ap8 : Fn PR Jp 15 Tb [.tmp 2] := ⟨fun vs w => Try.call45 vs w, Try.f45, _, Try.func45, rfl, rfl, by kernel_rfl, by kernel_rfl⟩
def Rv : List XI := [J 3 (.box (.t 1))]
def Rd : List XI := [J 4 (.move (.t 0)), J 5 (.move (.t 0)), J 6 (.move (.t 0)), J 7 (.nilCheck (.t 6)), J 8 (.fieldAddr 0 (.t 7)), J 9 (.load false 1 (.t 8)), J 10 (.fieldAddr 0 (.t 3)), J 11 (.load false 1 (.t 10)), J 12 (.bin .add (.t 9) (.t 11)), J 13 (.minmax false (.t 12) [(.c (.d (.int .i64 1000)))]), J 14 (.move (.t 0)), J 15 (.nilCheck (.t 14)), J 16 (.fieldAddr 1 (.t 15)), J 17 (.load false 1 (.t 16)), J 18 (.fieldAddr 1 (.t 3)), J 19 (.load false 1 (.t 18)), J 20 (.minmax true (.t 17) [(.t 19)]), J 21 (.nilCheck (.t 4)), J 22 (.fieldAddr 0 (.t 21)), { dst := none, op := .store 1 (.t 22) (.t 13) }, J 23 (.nilCheck (.t 5)), J 24 (.fieldAddr 1 (.t 23)), { dst := none, op := .store 1 (.t 24) (.t 20) }]
def X7 : XC :=
 (.seq (.region Rv)
 (.regionD Rd [[], [], [], [2], [3, 2], [4, 3, 2], [], [6], [5, 4, 3, 2, 7, 6], [8, 5, 4, 3, 2, 7, 6], [], [10], [11, 10], [12, 11, 10], [], [14], [13, 12, 11, 10, 15, 14], [0, 2, 3, 4, 5, 6, 7, 8, 9, 13, 12, 11, 10], [17, 0, 2, 3, 4, 5, 6, 7, 8, 9, 13, 12, 11, 10], [18, 17, 0, 2, 3, 4, 5, 6, 7, 8, 9, 13, 12, 11, 10], [1, 0, 2, 3, 4, 5, 6, 7, 8, 9, 10, 11, 12, 13, 14, 15, 16, 17, 18, 19], [20, 1, 0, 2, 3, 4, 5, 6, 7, 8, 9, 10, 11, 12, 13, 14, 15, 16, 17, 18, 19], [21, 20, 1, 0, 2, 3, 4, 5, 6, 7, 8, 9, 10, 11, 12, 13, 14, 15, 16, 17, 18, 19]] 0))
theorem As6 : Fn PR I0 25 X7 [] := ⟨fun vs w => Try.call46 vs w, Try.f46, _, Try.func46, rfl, rfl, by kernel_rfl, by kernel_rfl⟩
def Lx : List XI := [J 6 (.alloc [(.d (.int .i64 0)), (.d (.int .i64 0))])]
def LH : List XI := [J 7 (.alloc [(.d (.int .i64 0)), (.d (.int .i64 0))])]
def Mt : List XI := [J 10 (.move (.t 0)), J 11 (.lenR (.t 10)), J 12 (.move (.c (.d (.int .i64 0))))]
def LQ : List XI := [J 13 (.bin .lss (.t 12) (.t 11))]
def L7 : List XI := [J 14 (.indexAddr 6 (.t 10) (.t 12)), J 15 (.load true 6 (.t 14)), J 9 (.alloc [(.d (.int .i64 0)), (.d (.int .i64 0)), (.d (.str ⟨#[]⟩)), (.d (.str ⟨#[]⟩)), (.d (.str ⟨#[]⟩)), (.ex [])]), { dst := none, op := .store 6 (.t 9) (.t 15) }]
def Mm : List XI := [J 16 (.call Jp [(.t 7)]), J 17 (.move (.t 16)), Jf 18 17 (.move (.t 1)), Jf 19 17 (.bin .geq (.t 18) (.c (.d (.int .i64 1000)))), J 20 (.pick (.t 17) (.c (.d (.bool true))) (.t 19))]
def L5 : List XI := [J 21 (.build [(.d (.int .i64 0)), (.d (.int .i64 0))] [(0, 1, (.c (.d (.int .i64 1000)))), (1, 1, (.c (.d (.int .i64 1000))))]), { dst := none, op := .store 2 (.t 6) (.t 21) }]
def LD : List XI := [J 22 (.move (.t 2)), J 23 (.load true 6 (.t 9)), J 24 (.move (.t 1)), J 25 (.dyn (.t 22) [(.t 23), (.t 24)]), J 26 (.call I0 [(.t 7), (.t 25)])]
def Mv : List XI := [J 27 (.bin .add (.t 12) (.c (.d (.int .i64 1)))), J 12 (.move (.t 27))]
def LR : XC :=
 (.seq (.region LQ)
 (.seq (.cond (.t 13)
 .skip
 (.exit 0))
 (.seq (.block 1 (.seq (.region L7)
 (.seq (.seq (.region Mm)
 (.cond (.t 20)
 (.seq (.region L5)
 .ret)
 .skip))
 (.region LD))))
 (.region Mv))))
def K6 : List XI := [J 28 (.load true 2 (.t 7)), { dst := none, op := .store 2 (.t 6) (.t 28) }]
def PJ : XC :=
 (.seq (.region Lx)
 (.seq (.region LH)
 (.seq (.seq (.region Mt)
 (.block 0 (.loop LR)))
 (.seq (.region K6)
 .ret))))
theorem Yi : Fn PR IL 29 PJ [.cell 6 true 2] := ⟨fun vs w => Try.call47 vs w, Try.f47, _, Try.func47, rfl, rfl, by kernel_rfl, by kernel_rfl⟩
def Q2 : List XI := [J 2 (.box (.t 0)), J 4 (.alloc [(.d (.int .i64 0)), (.d (.int .i64 0))])]
def RA : List XI := [J 5 (.fieldAddr 5 (.t 2)), J 6 (.load false 1 (.t 5)), J 7 (.move (.t 1)), J 8 (.bin .add (.t 7) (.c (.d (.int .i64 1)))), J 9 (.call IL [(.t 6), (.t 8), (.c (.fn HD [] []))]), J 10 (.call Ym [(.t 9)]), { dst := none, op := .store 2 (.t 4) (.t 10) }]
def Xo : XC :=
 (.seq (.region Q2)
 (.seq (.region RA)
 .ret))
theorem Ax9 : Fn PR HD 11 Xo [.cell 4 true 2] := ⟨fun vs w => Try.call48 vs w, Try.f48, _, Try.func48, rfl, rfl, by kernel_rfl, by kernel_rfl⟩
def Zw : List XI := [J 1 (.box (.t 0)), J 2 (.alloc [(.d (.int .i64 0)), (.d (.int .i64 0))])]
def ZX : List XI := [J 3 (.fieldAddr 0 (.t 1)), J 4 (.load false 1 (.t 3)), J 5 (.bin .add (.t 4) (.c (.d (.int .i64 1)))), J 6 (.minmax false (.t 5) [(.c (.d (.int .i64 1000)))]), J 7 (.fieldAddr 1 (.t 1)), J 8 (.load false 1 (.t 7)), J 9 (.bin .add (.t 8) (.c (.d (.int .i64 1)))), J 10 (.minmax false (.t 9) [(.c (.d (.int .i64 1000)))]), J 11 (.build [(.d (.int .i64 0)), (.d (.int .i64 0))] [(0, 1, (.t 6)), (1, 1, (.t 10))]), { dst := none, op := .store 2 (.t 2) (.t 11) }]
def AE9 : XC :=
 (.seq (.region Zw)
 (.seq (.region ZX)
 .ret))
theorem AV4 : Fn PR Ym 12 AE9 [.cell 2 true 2] := ⟨fun vs w => Try.call49 vs w, Try.f49, _, Try.func49, rfl, rfl, by kernel_rfl, by kernel_rfl⟩
def Qe : List XI := [J 2 (.box (.t 0)), J 3 (.box (.t 1))]
def PI : List XI := [J 8 (.fieldAddr 0 (.t 3)), J 9 (.load false 1 (.t 8))]
def PP : List XI := [J 11 (.bin .eql (.t 9) (.c (.d (.int .i64 4)))), J 10 (.move (.t 11))]
def Ps : List XI := [J 12 (.bin .eql (.t 9) (.c (.d (.int .i64 5)))), J 10 (.move (.t 12))]
def Pq : List XI := [J 13 (.fieldAddr 0 (.t 2)), J 14 (.load false 1 (.t 13)), J 15 (.fieldAddr 2 (.t 3)), J 16 (.load false 1 (.t 15)), J 17 (.fieldAddr 1 (.t 2)), J 18 (.load false 1 (.t 17)), J 19 (.fieldAddr 2 (.t 3)), J 20 (.load false 1 (.t 19)), { dst := none, op := .mapSet AD AV (.t 14) (.t 16) (.c (.d (.bool true))) }, { dst := none, op := .mapSet AD AV (.t 18) (.t 20) (.c (.d (.bool true))) }]
def PT : List XI := [J 22 (.bin .eql (.t 9) (.c (.d (.int .i64 6)))), J 21 (.move (.t 22))]
def PL : List XI := [J 23 (.fieldAddr 0 (.t 2)), J 24 (.load false 1 (.t 23)), J 25 (.fieldAddr 2 (.t 3)), J 26 (.load false 1 (.t 25)), { dst := none, op := .mapSet AD AV (.t 24) (.t 26) (.c (.d (.bool true))) }]
def PY : List XI := [J 28 (.bin .eql (.t 9) (.c (.d (.int .i64 3)))), J 27 (.move (.t 28))]
def PU : List XI := [J 29 (.fieldAddr 1 (.t 2)), J 30 (.load false 1 (.t 29)), J 31 (.fieldAddr 2 (.t 3)), J 32 (.load false 1 (.t 31)), { dst := none, op := .mapSet AD AV (.t 30) (.t 32) (.c (.d (.bool true))) }]
def PH : List XI := [J 34 (.bin .eql (.t 9) (.c (.d (.int .i64 8)))), J 33 (.move (.t 34))]
def NZ : List XI := [J 35 (.fieldAddr 2 (.t 2)), J 36 (.load false 1 (.t 35)), J 37 (.fieldAddr 2 (.t 3)), J 38 (.load false 1 (.t 37)), { dst := none, op := .mapSet AD AV (.t 36) (.t 38) (.c (.d (.bool true))) }]
def OX : List XI := [J 39 (.fieldAddr 5 (.t 3)), J 40 (.load false 1 (.t 39)), J 41 (.lenR (.t 40)), J 42 (.move (.c (.d (.int .i64 0))))]
def NX : List XI := [J 43 (.bin .lss (.t 42) (.t 41))]
def Oc : List XI := [J 44 (.indexAddr 6 (.t 40) (.t 42)), J 45 (.load true 6 (.t 44)), J 5 (.alloc [(.d (.int .i64 0)), (.d (.int .i64 0)), (.d (.str ⟨#[]⟩)), (.d (.str ⟨#[]⟩)), (.d (.str ⟨#[]⟩)), (.ex [])]), { dst := none, op := .store 6 (.t 5) (.t 45) }]
def OI : List XI := [J 46 (.load true 3 (.t 2)), J 47 (.load true 6 (.t 5)), J 48 (.call Ha [(.t 46), (.t 47)])]
def OW : List XI := [J 49 (.bin .add (.t 42) (.c (.d (.int .i64 1)))), J 42 (.move (.t 49))]
def NY : XC :=
 (.seq (.region NX)
 (.seq (.cond (.t 43)
 .skip
 (.exit 1))
 (.seq (.block 2 (.seq (.region Oc)
 (.region OI)))
 (.region OW))))
def Oh : List XI := [J 50 (.fieldAddr 6 (.t 3)), J 51 (.load false 1 (.t 50)), J 52 (.call DO [(.t 51)]), J 53 (.fieldAddr 7 (.t 3)), J 54 (.load false 1 (.t 53)), { dst := some 55, op := .append AU 8 144 (.t 52) (.t 54), nm := 1 }, J 56 (.lenR (.t 55)), J 57 (.move (.c (.d (.int .i64 0))))]
def OD : List XI := [J 58 (.bin .lss (.t 57) (.t 56))]
def NR : List XI := [J 59 (.indexAddr 8 (.t 55) (.t 57)), J 60 (.load true 8 (.t 59)), J 7 (.alloc [(.d (.int .i64 0)), (.d (.str ⟨#[]⟩)), (.d (.str ⟨#[]⟩)), (.d (.int .i64 0)), (.ex []), (.ex []), (.ex []), (.ex [])]), { dst := none, op := .store 8 (.t 7) (.t 60) }]
def NK : List XI := [J 61 (.load true 3 (.t 2)), J 62 (.load true 8 (.t 7)), J 63 (.call GY [(.t 61), (.t 62)])]
def ON : List XI := [J 64 (.bin .add (.t 57) (.c (.d (.int .i64 1)))), J 57 (.move (.t 64))]
def NP : XC :=
 (.seq (.region OD)
 (.seq (.cond (.t 58)
 .skip
 (.exit 3))
 (.seq (.block 4 (.seq (.region NR)
 (.region NK)))
 (.region ON))))
def T6 : XC :=
 (.seq (.region Qe)
 (.seq (.seq (.region PI)
 (.block 0 (.seq (.seq (.region PP)
 (.cond (.t 10)
 .skip
 (.region Ps)))
 (.cond (.t 10)
 (.regionD Pq [[], [0], [], [2], [], [4], [], [6], [1, 0, 3, 2], [5, 4, 7, 6, 8, 1, 0, 3, 2]] 0)
 (.seq (.region PT)
 (.cond (.t 21)
 (.region PL)
 (.seq (.region PY)
 (.cond (.t 27)
 (.region PU)
 (.seq (.region PH)
 (.cond (.t 33)
 (.region NZ)
 .skip))))))))))
 (.seq (.seq (.region OX)
 (.block 1 (.loop NY)))
 (.seq (.regionD Oh [[], [0], [1, 0], [], [3], [2, 1, 0, 4, 3], [5, 2, 1, 0, 4, 3], []] 2)
 (.block 3 (.loop NP))))))
theorem An2 : Fn PR GY 65 T6 [] := ⟨fun vs w => Try.call53 vs w, Try.f53, _, Try.func53, rfl, rfl, by kernel_rfl, by kernel_rfl⟩
def Ud : List XI := [J 6 (.move (.c (.d (.bool false))))]
def Rm : List XI := [J 7 (.move (.t 0)), J 8 (.move (.t 1)), J 9 (.bin .geq (.t 7) (.t 8)), J 10 (.move (.t 9)), Jt 11 10 (.move (.t 0)), Jt 12 10 (.move (.t 2)), Jt 13 10 (.bin .leq (.t 11) (.t 12)), J 14 (.pick (.t 10) (.t 13) (.c (.d (.bool false))))]
def LT : List XI := [J 6 (.move (.t 14))]
def Tz : List XI := Rm ++ (LT)
def Ai7 : XC :=
 (.seq (.region Ud)
 (.seq (.region Tz)
 .ret))
theorem AI9 : Fn PR Kn 15 Ai7 [.tmp 6] := ⟨fun vs w => Try.call54 vs w, Try.f54, _, Try.func54, rfl, rfl, by kernel_rfl, by kernel_rfl⟩
def DA : List XI := [J 4 (.move (.c (.d (.bool false))))]
def DG : List XI := [J 5 (.move (.t 0)), J 6 (.move (.t 1)), J 7 (.call Df [(.t 5), (.t 6)]), J 8 (.bin .geq (.t 7) (.c (.d (.int .i64 0)))), J 4 (.move (.t 8))]
def Et : XC :=
 (.seq (.region DA)
 (.seq (.region DG)
 .ret))
theorem HA : Fn PR CV 9 Et [.tmp 4] := ⟨fun vs w => Try.call56 vs w, Try.f56, _, Try.func56, rfl, rfl, by kernel_rfl, by kernel_rfl⟩
def Q4 : List XI := [J 1 (.box (.t 0)), J 2 (.move (.c (.d (.bool false))))]
def QR : List XI := [J 3 (.load true 8 (.t 1)), J 4 (.call LG [(.t 3)]), J 5 (.not (.t 4)), J 2 (.move (.t 5))]
def XP : XC :=
 (.seq (.region Q4)
 (.seq (.region QR)
 .ret))
theorem Ar7 : Fn PR HB 6 XP [.tmp 2] := ⟨fun vs w => Try.call57 vs w, Try.f57, _, Try.func57, rfl, rfl, by kernel_rfl, by kernel_rfl⟩
def Yb : List XI := [J 1 (.box (.t 0)), J 2 (.move (.c (.d (.bool false))))]
def SL : List XI := [J 3 (.load true 8 (.t 1)), J 4 (.call YI [(.t 3)]), J 5 (.move (.t 4)), Jt 6 5 (.fieldAddr 5 (.t 1)), Jt 7 5 (.load false 1 (.t 6)), Jt 8 5 (.call B4 [(.t 7), (.c (.fn SV [] []))]), Jt 9 5 (.not (.t 8)), J 10 (.pick (.t 5) (.t 9) (.c (.d (.bool false))))]
def SG : List XI := [J 11 (.move (.t 10)), Jt 12 11 (.fieldAddr 6 (.t 1)), Jt 13 11 (.load false 1 (.t 12)), Jt 14 11 (.call Hl [(.t 13)]), J 15 (.pick (.t 11) (.t 14) (.c (.d (.bool false))))]
def Sy : List XI := [J 16 (.move (.t 15)), Jt 17 16 (.fieldAddr 7 (.t 1)), Jt 18 16 (.load false 1 (.t 17)), Jt 19 16 (.call Hl [(.t 18)]), J 20 (.pick (.t 16) (.t 19) (.c (.d (.bool false))))]
def NC : List XI := [J 2 (.move (.t 20))]
def Xm : List XI := SL ++ (SG ++ (Sy ++ (NC)))
def Ax7 : XC :=
 (.seq (.region Yb)
 (.seq (.region Xm)
 .ret))
theorem AQ6 : Fn PR LG 21 Ax7 [.tmp 2] := ⟨fun vs w => Try.call58 vs w, Try.f58, _, Try.func58, rfl, rfl, by kernel_rfl, by kernel_rfl⟩
def L2 : List XI := [J 2 (.move (.c (.d (.bool false))))]
def KM : List XI := [J 3 (.move (.t 0)), J 4 (.bin .geq (.t 3) (.c (.d (.int .u8 97)))), J 5 (.move (.t 4)), Jt 6 5 (.move (.t 0)), Jt 7 5 (.bin .leq (.t 6) (.c (.d (.int .u8 122)))), J 8 (.pick (.t 5) (.t 7) (.c (.d (.bool false))))]
def HU : List XI := [J 2 (.move (.t 8))]
def Mf : List XI := KM ++ (HU)
def PD : XC :=
 (.seq (.region L2)
 (.seq (.region Mf)
 .ret))
theorem Yj : Fn PR IK 9 PD [.tmp 2] := ⟨fun vs w => Try.call59 vs w, Try.f59, _, Try.func59, rfl, rfl, by kernel_rfl, by kernel_rfl⟩
def Oz : List XI := [J 2 (.move (.c (.d (.bool false))))]
def LE : List XI := [J 3 (.move (.t 0)), J 4 (.call IK [(.t 3)]), J 5 (.move (.t 4)), Jf 6 5 (.move (.t 0)), Jf 7 5 (.bin .geq (.t 6) (.c (.d (.int .u8 48)))), Jf 8 5 (.move (.t 7)), Jt 9 8 (.move (.t 0)), Jt 10 8 (.bin .leq (.t 9) (.c (.d (.int .u8 57)))), Jf 11 5 (.pick (.t 8) (.t 10) (.c (.d (.bool false)))), J 12 (.pick (.t 5) (.c (.d (.bool true))) (.t 11))]
def G0 : List XI := [J 13 (.move (.t 12)), Jf 14 13 (.move (.t 0)), Jf 15 13 (.bin .eql (.t 14) (.c (.d (.int .u8 95)))), J 16 (.pick (.t 13) (.c (.d (.bool true))) (.t 15))]
def Fv : List XI := [J 2 (.move (.t 16))]
def Oe : List XI := LE ++ (G0 ++ (Fv))
def Sb : XC :=
 (.seq (.region Oz)
 (.seq (.region Oe)
 .ret))
theorem Ad2 : Fn PR NA 17 Sb [.tmp 2] := ⟨fun vs w => Try.call60 vs w, Try.f60, _, Try.func60, rfl, rfl, by kernel_rfl, by kernel_rfl⟩
def As8 : List XI := [J 4 (.move (.c (.d (.bool false))))]
def Az7 : List XI := [J 5 (.move (.c (.d (.int .i64 0))))]
def Aw9 : List XI := [J 6 (.move (.t 5)), J 7 (.move (.t 0)), J 8 (.lenS (.t 7)), J 9 (.bin .lss (.t 6) (.t 8))]
def Ay5 : List XI := [J 12 (.move (.t 0)), J 13 (.move (.t 5)), J 14 (.indexStr (.t 12) (.t 13)), J 15 (.move (.t 1)), J 16 (.bin .eql (.t 14) (.t 15))]
def Au6 : List XI := [J 4 (.move (.c (.d (.bool true))))]
def Au9 : List XI := [J 10 (.move (.t 5)), J 11 (.bin .add (.t 10) (.c (.d (.int .i64 1)))), J 5 (.move (.t 11))]
def As4 : XC :=
 (.seq (.seq (.region Aw9)
 (.cond (.t 9)
 .skip
 (.exit 0)))
 (.seq (.block 1 (.seq (.region Ay5)
 (.cond (.t 16)
 (.seq (.region Au6)
 .ret)
 .skip)))
 (.region Au9)))
def Ay1 : List XI := [J 4 (.move (.c (.d (.bool false))))]
def AW0 : XC :=
 (.seq (.region As8)
 (.seq (.seq (.region Az7)
 (.block 0 (.loop As4)))
 (.seq (.region Ay1)
 .ret)))
theorem AZ3 : Fn PR Sm 17 AW0 [.tmp 4] := ⟨fun vs w => Try.call61 vs w, Try.f61, _, Try.func61, rfl, rfl, by kernel_rfl, by kernel_rfl⟩
def Qh : List XI := [J 1 (.box (.t 0)), J 2 (.move (.c (.d (.bool false))))]
def PQ : List XI := [J 6 (.fieldAddr 0 (.t 1)), J 7 (.load false 1 (.t 6)), J 8 (.build [(.d (.int .i64 0)), (.d (.int .i64 0)), (.d (.str ⟨#[]⟩)), (.d (.str ⟨#[]⟩)), (.d (.str ⟨#[]⟩)), (.ex [])] [(0, 1, (.t 7))]), J 3 (.alloc [(.d (.int .i64 0)), (.d (.int .i64 0)), (.d (.str ⟨#[]⟩)), (.d (.str ⟨#[]⟩)), (.d (.str ⟨#[]⟩)), (.ex [])]), { dst := none, op := .store 6 (.t 3) (.t 8) }]
def PF : List XI := [J 4 (.move (.c (.d (.int .i64 0))))]
def Qc : List XI := [J 10 (.fieldAddr 0 (.t 1)), J 11 (.load false 1 (.t 10)), J 12 (.bin .eql (.t 11) (.c (.d (.int .i64 1)))), J 9 (.move (.t 12))]
def PZ : List XI := [J 13 (.fieldAddr 1 (.t 1)), J 14 (.load false 1 (.t 13)), J 15 (.minmax true (.t 14) [(.c (.d (.int .i64 0)))]), J 16 (.fieldAddr 1 (.t 3)), { dst := none, op := .store 1 (.t 16) (.t 15) }]
def Pr : List XI := [J 18 (.fieldAddr 0 (.t 1)), J 19 (.load false 1 (.t 18)), J 20 (.bin .eql (.t 19) (.c (.d (.int .i64 2)))), J 17 (.move (.t 20))]
def Qf : List XI := [J 21 (.fieldAddr 2 (.t 1)), J 22 (.load false 1 (.t 21)), J 23 (.fieldAddr 2 (.t 3)), { dst := none, op := .store 1 (.t 23) (.t 22) }]
def PN : List XI := [J 24 (.fieldAddr 2 (.t 1)), J 25 (.load false 1 (.t 24)), J 26 (.lenS (.t 25)), J 27 (.bin .gtr (.t 26) (.c (.d (.int .i64 200))))]
def Qm : List XI := [J 2 (.move (.c (.d (.bool false))))]
def Qb : List XI := [J 29 (.fieldAddr 0 (.t 1)), J 30 (.load false 1 (.t 29)), J 31 (.bin .eql (.t 30) (.c (.d (.int .i64 3)))), J 28 (.move (.t 31))]
def NN : List XI := [J 32 (.fieldAddr 1 (.t 1)), J 33 (.load false 1 (.t 32)), J 34 (.minmax true (.t 33) [(.c (.d (.int .i64 0)))]), J 35 (.minmax false (.t 34) [(.c (.d (.int .i64 1)))]), J 36 (.fieldAddr 1 (.t 3)), { dst := none, op := .store 1 (.t 36) (.t 35) }]
def Lv : List XI := [J 38 (.fieldAddr 0 (.t 1)), J 39 (.load false 1 (.t 38)), J 40 (.bin .eql (.t 39) (.c (.d (.int .i64 4)))), J 41 (.move (.t 40)), Jf 42 41 (.fieldAddr 0 (.t 1)), Jf 43 41 (.load false 1 (.t 42)), Jf 44 41 (.bin .eql (.t 43) (.c (.d (.int .i64 5)))), J 45 (.pick (.t 41) (.c (.d (.bool true))) (.t 44))]
def LY : List XI := [J 46 (.move (.t 45)), Jf 47 46 (.fieldAddr 0 (.t 1)), Jf 48 46 (.load false 1 (.t 47)), Jf 49 46 (.bin .geq (.t 48) (.c (.d (.int .i64 21)))), Jf 50 46 (.move (.t 49)), Jt 51 50 (.fieldAddr 0 (.t 1)), Jt 52 50 (.load false 1 (.t 51)), Jt 53 50 (.bin .leq (.t 52) (.c (.d (.int .i64 24)))), Jf 54 46 (.pick (.t 50) (.t 53) (.c (.d (.bool false)))), J 55 (.pick (.t 46) (.c (.d (.bool true))) (.t 54))]
def GZ : List XI := [J 37 (.move (.t 55))]
def Oq : List XI := Lv ++ (LY ++ (GZ))
def NV : List XI := [J 56 (.fieldAddr 3 (.t 1)), J 57 (.load false 1 (.t 56)), J 58 (.fieldAddr 3 (.t 3)), { dst := none, op := .store 1 (.t 58) (.t 57) }]
def OF : List XI := [J 59 (.fieldAddr 3 (.t 1)), J 60 (.load false 1 (.t 59)), J 61 (.call Jl [(.t 60)]), J 62 (.not (.t 61))]
def NT : List XI := [J 2 (.move (.c (.d (.bool false))))]
def OY : List XI := [J 63 (.fieldAddr 0 (.t 1)), J 64 (.load false 1 (.t 63)), J 65 (.bin .eql (.t 64) (.c (.d (.int .i64 5))))]
def OK : List XI := [J 66 (.fieldAddr 2 (.t 1)), J 67 (.load false 1 (.t 66)), J 68 (.fieldAddr 2 (.t 3)), { dst := none, op := .store 1 (.t 68) (.t 67) }]
def Od : List XI := [J 69 (.fieldAddr 2 (.t 1)), J 70 (.load false 1 (.t 69)), J 71 (.call Jl [(.t 70)]), J 72 (.not (.t 71))]
def OP : List XI := [J 2 (.move (.c (.d (.bool false))))]
def OT : List XI := [J 73 (.fieldAddr 0 (.t 1)), J 74 (.load false 1 (.t 73)), J 75 (.bin .gtr (.t 74) (.c (.d (.int .i64 5))))]
def NQ : List XI := [J 76 (.fieldAddr 4 (.t 1)), J 77 (.load false 1 (.t 76)), J 78 (.fieldAddr 4 (.t 3)), { dst := none, op := .store 1 (.t 78) (.t 77) }]
def NW : List XI := [J 4 (.move (.c (.d (.int .i64 2))))]
def OL : List XI := [J 79 (.fieldAddr 0 (.t 1)), J 80 (.load false 1 (.t 79)), J 81 (.bin .eql (.t 80) (.c (.d (.int .i64 21))))]
def Ou : List XI := [J 4 (.move (.c (.d (.int .i64 1))))]
def NU : List XI := [J 82 (.fieldAddr 4 (.t 1)), J 83 (.load false 1 (.t 82)), J 84 (.call Jl [(.t 83)]), J 85 (.not (.t 84))]
def Ot : List XI := [J 2 (.move (.c (.d (.bool false))))]
def L8 : List XI := [J 87 (.fieldAddr 0 (.t 1)), J 88 (.load false 1 (.t 87)), J 89 (.bin .geq (.t 88) (.c (.d (.int .i64 6)))), J 90 (.move (.t 89)), Jt 91 90 (.fieldAddr 0 (.t 1)), Jt 92 90 (.load false 1 (.t 91)), Jt 93 90 (.bin .leq (.t 92) (.c (.d (.int .i64 18)))), J 94 (.pick (.t 90) (.t 93) (.c (.d (.bool false))))]
def IU : List XI := [J 86 (.move (.t 94))]
def Oj : List XI := L8 ++ (IU)
def Of : List XI := [J 4 (.move (.c (.d (.int .i64 2))))]
def Mi : List XI := [J 96 (.fieldAddr 0 (.t 1)), J 97 (.load false 1 (.t 96)), J 98 (.bin .eql (.t 97) (.c (.d (.int .i64 19)))), J 99 (.move (.t 98)), Jf 100 99 (.fieldAddr 0 (.t 1)), Jf 101 99 (.load false 1 (.t 100)), Jf 102 99 (.bin .eql (.t 101) (.c (.d (.int .i64 20)))), J 103 (.pick (.t 99) (.c (.d (.bool true))) (.t 102))]
def IP : List XI := [J 95 (.move (.t 103))]
def NS : List XI := Mi ++ (IP)
def Kc : List XI := [J 4 (.move (.c (.d (.int .i64 1))))]
def Og : List XI := [J 2 (.move (.c (.d (.bool false))))]
def Mk : List XI := [J 104 (.fieldAddr 1 (.t 1)), J 105 (.load false 1 (.t 104)), J 106 (.fieldAddr 1 (.t 3)), J 107 (.load false 1 (.t 106)), J 108 (.bin .neq (.t 105) (.t 107)), J 109 (.move (.t 108)), Jf 110 109 (.fieldAddr 2 (.t 1)), Jf 111 109 (.load false 1 (.t 110)), Jf 112 109 (.fieldAddr 2 (.t 3)), Jf 113 109 (.load false 1 (.t 112)), Jf 114 109 (.bin .neq (.t 111) (.t 113)), J 115 (.pick (.t 109) (.c (.d (.bool true))) (.t 114))]
def LV : List XI := [J 116 (.move (.t 115)), Jf 117 116 (.fieldAddr 3 (.t 1)), Jf 118 116 (.load false 1 (.t 117)), Jf 119 116 (.fieldAddr 3 (.t 3)), Jf 120 116 (.load false 1 (.t 119)), Jf 121 116 (.bin .neq (.t 118) (.t 120)), J 122 (.pick (.t 116) (.c (.d (.bool true))) (.t 121))]
def LM : List XI := [J 123 (.move (.t 122)), Jf 124 123 (.fieldAddr 4 (.t 1)), Jf 125 123 (.load false 1 (.t 124)), Jf 126 123 (.fieldAddr 4 (.t 3)), Jf 127 123 (.load false 1 (.t 126)), Jf 128 123 (.bin .neq (.t 125) (.t 127)), J 129 (.pick (.t 123) (.c (.d (.bool true))) (.t 128))]
def L0 : List XI := [J 130 (.move (.t 129)), Jf 131 130 (.fieldAddr 5 (.t 1)), Jf 132 130 (.load false 1 (.t 131)), Jf 133 130 (.lenR (.t 132)), Jf 134 130 (.move (.t 4)), Jf 135 130 (.bin .neq (.t 133) (.t 134)), J 136 (.pick (.t 130) (.c (.d (.bool true))) (.t 135))]
def OH : List XI := Mk ++ (LV ++ (LM ++ (L0)))
def Oa : List XI := [J 2 (.move (.c (.d (.bool false))))]
def Oy : List XI := [J 5 (.move (.c (.d (.int .i64 0))))]
def NM : List XI := [J 137 (.move (.t 5)), J 138 (.move (.t 4)), J 139 (.bin .lss (.t 137) (.t 138))]
def OB : List XI := [J 142 (.fieldAddr 5 (.t 1)), J 143 (.load false 1 (.t 142)), J 144 (.move (.t 5)), J 145 (.indexAddr 6 (.t 143) (.t 144)), J 146 (.load true 6 (.t 145)), J 147 (.call G2 [(.t 146)]), J 148 (.not (.t 147))]
def OS : List XI := [J 2 (.move (.c (.d (.bool false))))]
def Ow : List XI := [J 140 (.move (.t 5)), J 141 (.bin .add (.t 140) (.c (.d (.int .i64 1)))), J 5 (.move (.t 141))]
def Om : XC :=
 (.seq (.seq (.region NM)
 (.cond (.t 139)
 .skip
 (.exit 1)))
 (.seq (.block 2 (.seq (.region OB)
 (.cond (.t 148)
 (.seq (.region OS)
 .ret)
 .skip)))
 (.region Ow)))
def Ov : List XI := [J 2 (.move (.c (.d (.bool true))))]
def S9 : XC :=
 (.seq (.region Qh)
 (.seq (.region PQ)
 (.seq (.region PF)
 (.seq (.block 0 (.seq (.region Qc)
 (.cond (.t 9)
 (.region PZ)
 (.seq (.region Pr)
 (.cond (.t 17)
 (.seq (.region Qf)
 (.seq (.region PN)
 (.cond (.t 27)
 (.seq (.region Qm)
 .ret)
 .skip)))
 (.seq (.region Qb)
 (.cond (.t 28)
 (.region NN)
 (.seq (.region Oq)
 (.cond (.t 37)
 (.seq (.region NV)
 (.seq (.seq (.region OF)
 (.cond (.t 62)
 (.seq (.region NT)
 .ret)
 .skip))
 (.seq (.seq (.region OY)
 (.cond (.t 65)
 (.seq (.region OK)
 (.seq (.region Od)
 (.cond (.t 72)
 (.seq (.region OP)
 .ret)
 .skip)))
 .skip))
 (.seq (.region OT)
 (.cond (.t 75)
 (.seq (.region NQ)
 (.seq (.region NW)
 (.seq (.seq (.region OL)
 (.cond (.t 81)
 (.region Ou)
 .skip))
 (.seq (.region NU)
 (.cond (.t 85)
 (.seq (.region Ot)
 .ret)
 .skip)))))
 .skip)))))
 (.seq (.region Oj)
 (.cond (.t 86)
 (.region Of)
 (.seq (.region NS)
 (.cond (.t 95)
 (.region Kc)
 (.seq (.region Og)
 .ret))))))))))))))
 (.seq (.seq (.region OH)
 (.cond (.t 136)
 (.seq (.region Oa)
 .ret)
 .skip))
 (.seq (.seq (.region Oy)
 (.block 1 (.loop Om)))
 (.seq (.region Ov)
 .ret)))))))
theorem An7 : Fn PR G2 149 S9 [.tmp 2] := ⟨fun vs w => Try.call62 vs w, Try.f62, _, Try.func62, rfl, rfl, by kernel_rfl, by kernel_rfl⟩
def Pt : List XI := [J 2 (.box (.t 0)), J 3 (.box (.t 1))]
def PM : List XI := [J 9 (.fieldAddr 0 (.t 3)), J 10 (.load false 1 (.t 9)), J 11 (.call T9 [(.t 10)]), J 8 (.move (.t 11)), J 12 (.extract (.t 8) 0), J 13 (.extract (.t 8) 1), J 4 (.move (.t 12)), J 5 (.move (.t 13))]
def Pu : List XI := [J 14 (.move (.t 5))]
def Px : List XI := [J 15 (.fieldAddr 0 (.t 2)), J 16 (.load false 1 (.t 15)), J 17 (.fieldAddr 4 (.t 3)), J 18 (.load false 1 (.t 17)), { dst := none, op := .mapSet AD AV (.t 16) (.t 18) (.c (.d (.bool true))) }]
def Pz : List XI := [J 19 (.fieldAddr 5 (.t 3)), J 20 (.load false 1 (.t 19)), J 21 (.lenR (.t 20)), J 22 (.move (.c (.d (.int .i64 0))))]
def Ql : List XI := [J 23 (.bin .lss (.t 22) (.t 21))]
def PE : List XI := [J 24 (.indexAddr 6 (.t 20) (.t 22)), J 25 (.load true 6 (.t 24)), J 7 (.alloc [(.d (.int .i64 0)), (.d (.int .i64 0)), (.d (.str ⟨#[]⟩)), (.d (.str ⟨#[]⟩)), (.d (.str ⟨#[]⟩)), (.ex [])]), { dst := none, op := .store 6 (.t 7) (.t 25) }]
def PS : List XI := [J 26 (.load true 3 (.t 2)), J 27 (.load true 6 (.t 7)), J 28 (.call Ha [(.t 26), (.t 27)])]
def Py : List XI := [J 29 (.bin .add (.t 22) (.c (.d (.int .i64 1)))), J 22 (.move (.t 29))]
def Qg : XC :=
 (.seq (.region Ql)
 (.seq (.cond (.t 23)
 .skip
 (.exit 0))
 (.seq (.block 1 (.seq (.region PE)
 (.region PS)))
 (.region Py))))
def VE : XC :=
 (.seq (.region Pt)
 (.seq (.seq (.region PM)
 (.seq (.region Pu)
 (.cond (.t 14)
 (.region Px)
 .skip)))
 (.seq (.region Pz)
 (.block 0 (.loop Qg)))))
theorem Ap7 : Fn PR Ha 30 VE [] := ⟨fun vs w => Try.call66 vs w, Try.f66, _, Try.func66, rfl, rfl, by kernel_rfl, by kernel_rfl⟩
def Fi : List XI := [J 2 (.move (.c (.ex [])))]
def Fm : List XI := [J 3 (.move (.t 0)), J 4 (.eqNil false (.t 3))]
def Fg : List XI := [J 2 (.move (.c (.ex [])))]
def Fj : List XI := [J 5 (.buildSlice 8 []), J 6 (.move (.t 0)), J 7 (.append AU 8 144 (.t 5) (.t 6)), J 2 (.move (.t 7))]
def F6 : XC :=
 (.seq (.region Fi)
 (.seq (.seq (.region Fm)
 (.cond (.t 4)
 (.seq (.region Fg)
 .ret)
 .skip))
 (.seq (.region Fj)
 .ret)))
theorem Jh : Fn PR DO 8 F6 [.tmp 2] := ⟨fun vs w => Try.call67 vs w, Try.f67, _, Try.func67, rfl, rfl, by kernel_rfl, by kernel_rfl⟩
def Er : List XI := [J 4 (.move (.c (.d (.int .i64 0))))]
def Eo : List XI := [J 6 (.move (.t 0)), J 7 (.lenR (.t 6)), J 8 (.move (.c (.d (.int .i64 0))))]
def Ep : List XI := [J 9 (.bin .lss (.t 8) (.t 7))]
def EB : List XI := [J 10 (.move (.t 8)), J 5 (.move (.t 10))]
def Ew : List XI := [J 11 (.move (.t 1)), J 12 (.move (.t 0)), J 13 (.move (.t 5)), J 14 (.indexAddr 8 (.t 12) (.t 13)), J 15 (.load true 8 (.t 14)), J 16 (.dyn (.t 11) [(.t 15)])]
def EG : List XI := [J 17 (.move (.t 5)), J 4 (.move (.t 17))]
def EE : List XI := [J 18 (.bin .add (.t 8) (.c (.d (.int .i64 1)))), J 8 (.move (.t 18))]
def Eu : XC :=
 (.seq (.region Ep)
 (.seq (.cond (.t 9)
 .skip
 (.exit 0))
 (.seq (.block 1 (.seq (.region EB)
 (.seq (.region Ew)
 (.cond (.t 16)
 (.seq (.region EG)
 .ret)
 .skip))))
 (.region EE))))
def Es : List XI := [J 4 (.move (.c (.d (.int .i64 (-1)))))]
def EW : XC :=
 (.seq (.region Er)
 (.seq (.seq (.region Eo)
 (.block 0 (.loop Eu)))
 (.seq (.region Es)
 .ret)))
theorem Ip : Fn PR Df 19 EW [.tmp 4] := ⟨fun vs w => Try.call70 vs w, Try.f70, _, Try.func70, rfl, rfl, by kernel_rfl, by kernel_rfl⟩
def W8 : List XI := [J 1 (.box (.t 0)), J 2 (.move (.c (.d (.bool false))))]
def WD : List XI := [J 3 (.move (.c (.d (.bool false)))), J 4 (.move (.c (.d (.bool false)))), J 5 (.move (.c (.d (.bool false)))), J 6 (.move (.c (.d (.bool false)))), J 7 (.move (.c (.d (.bool false))))]
def W7 : List XI := [J 8 (.move (.c (.d (.int .i64 1)))), J 9 (.move (.c (.d (.int .i64 1))))]
def X0 : List XI := [J 10 (.move (.c (.d (.bool true))))]
def WN : List XI := [J 11 (.fieldAddr 0 (.t 1)), J 12 (.load false 1 (.t 11))]
def XY : List XI := [J 14 (.bin .eql (.t 12) (.c (.d (.int .i64 1)))), J 13 (.move (.t 14))]
def XG : List XI := [J 15 (.bin .eql (.t 12) (.c (.d (.int .i64 2)))), J 13 (.move (.t 15))]
def XU : List XI := [J 3 (.move (.c (.d (.bool true)))), J 10 (.move (.c (.d (.bool false))))]
def Xj : List XI := [J 17 (.bin .eql (.t 12) (.c (.d (.int .i64 3)))), J 16 (.move (.t 17))]
def Xt : List XI := [J 18 (.bin .eql (.t 12) (.c (.d (.int .i64 8)))), J 16 (.move (.t 18))]
def Ti : List XI := [J 9 (.move (.c (.d (.int .i64 8))))]
def VD : List XI := [J 20 (.bin .eql (.t 12) (.c (.d (.int .i64 4)))), J 19 (.move (.t 20))]
def Un : List XI := [J 3 (.move (.c (.d (.bool true)))), J 4 (.move (.c (.d (.bool true))))]
def U4 : List XI := [J 21 (.fieldAddr 4 (.t 1)), J 22 (.load false 1 (.t 21)), J 23 (.lenR (.t 22)), J 24 (.bin .add (.t 23) (.c (.d (.int .i64 1)))), J 25 (.fieldAddr 4 (.t 1)), J 26 (.load false 1 (.t 25)), J 27 (.lenR (.t 26)), J 28 (.bin .add (.t 27) (.c (.d (.int .i64 1)))), J 8 (.move (.t 24)), J 9 (.move (.t 28))]
def U5 : List XI := [J 30 (.bin .eql (.t 12) (.c (.d (.int .i64 5)))), J 29 (.move (.t 30))]
def VU : List XI := [J 3 (.move (.c (.d (.bool true))))]
def TI : List XI := [J 32 (.bin .eql (.t 12) (.c (.d (.int .i64 6)))), J 31 (.move (.t 32))]
def Vf : List XI := [J 3 (.move (.c (.d (.bool true)))), J 5 (.move (.c (.d (.bool true)))), J 6 (.move (.c (.d (.bool true))))]
def VM : List XI := [J 34 (.bin .eql (.t 12) (.c (.d (.int .i64 7)))), J 33 (.move (.t 34))]
def S8 : List XI := [J 6 (.move (.c (.d (.bool true)))), J 7 (.move (.c (.d (.bool true)))), J 10 (.move (.c (.d (.bool false))))]
def Uf : List XI := [J 36 (.bin .eql (.t 12) (.c (.d (.int .i64 9)))), J 35 (.move (.t 36))]
def TZ : List XI := [J 10 (.move (.c (.d (.bool false))))]
def Ta : List XI := [J 38 (.bin .eql (.t 12) (.c (.d (.int .i64 10)))), J 37 (.move (.t 38))]
def Tj : List XI := [J 9 (.move (.c (.d (.int .i64 8)))), J 10 (.move (.c (.d (.bool false))))]
def TY : List XI := [J 2 (.move (.c (.d (.bool false))))]
def Rb : List XI := [J 39 (.move (.t 3)), J 40 (.fieldAddr 1 (.t 1)), J 41 (.load false 1 (.t 40)), J 42 (.call Ap2 [(.t 39), (.t 41)]), J 43 (.call JK [(.t 42)]), J 44 (.move (.t 43)), Jt 45 44 (.move (.t 10)), Jt 46 44 (.fieldAddr 2 (.t 1)), Jt 47 44 (.load false 1 (.t 46)), Jt 48 44 (.call Ap2 [(.t 45), (.t 47)]), Jt 49 44 (.call JK [(.t 48)]), J 50 (.pick (.t 44) (.t 49) (.c (.d (.bool false))))]
def Rr : List XI := [J 51 (.move (.t 50)), Jt 52 51 (.move (.t 3)), Jt 53 51 (.move (.t 52)), Jf 54 53 (.fieldAddr 1 (.t 1)), Jf 55 53 (.load false 1 (.t 54)), Jf 56 53 (.bin .eql (.t 55) (.c (.d (.str ⟨#[]⟩)))), Jt 57 51 (.pick (.t 53) (.c (.d (.bool true))) (.t 56)), J 58 (.pick (.t 51) (.t 57) (.c (.d (.bool false))))]
def QH : List XI := [J 59 (.move (.t 58)), Jt 60 59 (.move (.t 10)), Jt 61 59 (.move (.t 60)), Jf 62 61 (.fieldAddr 2 (.t 1)), Jf 63 61 (.load false 1 (.t 62)), Jf 64 61 (.bin .eql (.t 63) (.c (.d (.str ⟨#[]⟩)))), Jt 65 59 (.pick (.t 61) (.c (.d (.bool true))) (.t 64)), J 66 (.pick (.t 59) (.t 65) (.c (.d (.bool false))))]
def Ri : List XI := [J 67 (.move (.t 66)), Jt 68 67 (.move (.t 4)), Jt 69 67 (.move (.t 68)), Jt 70 69 (.fieldAddr 4 (.t 1)), Jt 71 69 (.load false 1 (.t 70)), Jt 72 69 (.lenR (.t 71)), Jt 73 69 (.call Kn [(.t 72), (.c (.d (.int .i64 1))), (.c (.d (.int .i64 8)))]), Jt 74 67 (.pick (.t 69) (.t 73) (.c (.d (.bool false)))), Jt 75 67 (.move (.t 74)), Jt 76 75 (.fieldAddr 4 (.t 1)), Jt 77 75 (.load false 1 (.t 76)), Jt 78 75 (.call JK [(.t 77)]), Jt 79 67 (.pick (.t 75) (.t 78) (.c (.d (.bool false)))), Jt 80 67 (.move (.t 79)), Jt 81 80 (.fieldAddr 4 (.t 1)), Jt 82 80 (.load false 1 (.t 81)), Jt 83 80 (.call Ln [(.t 82)]), Jt 84 67 (.pick (.t 80) (.t 83) (.c (.d (.bool false)))), Jt 85 67 (.move (.t 84)), Jf 86 85 (.move (.t 4)), Jf 87 85 (.not (.t 86)), Jf 88 85 (.move (.t 87)), Jt 89 88 (.fieldAddr 4 (.t 1)), Jt 90 88 (.load false 1 (.t 89)), Jt 91 88 (.lenR (.t 90)), Jt 92 88 (.bin .eql (.t 91) (.c (.d (.int .i64 0)))), Jf 93 85 (.pick (.t 88) (.t 92) (.c (.d (.bool false)))), Jt 94 67 (.pick (.t 85) (.c (.d (.bool true))) (.t 93)), J 95 (.pick (.t 67) (.t 94) (.c (.d (.bool false))))]
def Rc : List XI := [J 96 (.move (.t 95)), Jt 97 96 (.move (.t 5)), Jt 98 96 (.move (.t 97)), Jt 99 98 (.fieldAddr 3 (.t 1)), Jt 100 98 (.load false 1 (.t 99)), Jt 101 98 (.call Kn [(.t 100), (.c (.d (.int .i64 0))), (.c (.d (.int .i64 1000)))]), Jt 102 96 (.pick (.t 98) (.t 101) (.c (.d (.bool false)))), Jt 103 96 (.move (.t 102)), Jf 104 103 (.move (.t 5)), Jf 105 103 (.not (.t 104)), Jf 106 103 (.move (.t 105)), Jt 107 106 (.fieldAddr 3 (.t 1)), Jt 108 106 (.load false 1 (.t 107)), Jt 109 106 (.bin .eql (.t 108) (.c (.d (.int .i64 0)))), Jf 110 103 (.pick (.t 106) (.t 109) (.c (.d (.bool false)))), Jt 111 96 (.pick (.t 103) (.c (.d (.bool true))) (.t 110)), J 112 (.pick (.t 96) (.t 111) (.c (.d (.bool false))))]
def Q9 : List XI := [J 113 (.move (.t 112)), Jt 114 113 (.fieldAddr 5 (.t 1)), Jt 115 113 (.load false 1 (.t 114)), Jt 116 113 (.lenR (.t 115)), Jt 117 113 (.move (.t 8)), Jt 118 113 (.move (.t 9)), Jt 119 113 (.call Kn [(.t 116), (.t 117), (.t 118)]), J 120 (.pick (.t 113) (.t 119) (.c (.d (.bool false))))]
def Rq : List XI := [J 121 (.move (.t 120)), Jt 122 121 (.move (.t 6)), Jt 123 121 (.move (.t 122)), Jf 124 123 (.fieldAddr 6 (.t 1)), Jf 125 123 (.load false 1 (.t 124)), Jf 126 123 (.lenR (.t 125)), Jf 127 123 (.bin .eql (.t 126) (.c (.d (.int .i64 0)))), Jt 128 121 (.pick (.t 123) (.c (.d (.bool true))) (.t 127)), J 129 (.pick (.t 121) (.t 128) (.c (.d (.bool false))))]
def QJ : List XI := [J 130 (.move (.t 129)), Jt 131 130 (.move (.t 7)), Jt 132 130 (.move (.t 131)), Jf 133 132 (.fieldAddr 7 (.t 1)), Jf 134 132 (.load false 1 (.t 133)), Jf 135 132 (.lenR (.t 134)), Jf 136 132 (.bin .eql (.t 135) (.c (.d (.int .i64 0)))), Jt 137 130 (.pick (.t 132) (.c (.d (.bool true))) (.t 136)), J 138 (.pick (.t 130) (.t 137) (.c (.d (.bool false))))]
def Jy : List XI := [J 2 (.move (.t 138))]
def UE : List XI := Rb ++ (Rr ++ (QH ++ (Ri ++ (Rc ++ (Q9 ++ (Rq ++ (QJ ++ (Jy))))))))
def At1 : XC :=
 (.seq (.region W8)
 (.seq (.region WD)
 (.seq (.region W7)
 (.seq (.region X0)
 (.seq (.seq (.region WN)
 (.block 0 (.seq (.seq (.region XY)
 (.cond (.t 13)
 .skip
 (.region XG)))
 (.cond (.t 13)
 (.region XU)
 (.seq (.seq (.region Xj)
 (.cond (.t 16)
 .skip
 (.region Xt)))
 (.cond (.t 16)
 (.region Ti)
 (.seq (.region VD)
 (.cond (.t 19)
 (.seq (.region Un)
 (.regionS U4 0))
 (.seq (.region U5)
 (.cond (.t 29)
 (.region VU)
 (.seq (.region TI)
 (.cond (.t 31)
 (.region Vf)
 (.seq (.region VM)
 (.cond (.t 33)
 (.region S8)
 (.seq (.region Uf)
 (.cond (.t 35)
 (.region TZ)
 (.seq (.region Ta)
 (.cond (.t 37)
 (.region Tj)
 (.seq (.region TY)
 .ret)))))))))))))))))))
 (.seq (.region UE)
 .ret))))))
theorem AK7 : Fn PR YI 139 At1 [.tmp 2] := ⟨fun vs w => Try.call71 vs w, Try.f71, _, Try.func71, rfl, rfl, by kernel_rfl, by kernel_rfl⟩
def DC : List XI := [J 4 (.move (.c (.d (.bool false))))]
def DE : List XI := [J 5 (.move (.t 0)), J 6 (.move (.t 1)), J 7 (.call De [(.t 5), (.t 6)]), J 8 (.bin .geq (.t 7) (.c (.d (.int .i64 0)))), J 4 (.move (.t 8))]
def Ey : XC :=
 (.seq (.region DC)
 (.seq (.region DE)
 .ret))
theorem Hz : Fn PR B4 9 Ey [.tmp 4] := ⟨fun vs w => Try.call72 vs w, Try.f72, _, Try.func72, rfl, rfl, by kernel_rfl, by kernel_rfl⟩
def R7 : List XI := [J 1 (.box (.t 0)), J 2 (.move (.c (.d (.bool false))))]
def R8 : List XI := [J 3 (.load true 6 (.t 1)), J 4 (.call Gb [(.t 3)]), J 5 (.not (.t 4)), J 2 (.move (.t 5))]
def ZB : XC :=
 (.seq (.region R7)
 (.seq (.region R8)
 .ret))
theorem AA9 : Fn PR SV 6 ZB [.tmp 2] := ⟨fun vs w => Try.call73 vs w, Try.f73, _, Try.func73, rfl, rfl, by kernel_rfl, by kernel_rfl⟩
def Pw : List XI := [J 1 (.box (.t 0)), J 2 (.move (.c (.d (.bool false))))]
def PA : List XI := [J 6 (.fieldAddr 0 (.t 1)), J 7 (.load false 1 (.t 6)), J 8 (.call T9 [(.t 7)]), J 5 (.move (.t 8)), J 9 (.extract (.t 5) 0), J 10 (.extract (.t 5) 1), J 3 (.move (.t 9)), J 4 (.move (.t 10))]
def No : List XI := [J 11 (.move (.t 3)), J 12 (.fieldAddr 5 (.t 1)), J 13 (.load false 1 (.t 12)), J 14 (.lenR (.t 13)), J 15 (.bin .eql (.t 11) (.t 14)), J 16 (.move (.t 15)), Jt 17 16 (.load true 6 (.t 1)), Jt 18 16 (.call Wn [(.t 17)]), J 19 (.pick (.t 16) (.t 18) (.c (.d (.bool false))))]
def Mz : List XI := [J 20 (.move (.t 19)), Jt 21 20 (.fieldAddr 5 (.t 1)), Jt 22 20 (.load false 1 (.t 21)), Jt 23 20 (.call B4 [(.t 22), (.c (.fn Gz [] []))]), Jt 24 20 (.not (.t 23)), J 25 (.pick (.t 20) (.t 24) (.c (.d (.bool false))))]
def JE : List XI := [J 2 (.move (.t 25))]
def Qj : List XI := No ++ (Mz ++ (JE))
def TR : XC :=
 (.seq (.region Pw)
 (.seq (.region PA)
 (.seq (.region Qj)
 .ret)))
theorem Ap9 : Fn PR Gb 26 TR [.tmp 2] := ⟨fun vs w => Try.call74 vs w, Try.f74, _, Try.func74, rfl, rfl, by kernel_rfl, by kernel_rfl⟩
def Ab0 : List XI := [J 2 (.move (.c (.d (.int .i64 0)))), J 3 (.move (.c (.d (.bool false))))]
def Te : List XI := [J 5 (.move (.t 0)), J 6 (.bin .geq (.t 5) (.c (.d (.int .i64 1)))), J 7 (.move (.t 6)), Jt 8 7 (.move (.t 0)), Jt 9 7 (.bin .leq (.t 8) (.c (.d (.int .i64 5)))), J 10 (.pick (.t 7) (.t 9) (.c (.d (.bool false))))]
def Pg : List XI := [J 4 (.move (.t 10))]
def Zy : List XI := Te ++ (Pg)
def ZR : List XI := [J 2 (.move (.c (.d (.int .i64 0)))), J 3 (.move (.c (.d (.bool false))))]
def VH : List XI := [J 12 (.move (.t 0)), J 13 (.bin .geq (.t 12) (.c (.d (.int .i64 6)))), J 14 (.move (.t 13)), Jt 15 14 (.move (.t 0)), Jt 16 14 (.bin .leq (.t 15) (.c (.d (.int .i64 18)))), J 17 (.pick (.t 14) (.t 16) (.c (.d (.bool false))))]
def Pd : List XI := [J 11 (.move (.t 17))]
def Z9 : List XI := VH ++ (Pd)
def Zv : List XI := [J 2 (.move (.c (.d (.int .i64 2)))), J 3 (.move (.c (.d (.bool false))))]
def TF : List XI := [J 19 (.move (.t 0)), J 20 (.bin .eql (.t 19) (.c (.d (.int .i64 19)))), J 21 (.move (.t 20)), Jf 22 21 (.move (.t 0)), Jf 23 21 (.bin .eql (.t 22) (.c (.d (.int .i64 20)))), J 24 (.pick (.t 21) (.c (.d (.bool true))) (.t 23))]
def O9 : List XI := [J 18 (.move (.t 24))]
def Ab5 : List XI := TF ++ (O9)
def ZN : List XI := [J 2 (.move (.c (.d (.int .i64 1)))), J 3 (.move (.c (.d (.bool false))))]
def Zm : List XI := [J 26 (.move (.t 0)), J 27 (.bin .eql (.t 26) (.c (.d (.int .i64 21)))), J 25 (.move (.t 27))]
def ZD : List XI := [J 2 (.move (.c (.d (.int .i64 1)))), J 3 (.move (.c (.d (.bool true))))]
def Vr : List XI := [J 29 (.move (.t 0)), J 30 (.bin .geq (.t 29) (.c (.d (.int .i64 22)))), J 31 (.move (.t 30)), Jt 32 31 (.move (.t 0)), Jt 33 31 (.bin .leq (.t 32) (.c (.d (.int .i64 24)))), J 34 (.pick (.t 31) (.t 33) (.c (.d (.bool false))))]
def OZ : List XI := [J 28 (.move (.t 34))]
def YS : List XI := Vr ++ (OZ)
def WS : List XI := [J 2 (.move (.c (.d (.int .i64 2)))), J 3 (.move (.c (.d (.bool true))))]
def Ru : List XI := [J 2 (.move (.c (.d (.int .i64 (-1))))), J 3 (.move (.c (.d (.bool false))))]
def AF0 : XC :=
 (.seq (.region Ab0)
 (.seq (.block 0 (.seq (.region Zy)
 (.cond (.t 4)
 (.seq (.region ZR)
 .ret)
 (.seq (.region Z9)
 (.cond (.t 11)
 (.seq (.region Zv)
 .ret)
 (.seq (.region Ab5)
 (.cond (.t 18)
 (.seq (.region ZN)
 .ret)
 (.seq (.region Zm)
 (.cond (.t 25)
 (.seq (.region ZD)
 .ret)
 (.seq (.region YS)
 (.cond (.t 28)
 (.seq (.region WS)
 .ret)
 .skip)))))))))))
 (.seq (.region Ru)
 .ret)))
theorem AT8 : Fn PR T9 35 AF0 [.tmp 2, .tmp 3] := ⟨fun vs w => Try.call86 vs w, Try.f86, _, Try.func86, rfl, rfl, by kernel_rfl, by kernel_rfl⟩
def Ai6 : List XI := [J 4 (.move (.c (.ex [])))]
def Ak6 : List XI := [J 5 (.move (.t 0)), J 6 (.not (.t 5))]
def Ak9 : List XI := [J 4 (.move (.c (.ex [])))]
def Al0 : List XI := [J 7 (.move (.t 1)), J 8 (.buildSlice 1 [(.t 7)]), J 4 (.move (.t 8))]
def AM6 : XC :=
 (.seq (.region Ai6)
 (.seq (.seq (.region Ak6)
 (.cond (.t 6)
 (.seq (.region Ak9)
 .ret)
 .skip))
 (.seq (.region Al0)
 .ret)))
theorem AX7 : Fn PR Ap2 9 AM6 [.tmp 4] := ⟨fun vs w => Try.call88 vs w, Try.f88, _, Try.func88, rfl, rfl, by kernel_rfl, by kernel_rfl⟩
def ED : List XI := [J 4 (.move (.c (.d (.int .i64 0))))]
def EC : List XI := [J 6 (.move (.t 0)), J 7 (.lenR (.t 6)), J 8 (.move (.c (.d (.int .i64 0))))]
def EA : List XI := [J 9 (.bin .lss (.t 8) (.t 7))]
def El : List XI := [J 10 (.move (.t 8)), J 5 (.move (.t 10))]
def En : List XI := [J 11 (.move (.t 1)), J 12 (.move (.t 0)), J 13 (.move (.t 5)), J 14 (.indexAddr 6 (.t 12) (.t 13)), J 15 (.load true 6 (.t 14)), J 16 (.dyn (.t 11) [(.t 15)])]
def Em : List XI := [J 17 (.move (.t 5)), J 4 (.move (.t 17))]
def Ek : List XI := [J 18 (.bin .add (.t 8) (.c (.d (.int .i64 1)))), J 8 (.move (.t 18))]
def EF : XC :=
 (.seq (.region EA)
 (.seq (.cond (.t 9)
 .skip
 (.exit 0))
 (.seq (.block 1 (.seq (.region El)
 (.seq (.region En)
 (.cond (.t 16)
 (.seq (.region Em)
 .ret)
 .skip))))
 (.region Ek))))
def Ej : List XI := [J 4 (.move (.c (.d (.int .i64 (-1)))))]
def E0 : XC :=
 (.seq (.region ED)
 (.seq (.seq (.region EC)
 (.block 0 (.loop EF)))
 (.seq (.region Ej)
 .ret)))
theorem Ik : Fn PR De 19 E0 [.tmp 4] := ⟨fun vs w => Try.call89 vs w, Try.f89, _, Try.func89, rfl, rfl, by kernel_rfl, by kernel_rfl⟩
def Tr : List XI := [J 1 (.box (.t 0)), J 2 (.move (.c (.d (.bool false))))]
def UV : List XI := [J 8 (.fieldAddr 0 (.t 1)), J 9 (.load false 1 (.t 8)), J 10 (.call T9 [(.t 9)]), J 7 (.move (.t 10)), J 11 (.extract (.t 7) 0), J 12 (.extract (.t 7) 1), J 3 (.move (.t 11)), J 4 (.move (.t 12))]
def U0 : List XI := [J 5 (.move (.c (.d (.bool false))))]
def Vu : List XI := [J 6 (.alloc [(.d (.int .i64 0)), (.d (.int .i64 0)), (.d (.str ⟨#[]⟩)), (.d (.str ⟨#[]⟩)), (.d (.str ⟨#[]⟩)), (.ex [])])]
def TD : List XI := [J 14 (.fieldAddr 0 (.t 1)), J 15 (.load false 1 (.t 14)), J 16 (.bin .eql (.t 15) (.c (.d (.int .i64 1)))), J 13 (.move (.t 16))]
def V7 : List XI := [J 17 (.fieldAddr 1 (.t 1)), J 18 (.load false 1 (.t 17)), J 19 (.bin .geq (.t 18) (.c (.d (.int .i64 0)))), J 20 (.fieldAddr 1 (.t 1)), J 21 (.load false 1 (.t 20)), J 5 (.move (.t 19)), J 22 (.fieldAddr 1 (.t 6)), { dst := none, op := .store 1 (.t 22) (.t 21) }]
def UK : List XI := [J 24 (.fieldAddr 0 (.t 1)), J 25 (.load false 1 (.t 24)), J 26 (.bin .eql (.t 25) (.c (.d (.int .i64 2)))), J 23 (.move (.t 26))]
def U3 : List XI := [J 27 (.fieldAddr 2 (.t 1)), J 28 (.load false 1 (.t 27)), J 29 (.lenS (.t 28)), J 30 (.bin .leq (.t 29) (.c (.d (.int .i64 200)))), J 31 (.fieldAddr 2 (.t 1)), J 32 (.load false 1 (.t 31)), J 5 (.move (.t 30)), J 33 (.fieldAddr 2 (.t 6)), { dst := none, op := .store 1 (.t 33) (.t 32) }]
def Vm : List XI := [J 35 (.fieldAddr 0 (.t 1)), J 36 (.load false 1 (.t 35)), J 37 (.bin .eql (.t 36) (.c (.d (.int .i64 3)))), J 34 (.move (.t 37))]
def TO : List XI := [J 38 (.fieldAddr 1 (.t 1)), J 39 (.load false 1 (.t 38)), J 40 (.bin .shr (.t 39) (.c (.d (.int .u64 1)))), J 41 (.bin .eql (.t 40) (.c (.d (.int .i64 0)))), J 42 (.fieldAddr 1 (.t 1)), J 43 (.load false 1 (.t 42)), J 5 (.move (.t 41)), J 44 (.fieldAddr 1 (.t 6)), { dst := none, op := .store 1 (.t 44) (.t 43) }]
def SI : List XI := [J 46 (.fieldAddr 0 (.t 1)), J 47 (.load false 1 (.t 46)), J 48 (.bin .eql (.t 47) (.c (.d (.int .i64 4)))), J 45 (.move (.t 48))]
def Sl : List XI := [J 49 (.fieldAddr 3 (.t 1)), J 50 (.load false 1 (.t 49)), J 51 (.buildSlice 1 [(.t 50)]), J 52 (.call JK [(.t 51)]), J 53 (.fieldAddr 3 (.t 1)), J 54 (.load false 1 (.t 53)), J 5 (.move (.t 52)), J 55 (.fieldAddr 3 (.t 6)), { dst := none, op := .store 1 (.t 55) (.t 54) }]
def Ss : List XI := [J 57 (.fieldAddr 0 (.t 1)), J 58 (.load false 1 (.t 57)), J 59 (.bin .eql (.t 58) (.c (.d (.int .i64 5)))), J 56 (.move (.t 59))]
def Sk : List XI := [J 60 (.fieldAddr 3 (.t 1)), J 61 (.load false 1 (.t 60)), J 62 (.fieldAddr 2 (.t 1)), J 63 (.load false 1 (.t 62)), J 64 (.buildSlice 1 [(.t 61), (.t 63)]), J 65 (.call JK [(.t 64)]), J 66 (.fieldAddr 3 (.t 1)), J 67 (.load false 1 (.t 66)), J 68 (.fieldAddr 2 (.t 1)), J 69 (.load false 1 (.t 68)), J 5 (.move (.t 65)), J 70 (.fieldAddr 3 (.t 6)), { dst := none, op := .store 1 (.t 70) (.t 67) }, J 71 (.fieldAddr 2 (.t 6)), { dst := none, op := .store 1 (.t 71) (.t 69) }]
def Sd : List XI := [J 73 (.move (.t 4)), J 72 (.move (.t 73))]
def R6 : List XI := [J 74 (.fieldAddr 3 (.t 1)), J 75 (.load false 1 (.t 74)), J 76 (.fieldAddr 4 (.t 1)), J 77 (.load false 1 (.t 76)), J 78 (.buildSlice 1 [(.t 75), (.t 77)]), J 79 (.call JK [(.t 78)]), J 80 (.fieldAddr 3 (.t 1)), J 81 (.load false 1 (.t 80)), J 82 (.fieldAddr 4 (.t 1)), J 83 (.load false 1 (.t 82)), J 5 (.move (.t 79)), J 84 (.fieldAddr 3 (.t 6)), { dst := none, op := .store 1 (.t 84) (.t 81) }, J 85 (.fieldAddr 4 (.t 6)), { dst := none, op := .store 1 (.t 85) (.t 83) }]
def SE : List XI := [J 5 (.move (.c (.d (.bool true))))]
def DX : List XI := [J 86 (.move (.t 5)), J 87 (.move (.t 86)), Jt 88 87 (.fieldAddr 1 (.t 6)), Jt 89 87 (.load false 1 (.t 88)), Jt 90 87 (.fieldAddr 1 (.t 1)), Jt 91 87 (.load false 1 (.t 90)), Jt 92 87 (.bin .eql (.t 89) (.t 91)), J 93 (.pick (.t 87) (.t 92) (.c (.d (.bool false))))]
def Eb : List XI := [J 94 (.move (.t 93)), Jt 95 94 (.fieldAddr 2 (.t 6)), Jt 96 94 (.load false 1 (.t 95)), Jt 97 94 (.fieldAddr 2 (.t 1)), Jt 98 94 (.load false 1 (.t 97)), Jt 99 94 (.bin .eql (.t 96) (.t 98)), J 100 (.pick (.t 94) (.t 99) (.c (.d (.bool false))))]
def Ea : List XI := [J 101 (.move (.t 100)), Jt 102 101 (.fieldAddr 3 (.t 6)), Jt 103 101 (.load false 1 (.t 102)), Jt 104 101 (.fieldAddr 3 (.t 1)), Jt 105 101 (.load false 1 (.t 104)), Jt 106 101 (.bin .eql (.t 103) (.t 105)), J 107 (.pick (.t 101) (.t 106) (.c (.d (.bool false))))]
def DW : List XI := [J 108 (.move (.t 107)), Jt 109 108 (.fieldAddr 4 (.t 6)), Jt 110 108 (.load false 1 (.t 109)), Jt 111 108 (.fieldAddr 4 (.t 1)), Jt 112 108 (.load false 1 (.t 111)), Jt 113 108 (.bin .eql (.t 110) (.t 112)), J 114 (.pick (.t 108) (.t 113) (.c (.d (.bool false))))]
def BN : List XI := [J 2 (.move (.t 114))]
def Fc : List XI := DX ++ (Eb ++ (Ea ++ (DW ++ (BN))))
def Aj4 : XC :=
 (.seq (.region Tr)
 (.seq (.region UV)
 (.seq (.region U0)
 (.seq (.region Vu)
 (.seq (.block 0 (.seq (.region TD)
 (.cond (.t 13)
 (.regionS V7 0)
 (.seq (.region UK)
 (.cond (.t 23)
 (.regionS U3 0)
 (.seq (.region Vm)
 (.cond (.t 34)
 (.regionS TO 0)
 (.seq (.region SI)
 (.cond (.t 45)
 (.regionD Sl [[], [0], [1, 0], [2, 1, 0], [], [4], [3, 2, 1, 0], [0, 1, 2, 3, 4, 5, 6], [7, 0, 1, 2, 3, 4, 5, 6]] 1)
 (.seq (.region Ss)
 (.cond (.t 56)
 (.regionD Sk [[], [0], [], [2], [1, 0, 3, 2], [4, 1, 0, 3, 2], [], [6], [], [8], [5, 4, 1, 0, 3, 2], [0, 1, 2, 3, 4, 5, 6, 7, 10], [11, 0, 1, 2, 3, 4, 5, 6, 7, 10], [0, 1, 2, 3, 4, 5, 6, 7, 8, 9, 10, 11, 12], [13, 0, 1, 2, 3, 4, 5, 6, 7, 8, 9, 10, 11, 12]] 1)
 (.seq (.region Sd)
 (.cond (.t 72)
 (.regionD R6 [[], [0], [], [2], [1, 0, 3, 2], [4, 1, 0, 3, 2], [], [6], [], [8], [5, 4, 1, 0, 3, 2], [0, 1, 2, 3, 4, 5, 6, 7, 10], [11, 0, 1, 2, 3, 4, 5, 6, 7, 10], [0, 1, 2, 3, 4, 5, 6, 7, 8, 9, 10, 11, 12], [13, 0, 1, 2, 3, 4, 5, 6, 7, 8, 9, 10, 11, 12]] 1)
 (.region SE))))))))))))))
 (.seq (.region Fc)
 .ret))))))
theorem AI1 : Fn PR Wn 115 Aj4 [.tmp 2] := ⟨fun vs w => Try.call90 vs w, Try.f90, _, Try.func90, rfl, rfl, by kernel_rfl, by kernel_rfl⟩
def Nq : List XI := [J 1 (.box (.t 0)), J 2 (.move (.c (.d (.bool false))))]
def Ns : List XI := [J 3 (.load true 6 (.t 1)), J 4 (.call Gb [(.t 3)]), J 5 (.not (.t 4)), J 2 (.move (.t 5))]
def RE : XC :=
 (.seq (.region Nq)
 (.seq (.region Ns)
 .ret))
theorem ZC : Fn PR Gz 6 RE [.tmp 2] := ⟨fun vs w => Try.call91 vs w, Try.f91, _, Try.func91, rfl, rfl, by kernel_rfl, by kernel_rfl⟩
end Go.Ax
