/- A part of the proof (part 4): see the last text. -/
import Derived.Test.YtbjhdakiiedmcaaGreatDoorRb3
import Derived.Test.YtbjhdakiiedmcaaGreatDoorRb2
import Derived.KernelRfl
import Derived.LaidLaws
import Derived.LaidHandle
import Derived.Lib.LaidU8
import Derived.Deep.DeepLaidRun
import Derived.Handed
import Derived.JoinedOf
import Derived.SevenTiedAt
import Derived.ProofKit
import Derived.Lib.Space
import Derived.ChangeArms
import Derived.SizedLaws
set_option linter.unusedVariables false
set_option linter.unusedSimpArgs false
namespace Go.Proofs.YtbjhdakiiedmcaaGreatDoor.rb
open Rb
noncomputable section
def vm:List (Nat×List AV×AV):=[
  (67,[.str [118,97,114,32,116,104,114,101,97,100,32,115,116,114,117,99,116,32,117,110,105,111,110,32,112,97,99,107,101,100,32,117,56,32,117,49,54,32,117,51,50,32,117,54,52,32,97,56,32,97,49,54,32,97,51,50,32,97,54,52,32,97,49,50,56,32,108,101,116,32,115,101,116,32,119,114,105,116,101,32,115,116,111,114,101,32,108,111,97,100,50,32,115,116,111,114,101,50,32,102,101,110,99,101,32,105,102,32,101,108,115,101,32,119,104,105,108,101,32,112,114,105,110,116,32,114,101,97,100,32,108,111,97,100,32,97,100,100,32,115,119,97,112,32,99,97,115,32,114,108,120,32,97,99,113,32,114,101,108,32,115,99]],.aq .dead 34 [.str [118,97,114],.str [116,104,114,101,97,100],.str [115,116,114,117,99,116],.str [117,110,105,111,110],.str [112,97,99,107,101,100],.str [117,56],.str [117,49,54],.str [117,51,50],.str [117,54,52],.str [97,56],.str [97,49,54],.str [97,51,50],.str [97,54,52],.str [97,49,50,56],.str [108,101,116],.str [115,101,116],.str [119,114,105,116,101],.str [115,116,111,114,101],.str [108,111,97,100,50],.str [115,116,111,114,101,50],.str [102,101,110,99,101],.str [105,102],.str [101,108,115,101],.str [119,104,105,108,101],.str [112,114,105,110,116],.str [114,101,97,100],.str [108,111,97,100],.str [97,100,100],.str [115,119,97,112],.str [99,97,115],.str [114,108,120],.str [97,99,113],.str [114,101,108],.str [115,99]]),
  (94,[.aq .dead 34 [.str [118,97,114],.str [116,104,114,101,97,100],.str [115,116,114,117,99,116],.str [117,110,105,111,110],.str [112,97,99,107,101,100],.str [117,56],.str [117,49,54],.str [117,51,50],.str [117,54,52],.str [97,56],.str [97,49,54],.str [97,51,50],.str [97,54,52],.str [97,49,50,56],.str [108,101,116],.str [115,101,116],.str [119,114,105,116,101],.str [115,116,111,114,101],.str [108,111,97,100,50],.str [115,116,111,114,101,50],.str [102,101,110,99,101],.str [105,102],.str [101,108,115,101],.str [119,104,105,108,101],.str [112,114,105,110,116],.str [114,101,97,100],.str [108,111,97,100],.str [97,100,100],.str [115,119,97,112],.str [99,97,115],.str [114,108,120],.str [97,99,113],.str [114,101,108],.str [115,99]],.str [97]],.int .i64 (.negSucc 0)),
  (120,[.agg [.int .i64 (.ofNat 2),.int .i64 (.ofNat 4),.bool false,.aq .dead 0 [],.int .i64 (.ofNat 0),.aq .dead 0 []]],.bool true),
  (94,[.aq .dead 34 [.str [118,97,114],.str [116,104,114,101,97,100],.str [115,116,114,117,99,116],.str [117,110,105,111,110],.str [112,97,99,107,101,100],.str [117,56],.str [117,49,54],.str [117,51,50],.str [117,54,52],.str [97,56],.str [97,49,54],.str [97,51,50],.str [97,54,52],.str [97,49,50,56],.str [108,101,116],.str [115,101,116],.str [119,114,105,116,101],.str [115,116,111,114,101],.str [108,111,97,100,50],.str [115,116,111,114,101,50],.str [102,101,110,99,101],.str [105,102],.str [101,108,115,101],.str [119,104,105,108,101],.str [112,114,105,110,116],.str [114,101,97,100],.str [108,111,97,100],.str [97,100,100],.str [115,119,97,112],.str [99,97,115],.str [114,108,120],.str [97,99,113],.str [114,101,108],.str [115,99]],.str [98]],.int .i64 (.negSucc 0)),
  (120,[.agg [.int .i64 (.ofNat 1),.int .i64 (.ofNat 4),.bool false,.aq .dead 0 [],.int .i64 (.ofNat 0),.aq .dead 0 []]],.bool true)]
def yC:List (Nat×List AV×AV):=[
  (75,[.agg [.int .i64 (.ofNat 2),.int .i64 (.ofNat 4),.bool false,.aq .dead 0 [],.int .i64 (.ofNat 0),.aq .dead 0 []]],.int .i64 (.ofNat 0)),
  (75,[.agg [.int .i64 (.ofNat 1),.int .i64 (.ofNat 4),.bool false,.aq .dead 0 [],.int .i64 (.ofNat 0),.aq .dead 0 []]],.int .i64 (.ofNat 0))]
def BR:List (Nat×List AV×AV):=[
  (29,[.agg [.int .i64 (.ofNat 2),.int .i64 (.ofNat 4),.bool false,.aq .dead 0 [],.int .i64 (.ofNat 0),.aq .dead 0 []]],.aM [.int .i64 (.ofNat 4),.int .i64 (.ofNat 4),.int .i64 (.ofNat 0)]),
  (29,[.agg [.int .i64 (.ofNat 1),.int .i64 (.ofNat 4),.bool false,.aq .dead 0 [],.int .i64 (.ofNat 0),.aq .dead 0 []]],.aM [.int .i64 (.ofNat 4),.int .i64 (.ofNat 4),.int .i64 (.ofNat 0)])]
def HW:List (Nat×List AV×AV):=[
  (26,[.aq .dead 2 [.str [97],.int .i64 (.ofNat 2),.int .i64 (.ofNat 4),.bool false,.aq .dead 0 [],.int .i64 (.ofNat 0),.aq .dead 0 [],.str [98],.int .i64 (.ofNat 1),.int .i64 (.ofNat 4),.bool false,.aq .dead 0 [],.int .i64 (.ofNat 0),.aq .dead 0 []]],.int .i64 (.ofNat 0))]
def Ui:List (Nat×List AV×AV):=[
  (10,[.agg [.aq .dead 2 [.str [97],.int .i64 (.ofNat 2),.int .i64 (.ofNat 4),.bool false,.aq .dead 0 [],.int .i64 (.ofNat 0),.aq .dead 0 [],.str [98],.int .i64 (.ofNat 1),.int .i64 (.ofNat 4),.bool false,.aq .dead 0 [],.int .i64 (.ofNat 0),.aq .dead 0 []],.aq .dead 1 [.aq .dead 1 [.int .i64 (.ofNat 3),.int .i64 (.ofNat 4),.str [],.str [],.int .i64 (.ofNat 0),.str [98],.aq .dead 0 [],.aq .dead 1 [.int .i64 (.ofNat 6),.int .u64 (.ofNat 0),.str [],.int .i64 (.ofNat 0),.int .i64 (.ofNat 1),.str [97],.aq .dead 0 [],.aq .dead 1 [.int .i64 (.ofNat 1),.int .u64 (.ofNat 1),.str [],.int .i64 (.ofNat 0),.int .i64 (.ofNat 0),.str [],.aq .dead 0 [],.aq .dead 0 []]],.aq .dead 0 [],.aq .dead 0 []]]]],.agg [.int .i64 (.ofNat 0),.int .i64 (.ofNat 0)])]
theorem als:forced (yY (CG []) vm)=true:=by kernel_rfl
theorem SG:qP (au C) (oE (vm++[])):=Bu A0 (Ee Tc) Tc (gy als)
theorem alu:forced (yY (CG (vm++[])) yC)=true:=by kernel_rfl
theorem aau:qP (au C) (oE (yC++(vm++[]))):=Bu A0 (Ee SG) SG (gy alu)
theorem alv:forced (yY (CG (yC++(vm++[]))) BR)=true:=by kernel_rfl
theorem aav:qP (au C) (oE (BR++(yC++(vm++[])))):=Bu A0 (Ee aau) aau (gy alv)
theorem alw:forced (yY (CG (BR++(yC++(vm++[])))) HW)=true:=by kernel_rfl
theorem aaw:qP (au C) (oE (HW++(BR++(yC++(vm++[]))))):=Bu A0 (Ee aav) aav (gy alw)
theorem alx:forced (yY (CG (HW++(BR++(yC++(vm++[]))))) Ui)=true:=by kernel_rfl
theorem amh:qP (au C) (oE (Ui++(HW++(BR++(yC++(vm++[])))))):=Bu A0 (Ee aaw) aaw (gy alx)
theorem akL:forced (yY (CG (Ui++(HW++(BR++(yC++(vm++[])))))) [(6,[],.bool true)])=true:=by kernel_rfl
theorem ajZ:qP (au C) (oE [(6,[],.bool true)]):=Bu A0 (Ee amh) Tc (N:=[(6,[],.bool true)]) (gy akL)
end
end Go.Proofs.YtbjhdakiiedmcaaGreatDoor.rb

namespace Rb.K
abbrev f3:Nat:=3
abbrev f4:Nat:=4
abbrev f5:Nat:=5
abbrev f6:Nat:=6
abbrev f7:Nat:=7
abbrev f8:Nat:=8
abbrev f9:Nat:=9
abbrev f10:Nat:=10
abbrev f11:Nat:=11
abbrev f12:Nat:=12
abbrev f13:Nat:=13
abbrev f14:Nat:=14
abbrev f15:Nat:=15
abbrev f16:Nat:=16
abbrev f17:Nat:=17
abbrev f18:Nat:=18
abbrev f19:Nat:=19
abbrev f20:Nat:=20
abbrev f21:Nat:=21
abbrev f22:Nat:=22
abbrev f23:Nat:=23
abbrev f24:Nat:=24
abbrev f25:Nat:=25
abbrev f26:Nat:=26
abbrev f27:Nat:=27
abbrev f28:Nat:=28
abbrev f29:Nat:=29
abbrev f30:Nat:=30
abbrev f31:Nat:=31
abbrev f32:Nat:=32
abbrev f33:Nat:=33
abbrev f34:Nat:=34
abbrev f35:Nat:=35
abbrev f36:Nat:=36
abbrev f37:Nat:=37
abbrev f38:Nat:=38
abbrev f39:Nat:=39
abbrev f40:Nat:=40
abbrev f41:Nat:=41
abbrev f42:Nat:=42
abbrev f43:Nat:=43
abbrev f44:Nat:=44
abbrev f45:Nat:=45
abbrev f46:Nat:=46
abbrev f47:Nat:=47
abbrev f48:Nat:=48
abbrev f49:Nat:=49
abbrev f50:Nat:=50
abbrev f51:Nat:=51
abbrev f52:Nat:=52
abbrev f53:Nat:=53
abbrev f54:Nat:=54
abbrev f55:Nat:=55
abbrev f56:Nat:=56
abbrev f57:Nat:=57
abbrev f58:Nat:=58
abbrev f59:Nat:=59
abbrev f60:Nat:=60
abbrev f61:Nat:=61
abbrev f62:Nat:=62
abbrev f63:Nat:=63
abbrev f64:Nat:=64
abbrev f65:Nat:=65
abbrev f66:Nat:=66
abbrev f67:Nat:=67
abbrev f68:Nat:=68
abbrev f69:Nat:=69
abbrev f70:Nat:=70
abbrev f71:Nat:=71
abbrev f72:Nat:=72
abbrev f73:Nat:=73
abbrev f74:Nat:=74
abbrev f75:Nat:=75
abbrev f76:Nat:=76
abbrev f77:Nat:=77
abbrev f78:Nat:=78
abbrev f79:Nat:=79
abbrev f80:Nat:=80
abbrev f81:Nat:=81
abbrev f82:Nat:=82
abbrev f83:Nat:=83
abbrev f84:Nat:=84
abbrev f85:Nat:=85
abbrev f86:Nat:=86
abbrev f87:Nat:=87
abbrev f88:Nat:=88
abbrev f89:Nat:=89
abbrev f90:Nat:=90
abbrev f91:Nat:=91
abbrev f92:Nat:=92
abbrev f93:Nat:=93
abbrev f94:Nat:=94
abbrev f97:Nat:=97
abbrev f98:Nat:=98
abbrev f99:Nat:=99
abbrev f100:Nat:=100
abbrev f101:Nat:=101
abbrev f102:Nat:=102
abbrev f103:Nat:=103
abbrev f104:Nat:=104
abbrev f105:Nat:=105
abbrev f106:Nat:=106
abbrev f107:Nat:=107
abbrev f108:Nat:=108
abbrev f109:Nat:=109
abbrev f110:Nat:=110
abbrev f111:Nat:=111
abbrev f112:Nat:=112
abbrev f113:Nat:=113
abbrev f114:Nat:=114
abbrev f116:Nat:=116
abbrev f117:Nat:=117
abbrev f118:Nat:=118
abbrev f119:Nat:=119
abbrev f120:Nat:=120
abbrev f121:Nat:=121
abbrev f122:Nat:=122
abbrev f123:Nat:=123
abbrev f124:Nat:=124
abbrev f125:Nat:=125
abbrev f126:Nat:=126
abbrev f127:Nat:=127
abbrev f128:Nat:=128
abbrev f131:Nat:=131
abbrev f132:Nat:=132
abbrev f133:Nat:=133
abbrev f134:Nat:=134
end Rb.K

namespace Rb.S
open Go
def Vo(Φ:aj)(x7:AV)(Q:ae):List AV→AH→Prop:=fun DA ie=>
 aL (sl DA 0) true (
 Do (ai .eql x7 (.int .i64 0)) fun dN=>
 Q dN ie) (
 Q (.bool false) ie) (
 False)
def Vp(Φ:aj)(x6 x7:AV)(Q:ae):List AV→AH→Prop:=fun j35 je=>
 aL (sl j35 0) true (
 Do (br false x6) fun dY=>
 Do (ai .eql dY (.int .i64 0)) fun dJ=>
 ak (Vo Φ x7 Q) [dJ] je) (
 ak (Vo Φ x7 Q) [(.bool false)] je) (
 False)
def Vq(Φ:aj)(a1 x1 bW:AV)(Q:ae):List AV→AH→Prop:=fun j64 pF=>
 aL (sl j64 0) true (
 Do (ab 1 x1) fun ja=>
 Do (J pF 1 false ja) fun jD=>
 Do (bj none 1 jD a1) fun jO=>
 Do (J pF 1 false jO) fun jh=>
Φ K.f8 [jh] pF fun jE zi=>
 Do (ai .mul (.int .i64 16) jE) fun eJ=>
 Do (ai .mul (.int .i64 256) bW) fun jP=>
 Do (ai .add eJ jP) fun mZ=>
 Do (ai .gtr mZ (.int .i64 16384)) fun m5=>
 Q m5 zi) (
 Q (.bool false) pF) (
 False)
def I1(Φ:aj)(a1 x1 x6 bW:AV)(Q:ae):List AV→AH→Prop:=fun YJ nS=>
 aL (sl YJ 0) true (
 Do (br false x6) fun jC=>
 Do (ai .eql jC (.int .i64 0)) fun iG=>
 ak (Vq Φ a1 x1 bW Q) [iG] nS) (
 ak (Vq Φ a1 x1 bW Q) [(.bool false)] nS) (
 False)
def Qb(Φ:aj)(dO:List AV×AH)(ee:(List AV×AH)→Prop)(Q:ae):List AV→AH→Prop:=fun j86 tD=>
 Do (ai .add (sl dO.1 0) (.int .i64 1)) fun Xf=>
 ee ([Xf],tD)
def Qc(Φ:aj)(mS:List AV×AH)(uD:(List AV×AH)→Prop)(Q:ae):List AV→AH→Prop:=fun axM awi=>
 Do (ai .add (sl mS.1 1) (.int .i64 1)) fun ayw=>
 uD ([(sl axM 0),ayw],awi)
def Qd(Φ:aj)(mS:List AV×AH)(uD:(List AV×AH)→Prop)(Q:ae):List AV→AH→Prop:=fun axN agS=>
 Gd (sl axN 0) true (
 Do (ai .add (sl mS.1 0) (.int .i64 1)) fun Xu=>
 ak (Qc Φ mS uD Q) [Xu] agS) (
 ak (Qc Φ mS uD Q) [(sl mS.1 0)] agS)
def af4(Φ:aj)(x6 cJ:AV)(mS:List AV×AH)(uD:(List AV×AH)→Prop)(Q:ae):List AV→AH→Prop:=fun aC4 Jy=>
 Do (bj none 13 x6 (sl mS.1 1)) fun Xj=>
 Do (ab 0 Xj) fun Xk=>
 Do (J Jy 1 false Xk) fun Xl=>
 Do (ai .eql Xl (.int .i64 14)) fun Xm=>
 aL Xm true (
 Do (bj none 13 x6 (sl mS.1 1)) fun Xn=>
 Do (ab 10 Xn) fun Xo=>
 Do (J Jy 1 false Xo) fun Xp=>
 Do (ab 10 cJ) fun Xq=>
 Do (J Jy 1 false Xq) fun Xr=>
 Do (ai .eql Xp Xr) fun Xt=>
 ak (Qd Φ mS uD Q) [Xt] Jy) (
 ak (Qd Φ mS uD Q) [(.bool false)] Jy) (
 False)
def Vr(Φ:aj)(dO:List AV×AH)(ee:(List AV×AH)→Prop)(Q:ae):List AV→AH→Prop:=fun axO agT=>
 Gd (sl axO 0) true (
 Q (.bool false) agT) (
 ak (Qb Φ dO ee Q) [] agT)
def UE(Φ:aj)(x6:AV)(dO:List AV×AH)(ee:(List AV×AH)→Prop)(Q:ae):List AV→AH→Prop:=fun axJ agP=>
 Do (ai .neq (sl axJ 0) (.int .i64 1)) fun ayx=>
 aL ayx true (
 Do (br false x6) fun ayy=>
 Do (ai .lss ayy (.int .i64 3000)) fun ayz=>
 ak (Vr Φ dO ee Q) [ayz] agP) (
 ak (Vr Φ dO ee Q) [(.bool false)] agP) (
 False)
def OM(Φ:aj)(x6 cJ:AV)(dO:List AV×AH)(ee:(List AV×AH)→Prop)(mS:List AV×AH)(uD:(List AV×AH)→Prop)(Q:ae):List AV→AH→Prop:=fun axL agR=>
 Gd (sl axL 0) true (
 ak (af4 Φ x6 cJ mS uD Q) [] agR) (
 ak (UE Φ x6 dO ee Q) [(sl mS.1 0)] agR)
def Ez(Φ:aj)(x6 cJ:AV)(dO:List AV×AH)(ee:(List AV×AH)→Prop)(Q:ae):(List AV×AH)→((List AV×AH)→Prop)→Prop:=fun mS uD=>
 Do (br false x6) fun Xg=>
 Do (ai .lss (sl mS.1 1) Xg) fun Xh=>
 aL Xh true (
 Do (ai .lss (sl mS.1 1) (.int .i64 3000)) fun Xi=>
 ak (OM Φ x6 cJ dO ee mS uD Q) [Xi] mS.2) (
 ak (OM Φ x6 cJ dO ee mS uD Q) [(.bool false)] mS.2) (
 False)
def UF(Φ:aj)(x6 cJ:AV)(dO:List AV×AH)(ee:(List AV×AH)→Prop)(Q:ae):List AV→AH→Prop:=fun ahw QH=>
 aB (Ez Φ x6 cJ dO ee Q) ([(.int .i64 0),(.int .i64 0)],QH)
def ON(Φ:aj)(x6 cJ:AV)(dO:List AV×AH)(ee:(List AV×AH)→Prop)(Q:ae):List AV→AH→Prop:=fun WN xt=>
 Gd (sl WN 0) true (
 ak (Qb Φ dO ee Q) [] xt) (
 ak (UF Φ x6 cJ dO ee Q) [] xt)
def UG(Φ:aj)(x6 cJ:AV)(dO:List AV×AH)(ee:(List AV×AH)→Prop)(Q:ae):List AV→AH→Prop:=fun axI Fu=>
 aL (sl axI 0) true (
 Do (ab 0 cJ) fun Xc=>
 Do (J Fu 1 false Xc) fun Xd=>
 Do (ai .neq Xd (.int .i64 16)) fun Xe=>
 ak (ON Φ x6 cJ dO ee Q) [Xe] Fu) (
 ak (ON Φ x6 cJ dO ee Q) [(.bool false)] Fu) (
 False)
def UH(Φ:aj)(x6 cJ:AV)(dO:List AV×AH)(ee:(List AV×AH)→Prop)(Q:ae):List AV→AH→Prop:=fun aC1 QF=>
 Do (ab 0 cJ) fun Kh=>
 Do (J QF 1 false Kh) fun W_=>
 Do (ai .neq W_ (.int .i64 14)) fun Ki=>
 aL Ki true (
 Do (ab 0 cJ) fun Kj=>
 Do (J QF 1 false Kj) fun Xa=>
 Do (ai .neq Xa (.int .i64 15)) fun Xb=>
 ak (UG Φ x6 cJ dO ee Q) [Xb] QF) (
 ak (UG Φ x6 cJ dO ee Q) [(.bool false)] QF) (
 False)
def yF(Φ:aj)(x6 cJ:AV)(dO:List AV×AH)(ee:(List AV×AH)→Prop)(Q:ae):List AV→AH→Prop:=fun ahu Jw=>
 Gd (sl ahu 0) true (
 Q (.bool false) Jw) (
 ak (UH Φ x6 cJ dO ee Q) [] Jw)
def Io(Φ:aj)(x6 cJ:AV)(dO:List AV×AH)(ee:(List AV×AH)→Prop)(Q:ae):List AV→AH→Prop:=fun axD re=>
 aL (sl axD 0) false (
 Do (ab 0 cJ) fun CU=>
 Do (J re 1 false CU) fun CV=>
 Do (ai .geq CV (.int .i64 4)) fun CW=>
 aL CW true (
 Do (ab 0 cJ) fun CX=>
 Do (J re 1 false CX) fun J5=>
 Do (ai .leq J5 (.int .i64 7)) fun CY=>
 aL CY true (
 Do (ab 8 cJ) fun J6=>
 Do (J re 1 false J6) fun J7=>
 Do (ai .neq J7 (.int .i64 1)) fun Q4=>
 aL Q4 true (
 Do (ab 8 cJ) fun W5=>
 Do (J re 1 false W5) fun J8=>
 Do (ai .neq J8 (.int .i64 2)) fun J9=>
 aL J9 true (
 Do (ab 8 cJ) fun J_=>
 Do (J re 1 false J_) fun F2=>
 Do (ai .neq F2 (.int .i64 4)) fun W6=>
 aL W6 true (
 Do (ab 8 cJ) fun Kg=>
 Do (J re 1 false Kg) fun W7=>
 Do (ai .neq W7 (.int .i64 8)) fun W8=>
 ak (yF Φ x6 cJ dO ee Q) [W8] re) (
 ak (yF Φ x6 cJ dO ee Q) [(.bool false)] re) (
 False)) (
 ak (yF Φ x6 cJ dO ee Q) [(.bool false)] re) (
 False)) (
 ak (yF Φ x6 cJ dO ee Q) [(.bool false)] re) (
 False)) (
 ak (yF Φ x6 cJ dO ee Q) [(.bool false)] re) (
 False)) (
 ak (yF Φ x6 cJ dO ee Q) [(.bool false)] re) (
 False)) (
 ak (yF Φ x6 cJ dO ee Q) [(.bool true)] re) (
 False)
def OO(Φ:aj)(x6 bW cJ:AV)(dO:List AV×AH)(ee:(List AV×AH)→Prop)(Q:ae):List AV→AH→Prop:=fun axC Jv=>
 aL (sl axC 0) true (
 Do (ab 11 cJ) fun F1=>
 Do (J Jv 1 false F1) fun W3=>
 Do (ai .lss W3 (.int .i64 1)) fun J4=>
 aL J4 false (
 Do (ab 11 cJ) fun W4=>
 Do (J Jv 1 false W4) fun CS=>
 Do (ai .gtr CS bW) fun CT=>
 ak (Io Φ x6 cJ dO ee Q) [CT] Jv) (
 ak (Io Φ x6 cJ dO ee Q) [(.bool true)] Jv) (
 False)) (
 ak (Io Φ x6 cJ dO ee Q) [(.bool false)] Jv) (
 False)
def adT(Φ:aj)(x6 bW cJ:AV)(dO:List AV×AH)(ee:(List AV×AH)→Prop)(Q:ae):List AV→AH→Prop:=fun j93 xQ=>
 Do (ab 0 cJ) fun ahI=>
 Do (J xQ 1 false ahI) fun CN=>
 Do (ai .geq CN (.int .i64 4)) fun J3=>
 aL J3 true (
 Do (ab 0 cJ) fun mC=>
 Do (J xQ 1 false mC) fun F0=>
 Do (ai .leq F0 (.int .i64 13)) fun CO=>
 ak (OO Φ x6 bW cJ dO ee Q) [CO] xQ) (
 ak (OO Φ x6 bW cJ dO ee Q) [(.bool false)] xQ) (
 False)
def OP(Φ:aj)(x6 bW cJ:AV)(dO:List AV×AH)(ee:(List AV×AH)→Prop)(Q:ae):List AV→AH→Prop:=fun j95 wa=>
 Gd (sl j95 0) true (
 Q (.bool false) wa) (
 ak (adT Φ x6 bW cJ dO ee Q) [] wa)
def UI(Φ:aj)(x6 x7 bW cJ:AV)(dO:List AV×AH)(ee:(List AV×AH)→Prop)(Q:ae):List AV→AH→Prop:=fun axA Fq=>
 aL (sl axA 0) false (
 Do (ab 5 cJ) fun zd=>
 Do (J Fq 1 false zd) fun J1=>
Φ K.f9 [J1,x7] Fq fun AN yS=>
 Do (eB .not AN) fun ze=>
 ak (OP Φ x6 bW cJ dO ee Q) [ze] yS) (
 ak (OP Φ x6 bW cJ dO ee Q) [(.bool true)] Fq) (
 False)
def UJ(Φ:aj)(x6 x7 bW cJ:AV)(dO:List AV×AH)(ee:(List AV×AH)→Prop)(Q:ae):List AV→AH→Prop:=fun ahs Jr=>
 aL (sl ahs 0) false (
 Do (ab 4 cJ) fun tA=>
 Do (J Jr 1 false tA) fun xL=>
Φ K.f9 [xL,x7] Jr fun fK AA=>
 Do (eB .not fK) fun xM=>
 ak (UI Φ x6 x7 bW cJ dO ee Q) [xM] AA) (
 ak (UI Φ x6 x7 bW cJ dO ee Q) [(.bool true)] Jr) (
 False)
def UK(Φ:aj)(x6 x7 bW cJ:AV)(dO:List AV×AH)(ee:(List AV×AH)→Prop)(Q:ae):List AV→AH→Prop:=fun axx Jo=>
 aL (sl axx 0) false (
 Do (ab 3 cJ) fun tx=>
 Do (J Jo 1 false tx) fun y_=>
Φ K.f9 [y_,x7] Jo fun xJ Jt=>
 Do (eB .not xJ) fun zc=>
 ak (UJ Φ x6 x7 bW cJ dO ee Q) [zc] Jt) (
 ak (UJ Φ x6 x7 bW cJ dO ee Q) [(.bool true)] Jo) (
 False)
def UL(Φ:aj)(x6 x7 bW cJ:AV)(dO:List AV×AH)(ee:(List AV×AH)→Prop)(Q:ae):List AV→AH→Prop:=fun axv VX=>
 aL (sl axv 0) false (
 Do (ab 2 cJ) fun xH=>
 Do (J VX 1 false xH) fun sf=>
Φ K.f9 [sf,x7] VX fun tw av9=>
 Do (eB .not tw) fun vU=>
 ak (UK Φ x6 x7 bW cJ dO ee Q) [vU] av9) (
 ak (UK Φ x6 x7 bW cJ dO ee Q) [(.bool true)] VX) (
 False)
def UM(Φ:aj)(x6 x7 bW cJ:AV)(dO:List AV×AH)(ee:(List AV×AH)→Prop)(Q:ae):List AV→AH→Prop:=fun YL AP=>
 aL (sl YL 0) false (
 Do (ab 1 cJ) fun ry=>
 Do (J AP 1 false ry) fun tt=>
Φ K.f9 [tt,x7] AP fun pE av7=>
 Do (eB .not pE) fun qz=>
 ak (UL Φ x6 x7 bW cJ dO ee Q) [qz] av7) (
 ak (UL Φ x6 x7 bW cJ dO ee Q) [(.bool true)] AP) (
 False)
def adU(Φ:aj)(Q:ae):List AV→AH→Prop:=fun j80 C0=>
Φ K.f6 [] C0 fun ayA awj=>
 Q ayA awj
def BV(Φ:aj)(x6 x7 bW:AV)(Q:ae):(List AV×AH)→((List AV×AH)→Prop)→Prop:=fun dO ee=>
 Do (br false x6) fun nJ=>
 Do (ai .lss (sl dO.1 0) nJ) fun nK=>
 Gd nK true (
 Do (bj none 13 x6 (sl dO.1 0)) fun oo=>
 Do (J dO.2 13 true oo) fun ve=>
 aJ (some (be dO.2 true [.int .i64 0,.int .i64 0,.int .i64 0,.int .i64 0,.int .i64 0,.int .i64 0,.int .u64 0,.int .i64 0,.int .i64 0,.int .i64 0,.int .i64 0,.int .i64 0,.int .i64 0])) fun cJ rA=>
 Do (aH rA 13 cJ ve) fun xP=>
 Do (ab 0 cJ) fun sQ=>
 Do (J xP 1 false sQ) fun ru=>
 Do (ai .lss ru (.int .i64 1)) fun tr=>
 aL tr false (
 Do (ab 0 cJ) fun rv=>
 Do (J xP 1 false rv) fun sd=>
 Do (ai .gtr sd (.int .i64 18)) fun xG=>
 ak (UM Φ x6 x7 bW cJ dO ee Q) [xG] xP) (
 ak (UM Φ x6 x7 bW cJ dO ee Q) [(.bool true)] xP) (
 False)) (
 ak (adU Φ Q) [] dO.2)
def Ey(Φ:aj)(a1 x1 x6 x7 x9 bG:AV)(Q:ae):List AV→AH→Prop:=fun zN di=>
 Do (ab 1 bG) fun dL=>
 Do (J di 1 false dL) fun cO=>
 Do (ai .neq cO (.int .i64 0)) fun dM=>
 Gd dM true (
Φ K.f6 [] di fun cq kB=>
 aL cq true (
 Do (J kB 2 true x9) fun dG=>
 Do (J kB 2 true bG) fun dC=>
 Do (vo false [.n,.n] dG dC) fun ey=>
 ak (Vp Φ x6 x7 Q) [ey] kB) (
 ak (Vp Φ x6 x7 Q) [(.bool false)] kB) (
 False)) (
 Do (ab 1 x1) fun dS=>
 Do (J di 1 false dS) fun eE=>
 Do (bj none 1 eE a1) fun e_=>
 Do (J di 1 false e_) fun gE=>
Φ K.f7 [gE,(.aq .nil 0 [])] di fun dZ iQ=>
 Do (br false dZ) fun bW=>
 Do (ab 1 x9) fun fY=>
 Do (J iQ 1 false fY) fun fZ=>
 Do (ai .neq fZ (.int .i64 0)) fun gX=>
 Gd gX true (
Φ K.f6 [] iQ fun ia mV=>
 aL ia true (
 Do (J mV 2 true x9) fun gF=>
 Do (bJ [.int .i64 0,.int .i64 0] [(1,1,(.int .i64 12))]) fun iV=>
 Do (vo false [.n,.n] gF iV) fun iv=>
 ak (I1 Φ a1 x1 x6 bW Q) [iv] mV) (
 ak (I1 Φ a1 x1 x6 bW Q) [(.bool false)] mV) (
 False)) (
 Do (br false x6) fun kF=>
 Do (ai .gtr kF (.int .i64 16384)) fun m6=>
 Gd m6 true (
 Q (.bool false) iQ) (
 aB (BV Φ x6 x7 bW Q) ([(.int .i64 0)],iQ))))
def Aj(Φ:aj)(a1 x1 x6 x7 x9 bG:AV)(Q:ae):List AV→AH→Prop:=fun yp fc=>
 Gd (sl yp 0) true (
 Do (bJ [.int .i64 0,.int .i64 0] [(1,1,(.int .i64 1))]) fun cb=>
 Do (aH fc 2 bG cb) fun gj=>
 ak (Ey Φ a1 x1 x6 x7 x9 bG Q) [] gj) (
 ak (Ey Φ a1 x1 x6 x7 x9 bG Q) [] fc)
def f3(Φ:aj)(a0 a1:AV)(H:AH)(Q:ae):Prop:=
 aJ (bB H false 2 a0) fun x1 H2=>
 Do (J H2 2 true x1) fun x3=>
Φ K.f4 [x3,a1] H2 fun x4 H5=>
 Do (db 0 x4) fun x6=>
 Do (db 1 x4) fun x7=>
 Do (db 2 x4) fun x8=>
 aJ (some (be H5 true [.int .i64 0,.int .i64 0])) fun x9 bZ=>
 Do (aH bZ 2 x9 x8) fun cy=>
 Do (J cy 2 true x1) fun bc=>
Φ K.f5 [bc] cy fun bu eN=>
 aJ (some (be eN true [.int .i64 0,.int .i64 0])) fun bG iP=>
 Do (aH iP 2 bG bu) fun dv=>
 Do (ab 1 bG) fun aW=>
 Do (J dv 1 false aW) fun cf=>
 Do (ai .eql cf (.int .i64 0)) fun cw=>
 aL cw true (
 Do (ai .lss a1 (.int .i64 0)) fun cB=>
 aL cB false (
 Do (ab 1 x1) fun b_=>
 Do (J dv 1 false b_) fun bS=>
 Do (br false bS) fun bA=>
 Do (ai .geq a1 bA) fun dx=>
 ak (Aj Φ a1 x1 x6 x7 x9 bG Q) [dx] dv) (
 ak (Aj Φ a1 x1 x6 x7 x9 bG Q) [(.bool true)] dv) (
 False)) (
 ak (Aj Φ a1 x1 x6 x7 x9 bG Q) [(.bool false)] dv) (
 False)
noncomputable def agq:bm:=bI Go.Proofs.YtbjhdakiiedmcaaGreatDoor.rb.C ⟨3,[7,8,11],[[10],[13,14]],none,[],[]⟩
theorem auN(Φ:aj)(a0 a1:AV)(H:AH)(Q:ae):bM Φ agq [a0,a1] H Q=f3 Φ a0 a1 H Q:=by kernel_rfl
def Vt(Φ:aj)(a1 x1 x3:AV)(Q:ae):List AV→AH→Prop:=fun j17 fx=>
 Do (ab 0 x1) fun dx=>
 Do (J fx 1 false dx) fun cb=>
Φ K.f11 [cb] fx fun cK dW=>
 Do (db 0 cK) fun cO=>
 Do (db 1 cK) fun dM=>
 Do (db 2 cK) fun eW=>
 Do (ab 0 x1) fun dP=>
 Do (J dW 1 false dP) fun cq=>
 Do (bJ [.aq .nil 0 [],.aq .nil 0 [],.aq .nil 0 [],.int .i64 0,.int .i64 0,.aq .nil 0 [],.int .i64 0,.aq .nil 0 []] [(0,1,cq),(1,1,cO)]) fun df=>
 aJ (bB dW true 8 df) fun dG jY=>
 Do (ab 1 x1) fun ey=>
 Do (J jY 1 false ey) fun dH=>
 Do (bj none 1 dH a1) fun dR=>
 Do (J jY 1 false dR) fun dY=>
Φ K.f12 [dG,dY] jY fun dJ sg=>
 Do (bR dG) fun dS=>
 Do (ab 2 dS) fun eE=>
 Do (J sg 1 false eE) fun e_=>
 Do (br false e_) fun gE=>
 Do (ai .gtr gE (.int .i64 16384)) fun dZ=>
 Gd dZ true (
 Do (bJ [.int .i64 0,.int .i64 0] [(1,1,(.int .i64 12))]) fun fa=>
 Do (aH sg 2 x3 fa) fun kX=>
 Do (J kX 2 true x3) fun fY=>
 Q (.aM [(.aq .nil 0 []),(.int .i64 0),fY]) kX) (
 Do (bR dG) fun fZ=>
 Do (ab 2 fZ) fun gX=>
 Do (J sg 1 false gX) fun c_=>
 Do (bR dG) fun iu=>
 Do (ab 3 iu) fun ia=>
 Do (J sg 1 false ia) fun jB=>
 Do (bJ [.int .i64 0,.int .i64 0] []) fun gF=>
 Do (aH sg 2 x3 gF) fun oI=>
 Do (J oI 2 true x3) fun iv=>
 Q (.aM [c_,jB,iv]) oI)
def Qe(Φ:aj)(a1 x1 x3:AV)(Q:ae):List AV→AH→Prop:=fun zO fH=>
 Gd (sl zO 0) true (
 Do (bJ [.int .i64 0,.int .i64 0] [(1,1,(.int .i64 1))]) fun b_=>
 Do (aH fH 2 x3 b_) fun eT=>
 Do (J eT 2 true x3) fun bA=>
 Q (.aM [(.aq .nil 0 []),(.int .i64 0),bA]) eT) (
 ak (Vt Φ a1 x1 x3 Q) [] fH)
def f4(Φ:aj)(a0 a1:AV)(H:AH)(Q:ae):Prop:=
 aJ (bB H false 2 a0) fun x1 H2=>
 aJ (some (be H2 true [.int .i64 0,.int .i64 0])) fun x3 H4=>
 Do (J H4 2 true x1) fun x5=>
Φ K.f10 [x5] H4 fun x6 H7=>
 aJ (some (be H7 true [.int .i64 0,.int .i64 0])) fun x8 H9=>
 Do (aH H9 2 x8 x6) fun bZ=>
 Do (ab 1 x8) fun bH=>
 Do (J bZ 1 false bH) fun bc=>
 Do (ai .neq bc (.int .i64 0)) fun bu=>
 Gd bu true (
 Do (J bZ 2 true x8) fun bN=>
 Do (aH bZ 2 x3 bN) fun eD=>
 Do (J eD 2 true x3) fun bg=>
 Q (.aM [(.aq .nil 0 []),(.int .i64 0),bg]) eD) (
 Do (ai .lss a1 (.int .i64 0)) fun bO=>
 aL bO false (
 Do (ab 1 x1) fun aW=>
 Do (J bZ 1 false aW) fun cf=>
 Do (br false cf) fun cw=>
 Do (ai .geq a1 cw) fun cB=>
 ak (Qe Φ a1 x1 x3 Q) [cB] bZ) (
 ak (Qe Φ a1 x1 x3 Q) [(.bool true)] bZ) (
 False))
noncomputable def agr:bm:=bI Go.Proofs.YtbjhdakiiedmcaaGreatDoor.rb.C ⟨4,[6,7,39],[],none,[],[]⟩
theorem auO(Φ:aj)(a0 a1:AV)(H:AH)(Q:ae):bM Φ agr [a0,a1] H Q=f4 Φ a0 a1 H Q:=by kernel_rfl
def af5(Φ:aj)(iF:List AV×AH)(pH:(List AV×AH)→Prop)(Q:ae):List AV→AH→Prop:=fun rH eO=>
 Do (ai .add (sl iF.1 0) (.int .i64 1)) fun nJ=>
 pH ([nJ],eO)
def af6(Φ:aj)(x3 dC:AV)(iF:List AV×AH)(pH:(List AV×AH)→Prop)(Q:ae):List AV→AH→Prop:=fun j59 mV=>
 Do (ab 1 dC) fun mZ=>
 Do (J mV 6 true mZ) fun m5=>
Φ K.f15 [m5] mV fun kF sk=>
 Do (ai .neq kF (.int .i64 0)) fun mJ=>
 Gd mJ true (
 Do (bJ [.int .i64 0,.int .i64 0] [(1,1,kF)]) fun gx=>
 Do (aH sk 2 x3 gx) fun vZ=>
 Do (J vZ 2 true x3) fun oS=>
 Q oS vZ) (
 ak (af5 Φ iF pH Q) [] sk)
def Qg(Φ:aj)(x1 x3 dC:AV)(iF:List AV×AH)(pH:(List AV×AH)→Prop)(Q:ae):(List AV×AH)→((List AV×AH)→Prop)→Prop:=fun zV L62=>
 Do (ai .lss (sl zV.1 0) (sl iF.1 0)) fun iv=>
 Gd iv true (
 Do (ab 0 x1) fun iM=>
 Do (J zV.2 1 false iM) fun kl=>
 Do (bj none 7 kl (sl zV.1 0)) fun jC=>
 Do (ab 0 jC) fun iG=>
 Do (J zV.2 1 false iG) fun ja=>
 Do (ab 0 dC) fun jD=>
 Do (J zV.2 1 false jD) fun jO=>
 Do (ai .eql ja jO) fun jh=>
 Gd jh true (
 Do (bJ [.int .i64 0,.int .i64 0] [(1,1,(.int .i64 7))]) fun jE=>
 Do (aH zV.2 2 x3 jE) fun zi=>
 Do (J zi 2 true x3) fun eJ=>
 Q eJ zi) (
 Do (ai .add (sl zV.1 0) (.int .i64 1)) fun jP=>
 L62 ([jP],zV.2))) (
 ak (af6 Φ x3 dC iF pH Q) [] zV.2)
def af7(Φ:aj)(x1 x3 dC:AV)(iF:List AV×AH)(pH:(List AV×AH)→Prop)(Q:ae):List AV→AH→Prop:=fun j43 me=>
 aB (Qg Φ x1 x3 dC iF pH Q) ([(.int .i64 0)],me)
def Qf(Φ:aj)(x1 x3 dC:AV)(iF:List AV×AH)(pH:(List AV×AH)→Prop)(Q:ae):List AV→AH→Prop:=fun j45 sg=>
 Gd (sl j45 0) true (
 Do (bJ [.int .i64 0,.int .i64 0] [(1,1,(.int .i64 6))]) fun gX=>
 Do (aH sg 2 x3 gX) fun jK=>
 Do (J jK 2 true x3) fun iu=>
 Q iu jK) (
 ak (af7 Φ x1 x3 dC iF pH Q) [] sg)
def af8(Φ:aj)(x3:AV)(Q:ae):List AV→AH→Prop:=fun j96 Kn=>
 Do (bJ [.int .i64 0,.int .i64 0] []) fun tz=>
 Do (aH Kn 2 x3 tz) fun Fq=>
 Do (J Fq 2 true x3) fun tA=>
 Q tA Fq
def I2(Φ:aj)(x1 x3:AV)(Q:ae):(List AV×AH)→((List AV×AH)→Prop)→Prop:=fun DI L99=>
 Do (ab 1 x1) fun ru=>
 Do (J DI.2 1 false ru) fun tr=>
 Do (br false tr) fun rv=>
 Do (ai .lss (sl DI.1 0) rv) fun sd=>
 Gd sd true (
 Do (ab 0 x1) fun xG=>
 Do (J DI.2 1 false xG) fun vQ=>
 Do (bJ [.aq .nil 0 [],.int .i64 0,.int .i64 0,.int .i64 0,.int .i64 0] [(0,1,vQ)]) fun se=>
 aJ (bB DI.2 true 5 se) fun ry VY=>
 Do (ab 1 x1) fun pE=>
 Do (J VY 1 false pE) fun tv=>
 Do (bj none 1 tv (sl DI.1 0)) fun qz=>
 Do (J VY 1 false qz) fun vT=>
Φ K.f17 [ry,vT,(.aq .nil 0 []),(.int .i64 1)] VY fun mU Fp=>
 Do (bR ry) fun sf=>
 Do (ab 3 sf) fun tw=>
 Do (ab 1 tw) fun rz=>
 Do (J Fp 1 false rz) fun vU=>
 Do (ai .neq vU (.int .i64 0)) fun xI=>
 Gd xI true (
 Do (bR ry) fun vV=>
 Do (ab 3 vV) fun tx=>
 Do (J Fp 2 true tx) fun y_=>
 Do (aH Fp 2 x3 y_) fun Cq=>
 Do (J Cq 2 true x3) fun xK=>
 Q xK Cq) (
 Do (ai .add (sl DI.1 0) (.int .i64 1)) fun zc=>
 L99 ([zc],Fp))) (
 ak (af8 Φ x3 Q) [] DI.2)
def af9(Φ:aj)(x1 x3:AV)(Q:ae):List AV→AH→Prop:=fun wI eT=>
 Do (ab 0 x1) fun nK=>
 Do (J eT 1 false nK) fun rN=>
Φ K.f16 [rN] eT fun uh AO=>
 Do (db 0 uh) fun ve=>
 Do (db 1 uh) fun cJ=>
 Do (db 2 uh) fun ui=>
 Do (ai .neq ui (.int .i64 0)) fun oT=>
 Gd oT true (
 Do (bJ [.int .i64 0,.int .i64 0] [(1,1,ui)]) fun uj=>
 Do (aH AO 2 x3 uj) fun xQ=>
 Do (J xQ 2 true x3) fun uk=>
 Q uk xQ) (
 aB (I2 Φ x1 x3 Q) ([(.int .i64 0)],AO))
def E_(Φ:aj)(x1 x3:AV)(Q:ae):(List AV×AH)→((List AV×AH)→Prop)→Prop:=fun iF pH=>
 Do (ab 0 x1) fun cb=>
 Do (J iF.2 1 false cb) fun cK=>
 Do (br false cK) fun dL=>
 Do (ai .lss (sl iF.1 0) dL) fun cO=>
 Gd cO true (
 Do (ab 0 x1) fun dP=>
 Do (J iF.2 1 false dP) fun cq=>
 Do (bj none 7 cq (sl iF.1 0)) fun df=>
 Do (J iF.2 7 true df) fun dG=>
 aJ (some (be iF.2 true [.str [],.int .i64 0,.int .i64 0,.bool false,.aq .nil 0 [],.int .i64 0,.aq .nil 0 []])) fun dC gA=>
 Do (aH gA 7 dC dG) fun jJ=>
 Do (ab 0 dC) fun dS=>
 Do (J jJ 1 false dS) fun eE=>
Φ K.f13 [eE] jJ fun e_ gB=>
 Do (eB .not e_) fun dZ=>
 aL dZ false (
 Do (ab 0 dC) fun fa=>
 Do (J gB 1 false fa) fun bW=>
Φ K.f14 [bW] gB fun fY nA=>
 ak (Qf Φ x1 x3 dC iF pH Q) [fY] nA) (
 ak (Qf Φ x1 x3 dC iF pH Q) [(.bool true)] gB) (
 False)) (
 ak (af9 Φ x1 x3 Q) [] iF.2)
def UP(Φ:aj)(x1 x3:AV)(Q:ae):List AV→AH→Prop:=fun j5 H6=>
 aB (E_ Φ x1 x3 Q) ([(.int .i64 0)],H6)
def O5(Φ:aj)(x1 x3:AV)(Q:ae):List AV→AH→Prop:=fun j7 H8=>
 Gd (sl j7 0) true (
 Do (bJ [.int .i64 0,.int .i64 0] [(1,1,(.int .i64 12))]) fun cf=>
 Do (aH H8 2 x3 cf) fun hZ=>
 Do (J hZ 2 true x3) fun cB=>
 Q cB hZ) (
 ak (UP Φ x1 x3 Q) [] H8)
def O6(Φ:aj)(x1 x3:AV)(Q:ae):List AV→AH→Prop:=fun j9 bZ=>
 aL (sl j9 0) false (
 Do (ab 1 x1) fun cI=>
 Do (J bZ 1 false cI) fun cm=>
 Do (br false cm) fun bO=>
 Do (ai .gtr bO (.int .i64 8)) fun aW=>
 ak (O5 Φ x1 x3 Q) [aW] bZ) (
 ak (O5 Φ x1 x3 Q) [(.bool true)] bZ) (
 False)
def f5(Φ:aj)(a0:AV)(H:AH)(Q:ae):Prop:=
 aJ (bB H false 2 a0) fun x1 H2=>
 aJ (some (be H2 true [.int .i64 0,.int .i64 0])) fun x3 H4=>
 Do (ab 0 x1) fun bH=>
 Do (J H4 1 false bH) fun bc=>
 Do (br false bc) fun bu=>
 Do (ai .gtr bu (.int .i64 32)) fun bN=>
 aL bN false (
 Do (ab 1 x1) fun bG=>
 Do (J H4 1 false bG) fun bg=>
 Do (br false bg) fun bV=>
 Do (ai .eql bV (.int .i64 0)) fun bE=>
 ak (O6 Φ x1 x3 Q) [bE] H4) (
 ak (O6 Φ x1 x3 Q) [(.bool true)] H4) (
 False)
noncomputable def ags:bm:=bI Go.Proofs.YtbjhdakiiedmcaaGreatDoor.rb.C ⟨5,[2,4,94],[[3],[5],[10]],none,[],[]⟩
theorem auP(Φ:aj)(a0:AV)(H:AH)(Q:ae):bM Φ ags [a0] H Q=f5 Φ a0 H Q:=by kernel_rfl
def af_(Φ:aj)(cb:AV)(Q:ae):List AV→AH→Prop:=fun j66 Km=>
 aL (sl j66 0) true (
 Do (bj none 5 cb (.int .i64 1)) fun jE=>
 Do (ab 2 jE) fun ji=>
 Do (J Km 1 false ji) fun eJ=>
 Do (ai .eql eJ (.int .i64 4)) fun jP=>
 Q jP Km) (
 Q (.bool false) Km) (
 False)
def aga(Φ:aj)(cb:AV)(Q:ae):List AV→AH→Prop:=fun GF sj=>
 aL (sl GF 0) true (
 Do (bj none 5 cb (.int .i64 1)) fun ja=>
 Do (ab 0 ja) fun jD=>
 Do (J sj 1 false jD) fun jO=>
 Do (ai .eql jO (.int .i64 3)) fun jh=>
 ak (af_ Φ cb Q) [jh] sj) (
 ak (af_ Φ cb Q) [(.bool false)] sj) (
 False)
def agb(Φ:aj)(cb:AV)(Q:ae):List AV→AH→Prop:=fun YI jK=>
 aL (sl YI 0) true (
 Do (bj none 5 cb (.int .i64 0)) fun iV=>
 Do (ab 0 iV) fun iv=>
 Do (J jK 1 false iv) fun iM=>
 Do (ai .eql iM (.int .i64 16)) fun kl=>
 ak (aga Φ cb Q) [kl] jK) (
 ak (aga Φ cb Q) [(.bool false)] jK) (
 False)
def agc(Φ:aj)(cb:AV)(Q:ae):List AV→AH→Prop:=fun YH kX=>
 aL (sl YH 0) true (
 Do (br false cb) fun iu=>
 Do (ai .eql iu (.int .i64 2)) fun ia=>
 ak (agb Φ cb Q) [ia] kX) (
 ak (agb Φ cb Q) [(.bool false)] kX) (
 False)
def agd(Φ:aj)(cf cb:AV)(Q:ae):List AV→AH→Prop:=fun Li gB=>
 aL (sl Li 0) true (
 Do (br false cf) fun fY=>
 Do (ai .gtr fY (.int .i64 1)) fun fZ=>
 ak (agc Φ cb Q) [fZ] gB) (
 ak (agc Φ cb Q) [(.bool false)] gB) (
 False)
def age(Φ:aj)(cf cw cb:AV)(Q:ae):List AV→AH→Prop:=fun Lg jJ=>
 aL (sl Lg 0) true (
 Do (ai .gtr cw (.int .i64 0)) fun dZ=>
 ak (agd Φ cf cb Q) [dZ] jJ) (
 ak (agd Φ cf cb Q) [(.bool false)] jJ) (
 False)
def f6(Φ:aj)(H:AH)(Q:ae):Prop:=
Φ K.f19 [(.str [98])] H fun x1 H2=>
Φ K.f19 [(.str [97])] H2 fun x3 H4=>
Φ K.f20 [(.int .u64 1)] H4 fun x5 H6=>
 aJ (fb H6 false 8 1 [.int .i64 0,.int .u64 0,.str [],.int .i64 0,.int .i64 0,.str [],.aq .nil 0 [],.aq .nil 0 []] [(0,8,x5)]) fun x7 H8=>
 Do (bJ [.int .i64 0,.int .u64 0,.str [],.int .i64 0,.int .i64 0,.str [],.aq .nil 0 [],.aq .nil 0 []] [(0,1,(.int .i64 6)),(4,1,(.int .i64 1)),(5,2,x3),(7,1,x7)]) fun x9=>
 aJ (fb H8 false 8 1 [.int .i64 0,.int .u64 0,.str [],.int .i64 0,.int .i64 0,.str [],.aq .nil 0 [],.aq .nil 0 []] [(0,8,x9)]) fun bQ cy=>
 Do (bJ [.int .i64 0,.int .i64 0,.str [],.str [],.int .i64 0,.str [],.aq .nil 0 [],.aq .nil 0 [],.aq .nil 0 [],.aq .nil 0 []] [(0,1,(.int .i64 3)),(1,1,(.int .i64 4)),(5,2,x1),(7,1,bQ)]) fun bc=>
 aJ (fb cy false 10 1 [.int .i64 0,.int .i64 0,.str [],.str [],.int .i64 0,.str [],.aq .nil 0 [],.aq .nil 0 [],.aq .nil 0 [],.aq .nil 0 []] [(0,10,bc)]) fun bu eN=>
Φ K.f18 [bu] eN fun bG iP=>
 aJ (some (be iP true [.aq .nil 0 [],.aq .nil 0 []])) fun bV fx=>
 Do (aH fx 2 bV bG) fun di=>
 Do (J di 2 true bV) fun cm=>
Φ K.f4 [cm,(.int .i64 0)] di fun bO fM=>
 Do (db 0 bO) fun cf=>
 Do (db 1 bO) fun cw=>
 Do (db 2 bO) fun cB=>
 aJ (some (be fM true [.int .i64 0,.int .i64 0])) fun b_ eT=>
 Do (aH eT 2 b_ cB) fun iA=>
 Do (J iA 2 true bV) fun dx=>
Φ K.f21 [dx,(.int .i64 0)] iA fun cb gj=>
 Do (J gj 2 true bV) fun dL=>
Φ K.f4 [dL,(.int .i64 1)] gj fun cO lI=>
 Do (db 0 cO) fun eW=>
 Do (db 1 cO) fun dP=>
 Do (db 2 cO) fun cq=>
 aJ (some (be lI true [.int .i64 0,.int .i64 0])) fun df gT=>
 Do (aH gT 2 df cq) fun jY=>
 Do (ab 1 b_) fun dR=>
 Do (J jY 1 false dR) fun dY=>
 Do (ai .eql dY (.int .i64 0)) fun dJ=>
 aL dJ true (
 Do (ab 1 df) fun dN=>
 Do (J jY 1 false dN) fun dS=>
 Do (ai .eql dS (.int .i64 1)) fun eE=>
 ak (age Φ cf cw cb Q) [eE] jY) (
 ak (age Φ cf cw cb Q) [(.bool false)] jY) (
 False)
noncomputable def avA:bm:=bI Go.Proofs.YtbjhdakiiedmcaaGreatDoor.rb.C ⟨6,[1,4,8],[],none,[],[]⟩
def agf(Φ:aj)(s1:List AV×AH)(L2:(List AV×AH)→Prop)(Q:ae):List AV→AH→Prop:=fun j5 H6=>
 Do (ai .add (sl s1.1 1) (.int .i64 1)) fun fZ=>
 L2 ([(sl j5 0),fZ],H6)
def Qh(Φ:aj)(x9:AV)(s1:List AV×AH)(L2:(List AV×AH)→Prop)(Q:ae):List AV→AH→Prop:=fun zP fN=>
 Do (ab 8 x9) fun dS=>
 Do (J fN 1 false dS) fun eE=>
Φ K.f7 [eE,(sl zP 0)] fN fun e_ gB=>
 Do (ab 9 x9) fun dZ=>
 Do (J gB 1 false dZ) fun fa=>
Φ K.f7 [fa,e_] gB fun bW mD=>
 ak (agf Φ s1 L2 Q) [bW] mD
def Qi(Φ:aj)(x9 aW:AV)(s1:List AV×AH)(L2:(List AV×AH)→Prop)(Q:ae):List AV→AH→Prop:=fun wI eT=>
 Gd (sl wI 0) true (
 Do (ab 0 x9) fun dM=>
 Do (J eT 1 false dM) fun eW=>
 Do (ab 4 x9) fun dP=>
 Do (J eT 1 false dP) fun cq=>
 Do (ab 1 x9) fun df=>
 Do (J eT 1 false df) fun dG=>
 Do (ab 5 x9) fun dC=>
 Do (J eT 2 true dC) fun ey=>
 Do (bJ [.int .i64 0,.int .i64 0,.int .i64 0,.str [],.aq .nil 0 []] [(0,1,eW),(1,1,cq),(2,1,dG),(3,2,ey)]) fun dH=>
 aJ (fb eT false 5 1 [.int .i64 0,.int .i64 0,.int .i64 0,.str [],.aq .nil 0 []] [(0,5,dH)]) fun dR me=>
 aJ (eF me false 5 64 aW dR) fun dJ sg=>
 ak (Qh Φ x9 s1 L2 Q) [dJ] sg) (
 ak (Qh Φ x9 s1 L2 Q) [aW] eT)
def Fa(Φ:aj)(a0:AV)(Q:ae):(List AV×AH)→((List AV×AH)→Prop)→Prop:=fun s1 L2=>
 Do (br false a0) fun x3=>
 Do (ai .lss (sl s1.1 1) x3) fun x4=>
 Gd x4 true (
 Do (bj none 10 a0 (sl s1.1 1)) fun x7=>
 Do (J s1.2 10 true x7) fun x8=>
 aJ (some (be s1.2 true [.int .i64 0,.int .i64 0,.str [],.str [],.int .i64 0,.str [],.aq .nil 0 [],.aq .nil 0 [],.aq .nil 0 [],.aq .nil 0 []])) fun x9 bZ=>
 Do (aH bZ 10 x9 x8) fun cy=>
 Do (ab 5 x9) fun bc=>
 Do (J cy 2 true bc) fun bu=>
 Do (ab 1 x9) fun bN=>
 Do (J cy 1 false bN) fun bG=>
Φ K.f22 [bu,bG,(sl s1.1 0)] cy fun bg dv=>
 Do (ab 7 x9) fun bE=>
 Do (J dv 1 false bE) fun cI=>
 Do (ab 1 x9) fun cm=>
 Do (J dv 1 false cm) fun bO=>
Φ K.f23 [cI,bO,bg] dv fun aW gq=>
 Do (ab 0 x9) fun bA=>
 Do (J gq 1 false bA) fun dx=>
 Do (ai .geq dx (.int .i64 3)) fun cb=>
 aL cb true (
 Do (ab 0 x9) fun cK=>
 Do (J gq 1 false cK) fun dL=>
 Do (ai .leq dL (.int .i64 7)) fun cO=>
 ak (Qi Φ x9 aW s1 L2 Q) [cO] gq) (
 ak (Qi Φ x9 aW s1 L2 Q) [(.bool false)] gq) (
 False)) (
 Q (sl s1.1 0) s1.2)
def f7(Φ:aj)(a0 a1:AV)(H:AH)(Q:ae):Prop:=
 aB (Fa Φ a0 Q) ([a1,(.int .i64 0)],H)
noncomputable def agt:bm:=bI Go.Proofs.YtbjhdakiiedmcaaGreatDoor.rb.C ⟨7,[6],[[1,5]],none,[],[]⟩
theorem auQ(Φ:aj)(a0 a1:AV)(H:AH)(Q:ae):bM Φ agt [a0,a1] H Q=f7 Φ a0 a1 H Q:=by kernel_rfl
def Qj(Φ:aj)(a0:AV)(Q:ae):(List AV×AH)→((List AV×AH)→Prop)→Prop:=fun s2 L3=>
 Do (br false a0) fun x4=>
 Do (ai .lss (sl s2.1 1) x4) fun x5=>
 Gd x5 true (
 Do (bj none 10 a0 (sl s2.1 1)) fun x6=>
 Do (ab 5 x6) fun x7=>
 Do (J s2.2 2 true x7) fun x8=>
 Do (bj none 10 a0 (sl s2.1 1)) fun x9=>
 Do (ab 7 x9) fun bQ=>
 Do (J s2.2 1 false bQ) fun bH=>
 Do (bj none 10 a0 (sl s2.1 1)) fun bc=>
 Do (ab 8 bc) fun bu=>
 Do (J s2.2 1 false bu) fun bN=>
 Do (bj none 10 a0 (sl s2.1 1)) fun bG=>
 Do (ab 9 bG) fun bg=>
 Do (J s2.2 1 false bg) fun bV=>
Φ K.f24 [x8] s2.2 fun bE di=>
(J di 1 false bQ=some bH) ∧
(J di 1 false bu=some bN) ∧
(J di 1 false bg=some bV) ∧
(Φ K.f25 [bH] di fun cm fc=>
(J fc 1 false bu=some bN) ∧
(J fc 1 false bg=some bV) ∧
(Do (ai .add bE cm) fun aW=>
Φ K.f8 [bN] fc fun cf hZ=>
(J hZ 1 false bg=some bV) ∧
(Do (ai .add aW cf) fun cB=>
Φ K.f8 [bV] hZ fun b_ eT=>
 Do (ai .add cB b_) fun bA=>
 Do (ai .add (sl s2.1 0) bA) fun dx=>
 Do (ai .add (sl s2.1 1) (.int .i64 1)) fun cb=>
 L3 ([dx,cb],eT))))) (
 Q (sl s2.1 0) s2.2)
def f8(Φ:aj)(a0:AV)(H:AH)(Q:ae):Prop:=
 Do (br false a0) fun x1=>
 aB (Qj Φ a0 Q) ([x1,(.int .i64 0)],H)
noncomputable def agu:bm:=bI Go.Proofs.YtbjhdakiiedmcaaGreatDoor.rb.C ⟨8,[],[[3,4]],none,[],[]⟩
theorem auR(Φ:aj)(a0:AV)(H:AH)(Q:ae):bM Φ agu [a0] H Q=f8 Φ a0 H Q:=by kernel_rfl
def f9(Φ:aj)(a0 a1:AV)(H:AH)(Q:ae):Prop:=
 Do (ai .geq a0 (.int .i64 (-1))) fun x1=>
 aL x1 true (
 Do (ai .lss a0 a1) fun x2=>
 Q x2 H) (
 Q (.bool false) H) (
 False)
noncomputable def agv:bm:=bI Go.Proofs.YtbjhdakiiedmcaaGreatDoor.rb.C ⟨9,[],[],none,[],[]⟩
theorem auS(Φ:aj)(a0 a1:AV)(H:AH)(Q:ae):bM Φ agv [a0,a1] H Q=f9 Φ a0 a1 H Q:=by kernel_rfl
def adF(Φ:aj)(x3:AV)(Q:ae):List AV→AH→Prop:=fun rH eO=>
 Do (bJ [.int .i64 0,.int .i64 0] []) fun ia=>
 Do (aH eO 2 x3 ia) fun mV=>
 Do (J mV 2 true x3) fun gF=>
 Q gF mV
def NZ(Φ:aj)(x1 x3 cq df:AV)(Q:ae):(List AV×AH)→((List AV×AH)→Prop)→Prop:=fun DH L40=>
 Do (ai .lss (sl DH.1 0) df) fun ey=>
 Gd ey true (
 Do (bj none 1 cq (sl DH.1 0)) fun dH=>
 Do (J DH.2 1 false dH) fun dR=>
 Do (ab 0 x1) fun dY=>
 Do (J DH.2 1 false dY) fun dJ=>
 Do (bJ [.aq .nil 0 [],.aq .nil 0 [],.int .i64 0,.int .i64 0,.int .i64 0,.int .i64 0] [(0,1,dJ)]) fun dN=>
 aJ (bB DH.2 true 6 dN) fun dS mf=>
Φ K.f27 [dS,dR,(.int .i64 1)] mf fun e_ gB=>
Φ K.f28 [dS] gB fun dZ iQ=>
 Gd dZ true (
 Do (bR dS) fun bW=>
 Do (ab 4 bW) fun fY=>
 Do (J iQ 2 true fY) fun fZ=>
 Do (aH iQ 2 x3 fZ) fun qB=>
 Do (J qB 2 true x3) fun c_=>
 Q c_ qB) (
 Do (ai .add (sl DH.1 0) (.int .i64 1)) fun iu=>
 L40 ([iu],iQ))) (
 ak (adF Φ x3 Q) [] DH.2)
def Uv(Φ:aj)(x1 x3:AV)(Q:ae):List AV→AH→Prop:=fun j5 H6=>
 Do (ab 0 x1) fun b_=>
 Do (J H6 1 false b_) fun bS=>
Φ K.f26 [bS] H6 fun bA fy=>
 Do (ai .neq bA (.int .i64 0)) fun cb=>
 Gd cb true (
 Do (bJ [.int .i64 0,.int .i64 0] [(1,1,bA)]) fun cK=>
 Do (aH fy 2 x3 cK) fun dW=>
 Do (J dW 2 true x3) fun cO=>
 Q cO dW) (
 Do (ab 1 x1) fun dP=>
 Do (J fy 1 false dP) fun cq=>
 Do (br false cq) fun df=>
 aB (NZ Φ x1 x3 cq df Q) ([(.int .i64 0)],fy))
def NX(Φ:aj)(x1 x3:AV)(Q:ae):List AV→AH→Prop:=fun j7 H8=>
 Gd (sl j7 0) true (
 Do (bJ [.int .i64 0,.int .i64 0] [(1,1,(.int .i64 12))]) fun cf=>
 Do (aH H8 2 x3 cf) fun hZ=>
 Do (J hZ 2 true x3) fun cB=>
 Q cB hZ) (
 ak (Uv Φ x1 x3 Q) [] H8)
def NY(Φ:aj)(x1 x3:AV)(Q:ae):List AV→AH→Prop:=fun j9 bZ=>
 aL (sl j9 0) false (
 Do (ab 1 x1) fun cI=>
 Do (J bZ 1 false cI) fun cm=>
 Do (br false cm) fun bO=>
 Do (ai .gtr bO (.int .i64 8)) fun aW=>
 ak (NX Φ x1 x3 Q) [aW] bZ) (
 ak (NX Φ x1 x3 Q) [(.bool true)] bZ) (
 False)
def f10(Φ:aj)(a0:AV)(H:AH)(Q:ae):Prop:=
 aJ (bB H false 2 a0) fun x1 H2=>
 aJ (some (be H2 true [.int .i64 0,.int .i64 0])) fun x3 H4=>
 Do (ab 0 x1) fun bH=>
 Do (J H4 1 false bH) fun bc=>
 Do (br false bc) fun bu=>
 Do (ai .gtr bu (.int .i64 32)) fun bN=>
 aL bN false (
 Do (ab 1 x1) fun bG=>
 Do (J H4 1 false bG) fun bg=>
 Do (br false bg) fun bV=>
 Do (ai .lss bV (.int .i64 1)) fun bE=>
 ak (NY Φ x1 x3 Q) [bE] H4) (
 ak (NY Φ x1 x3 Q) [(.bool true)] H4) (
 False)
noncomputable def aeg:bm:=bI Go.Proofs.YtbjhdakiiedmcaaGreatDoor.rb.C ⟨10,[2,41],[[34]],none,[],[]⟩
theorem ar2(Φ:aj)(a0:AV)(H:AH)(Q:ae):bM Φ aeg [a0] H Q=f10 Φ a0 H Q:=by kernel_rfl
def adG(Φ:aj)(s4:List AV×AH)(L5:(List AV×AH)→Prop)(Q:ae):List AV→AH→Prop:=fun j7 H8=>
 Do (ai .add (sl s4.1 2) (.int .i64 1)) fun dG=>
 L5 ([(sl j7 0),(sl j7 1),dG],H8)
def N0(Φ:aj)(bH bE:AV)(s4:List AV×AH)(L5:(List AV×AH)→Prop)(Q:ae):List AV→AH→Prop:=fun wI eT=>
 Do (ab 0 bH) fun dx=>
 Do (J eT 1 false dx) fun cb=>
 Do (ai .add (.int .i64 65536) (sl wI 0)) fun cK=>
 Do (bJ [.int .i64 0,.int .i64 0] [(0,1,cK),(1,1,bE)]) fun dL=>
 Do (bJ [.str [],.int .i64 0,.int .i64 0] [(0,1,cb),(1,2,dL)]) fun cO=>
 aJ (fb eT false 3 1 [.str [],.int .i64 0,.int .i64 0] [(0,3,cO)]) fun dM eO=>
 aJ (eF eO false 3 32 (sl s4.1 0) dM) fun dP qA=>
 Do (ai .add (sl wI 0) bE) fun df=>
 ak (adG Φ s4 L5 Q) [dP,df] qA
def adH(Φ:aj)(Q:ae):List AV→AH→Prop:=fun j1 H2=>
 Do (ai .gtr (sl j1 1) (.int .i64 65536)) fun dC=>
 Gd dC true (
 Q (.aM [(.aq .nil 0 []),(.int .i64 0),(.int .i64 9)]) H2) (
 Q (.aM [(sl j1 0),(sl j1 1),(.int .i64 0)]) H2)
def Ia(Φ:aj)(a0 x3:AV)(Q:ae):(List AV×AH)→((List AV×AH)→Prop)→Prop:=fun s4 L5=>
 Do (ai .lss (sl s4.1 2) x3) fun x6=>
 Gd x6 true (
 Do (bj none 7 a0 (sl s4.1 2)) fun x9=>
 Do (J s4.2 7 true x9) fun bQ=>
 aJ (some (be s4.2 true [.str [],.int .i64 0,.int .i64 0,.bool false,.aq .nil 0 [],.int .i64 0,.aq .nil 0 []])) fun bH dQ=>
 Do (aH dQ 7 bH bQ) fun de=>
 Do (ab 1 bH) fun bN=>
 Do (J de 6 true bN) fun bG=>
Φ K.f29 [bG] de fun bg dv=>
 Do (db 0 bg) fun bE=>
 Do (db 1 bg) fun cI=>
 Do (db 2 bg) fun cm=>
 Do (ai .neq cm (.int .i64 0)) fun bO=>
 Gd bO true (
 Q (.aM [(.aq .nil 0 []),(.int .i64 0),cm]) dv) (
 Do (ai .add (sl s4.1 1) cI) fun aW=>
 Do (ai .sub aW (.int .i64 1)) fun cf=>
 Do (ai .quo cf cI) fun cw=>
 Do (ai .mul cw cI) fun cB=>
 Do (ai .gtr cB (.int .i64 65536)) fun bA=>
 Gd bA true (
 ak (N0 Φ bH bE s4 L5 Q) [(.int .i64 65537)] dv) (
 ak (N0 Φ bH bE s4 L5 Q) [cB] dv))) (
 ak (adH Φ Q) [(sl s4.1 0),(sl s4.1 1)] s4.2)
def f11(Φ:aj)(a0:AV)(H:AH)(Q:ae):Prop:=
 Do (br false a0) fun x3=>
 aB (Ia Φ a0 x3 Q) ([(.aq .nil 0 []),(.int .i64 0),(.int .i64 0)],H)
noncomputable def aeh:bm:=bI Go.Proofs.YtbjhdakiiedmcaaGreatDoor.rb.C ⟨11,[8],[[5,6,14]],none,[],[]⟩
theorem ar3(Φ:aj)(a0:AV)(H:AH)(Q:ae):bM Φ aeh [a0] H Q=f11 Φ a0 H Q:=by kernel_rfl
def adI(Φ:aj)(a0 x4:AV)(Q:ae):List AV→AH→Prop:=fun j5 H6=>
 Do (bR a0) fun cB=>
 Do (ab 7 cB) fun b_=>
 Do (J H6 1 false b_) fun bS=>
 Do (kO 2 bS none (some x4) none) fun bA=>
 Do (bR a0) fun dx=>
 Do (ab 7 dx) fun cb=>
 Do (aH H6 1 cb bA) fun gj=>
 Q (.aM []) gj
def N1(Φ:aj)(a0 a1 x4 x7:AV)(Q:ae):(List AV×AH)→((List AV×AH)→Prop)→Prop:=fun s8 L9=>
 Do (ai .lss (sl s8.1 0) x7) fun bQ=>
 Gd bQ true (
 Do (bj none 10 a1 (sl s8.1 0)) fun bH=>
 Do (J s8.2 10 true bH) fun bc=>
 aJ (some (be s8.2 true [.int .i64 0,.int .i64 0,.str [],.str [],.int .i64 0,.str [],.aq .nil 0 [],.aq .nil 0 [],.aq .nil 0 [],.aq .nil 0 []])) fun bu eN=>
 Do (aH eN 10 bu bc) fun eD=>
 Do (ab 1 bu) fun bg=>
 Do (J eD 1 false bg) fun bV=>
 Do (bR a0) fun bE=>
 Do (ab 6 bE) fun cI=>
 Do (aH eD 1 cI bV) fun fH=>
 Do (J fH 10 true bu) fun bO=>
Φ K.f30 [a0,bO] fH fun aW gq=>
 Do (ai .add (sl s8.1 0) (.int .i64 1)) fun cw=>
 L9 ([cw],gq)) (
 ak (adI Φ a0 x4 Q) [] s8.2)
def f12(Φ:aj)(a0 a1:AV)(H:AH)(Q:ae):Prop:=
 Do (bR a0) fun x1=>
 Do (ab 7 x1) fun x2=>
 Do (J H 1 false x2) fun x3=>
 Do (br false x3) fun x4=>
 Do (br false a1) fun x7=>
 aB (N1 Φ a0 a1 x4 x7 Q) ([(.int .i64 0)],H)
noncomputable def aei:bm:=bI Go.Proofs.YtbjhdakiiedmcaaGreatDoor.rb.C ⟨12,[6],[[14]],none,[],[]⟩
theorem ar4(Φ:aj)(a0 a1:AV)(H:AH)(Q:ae):bM Φ aei [a0,a1] H Q=f12 Φ a0 a1 H Q:=by kernel_rfl
def adJ(Φ:aj)(s9:List AV×AH)(pG:(List AV×AH)→Prop)(Q:ae):List AV→AH→Prop:=fun j13 eN=>
 Do (ai .add (sl s9.1 0) (.int .i64 1)) fun bS=>
 pG ([bS],eN)
def BU(Φ:aj)(s9:List AV×AH)(pG:(List AV×AH)→Prop)(Q:ae):List AV→AH→Prop:=fun yp fc=>
 Gd (sl yp 0) true (
 Q (.bool false) fc) (
 ak (adJ Φ s9 pG Q) [] fc)
def N2(Φ:aj)(bG:AV)(s9:List AV×AH)(pG:(List AV×AH)→Prop)(Q:ae):List AV→AH→Prop:=fun RN dv=>
 Do (eB .not (sl RN 0)) fun aW=>
 aL aW true (
 Do (ai .eql (sl s9.1 0) (.int .i64 0)) fun cf=>
 aL cf false (
 Do (ai .neq bG (.int .u8 95)) fun cw=>
 aL cw true (
 Do (ai .lss bG (.int .u8 48)) fun cB=>
 aL cB false (
 Do (ai .gtr bG (.int .u8 57)) fun b_=>
 ak (BU Φ s9 pG Q) [b_] dv) (
 ak (BU Φ s9 pG Q) [(.bool true)] dv) (
 False)) (
 ak (BU Φ s9 pG Q) [(.bool false)] dv) (
 False)) (
 ak (BU Φ s9 pG Q) [(.bool true)] dv) (
 False)) (
 ak (BU Φ s9 pG Q) [(.bool false)] dv) (
 False)
def Et(Φ:aj)(a0:AV)(Q:ae):(List AV×AH)→((List AV×AH)→Prop)→Prop:=fun s9 pG=>
 Do (br true a0) fun bH=>
 Do (ai .lss (sl s9.1 0) bH) fun bc=>
 Gd bc true (
 Do (oz a0 (sl s9.1 0)) fun bG=>
 Do (ai .geq bG (.int .u8 97)) fun bE=>
 aL bE true (
 Do (ai .leq bG (.int .u8 122)) fun cI=>
 ak (N2 Φ bG s9 pG Q) [cI] s9.2) (
 ak (N2 Φ bG s9 pG Q) [(.bool false)] s9.2) (
 False)) (
 Q (.bool true) s9.2)
def Uw(Φ:aj)(a0:AV)(Q:ae):List AV→AH→Prop:=fun j1 H2=>
 aB (Et Φ a0 Q) ([(.int .i64 0)],H2)
def N3(Φ:aj)(a0:AV)(Q:ae):List AV→AH→Prop:=fun j3 H4=>
 Gd (sl j3 0) true (
 Q (.bool false) H4) (
 ak (Uw Φ a0 Q) [] H4)
def f13(Φ:aj)(a0:AV)(H:AH)(Q:ae):Prop:=
 Do (br true a0) fun x5=>
 Do (ai .eql x5 (.int .i64 0)) fun x6=>
 aL x6 false (
 Do (br true a0) fun x7=>
 Do (ai .gtr x7 (.int .i64 16)) fun x8=>
 ak (N3 Φ a0 Q) [x8] H) (
 ak (N3 Φ a0 Q) [(.bool true)] H) (
 False)
noncomputable def aej:bm:=bI Go.Proofs.YtbjhdakiiedmcaaGreatDoor.rb.C ⟨13,[],[[3]],none,[],[]⟩
theorem ar5(Φ:aj)(a0:AV)(H:AH)(Q:ae):bM Φ aej [a0] H Q=f13 Φ a0 H Q:=by kernel_rfl
def N4(Φ:aj)(a0 x1:AV)(Q:ae):(List AV×AH)→((List AV×AH)→Prop)→Prop:=fun s3 L4=>
 Do (br false x1) fun x5=>
 Do (ai .lss (sl s3.1 0) x5) fun x6=>
 Gd x6 true (
 Do (bj none 1 x1 (sl s3.1 0)) fun x7=>
 Do (J s3.2 1 false x7) fun x8=>
 Do (ai .eql x8 a0) fun x9=>
 Gd x9 true (
 Q (.bool true) s3.2) (
 Do (ai .add (sl s3.1 0) (.int .i64 1)) fun bQ=>
 L4 ([bQ],s3.2))) (
 Q (.bool false) s3.2)
def f14(Φ:aj)(a0:AV)(H:AH)(Q:ae):Prop:=
Φ K.f31 [] H fun x1 H2=>
 aB (N4 Φ a0 x1 Q) ([(.int .i64 0)],H2)
noncomputable def aek:bm:=bI Go.Proofs.YtbjhdakiiedmcaaGreatDoor.rb.C ⟨14,[],[[4]],none,[],[]⟩
theorem ar6(Φ:aj)(a0:AV)(H:AH)(Q:ae):bM Φ aek [a0] H Q=f14 Φ a0 H Q:=by kernel_rfl
def Ib(Φ:aj)(j6:List AV)(Q:ae):List AV→AH→Prop:=fun zM eD=>
 Gd (sl zM 0) true (
 Q (.int .i64 9) eD) (
 Q (sl j6 0) eD)
def Ic(Φ:aj)(x1:AV)(Q:ae):List AV→AH→Prop:=fun j6 H7=>
 Do (ai .eql (sl j6 0) (.int .i64 0)) fun bg=>
 aL bg true (
 Do (J H7 6 true x1) fun bV=>
Φ K.f34 [bV] H7 fun bE di=>
 Do (yD 4 1 false bE) fun cm=>
 ak (Ib Φ j6 Q) [cm] di) (
 ak (Ib Φ j6 Q) [(.bool false)] H7) (
 False)
def N5(Φ:aj)(x1 x4:AV)(Q:ae):List AV→AH→Prop:=fun j8 H9=>
 Gd (sl j8 0) true (
 ak (Ic Φ x1 Q) [(.int .i64 10)] H9) (
 ak (Ic Φ x1 Q) [x4] H9)
def f15(Φ:aj)(a0:AV)(H:AH)(Q:ae):Prop:=
 aJ (bB H false 6 a0) fun x1 H2=>
 Do (J H2 6 true x1) fun x3=>
Φ K.f32 [x3] H2 fun x4 H5=>
 Do (ai .eql x4 (.int .i64 0)) fun bQ=>
 aL bQ true (
 Do (J H5 6 true x1) fun bH=>
Φ K.f33 [bH] H5 fun bc de=>
 ak (N5 Φ x1 x4 Q) [bc] de) (
 ak (N5 Φ x1 x4 Q) [(.bool false)] H5) (
 False)
noncomputable def ael:bm:=bI Go.Proofs.YtbjhdakiiedmcaaGreatDoor.rb.C ⟨15,[],[],none,[],[]⟩
theorem ar7(Φ:aj)(a0:AV)(H:AH)(Q:ae):bM Φ ael [a0] H Q=f15 Φ a0 H Q:=by kernel_rfl
def adK(Φ:aj)(pZ:List AV×AH)(C3:(List AV×AH)→Prop)(Q:ae):List AV→AH→Prop:=fun yp fc=>
 Do (ai .add (sl pZ.1 2) (.int .i64 1)) fun fZ=>
 C3 ([(sl yp 0),(sl yp 1),fZ],fc)
def Ux(Φ:aj)(a0 bS:AV)(pZ:List AV×AH)(C3:(List AV×AH)→Prop)(Q:ae):List AV→AH→Prop:=fun RP gj=>
 Do (bj none 7 a0 (sl pZ.1 2)) fun dG=>
 Do (ab 0 dG) fun dC=>
 Do (J gj 1 false dC) fun ey=>
 Do (ai .add (.int .i64 65536) (sl RP 0)) fun dH=>
 Do (ab 0 bS) fun dR=>
 Do (J gj 1 false dR) fun dY=>
 Do (bJ [.int .i64 0,.int .i64 0] [(0,1,dH),(1,1,dY)]) fun dJ=>
 Do (bJ [.str [],.int .i64 0,.int .i64 0] [(0,1,ey),(1,2,dJ)]) fun dN=>
 aJ (fb gj false 3 1 [.str [],.int .i64 0,.int .i64 0] [(0,3,dN)]) fun dS mf=>
 aJ (eF mf false 3 32 (sl pZ.1 0) dS) fun e_ gB=>
 Do (ab 0 bS) fun dZ=>
 Do (J gB 1 false dZ) fun fa=>
 Do (ai .add (sl RP 0) fa) fun bW=>
 Do (ai .gtr bW (.int .i64 65536)) fun fY=>
 Gd fY true (
 Q (.aM [(.aq .nil 0 []),(.int .i64 0),(.int .i64 9)]) gB) (
 ak (adK Φ pZ C3 Q) [e_,bW] gB)
def N6(Φ:aj)(a0 bS:AV)(pZ:List AV×AH)(C3:(List AV×AH)→Prop)(Q:ae):(List AV×AH)→((List AV×AH)→Prop)→Prop:=fun GY L33=>
 Do (ab 1 bS) fun dM=>
 Do (J GY.2 1 false dM) fun eW=>
 Do (ai .rem (sl GY.1 0) eW) fun dP=>
 Do (ai .neq dP (.int .i64 0)) fun cq=>
 Gd cq true (
 Do (ai .add (sl GY.1 0) (.int .i64 1)) fun df=>
 L33 ([df],GY.2)) (
 ak (Ux Φ a0 bS pZ C3 Q) [(sl GY.1 0)] GY.2)
def adL(Φ:aj)(Q:ae):List AV→AH→Prop:=fun zM eD=>
 Q (.aM [(sl zM 0),(sl zM 1),(.int .i64 0)]) eD
def Eu(Φ:aj)(a0:AV)(Q:ae):(List AV×AH)→((List AV×AH)→Prop)→Prop:=fun pZ C3=>
 Do (br false a0) fun bE=>
 Do (ai .lss (sl pZ.1 2) bE) fun cI=>
 Gd cI true (
 Do (bj none 7 a0 (sl pZ.1 2)) fun aW=>
 Do (ab 1 aW) fun cf=>
 Do (J pZ.2 6 true cf) fun cw=>
Φ K.f34 [cw] pZ.2 fun cB nR=>
 aJ (some (be nR true [.int .i64 0,.int .i64 0,.aq .nil 0 [],.aq .nil 0 [],.bool false])) fun bS iA=>
 Do (aH iA 5 bS cB) fun fy=>
 aB (N6 Φ a0 bS pZ C3 Q) ([(sl pZ.1 1)],fy)) (
 ak (adL Φ Q) [(sl pZ.1 0),(sl pZ.1 1)] pZ.2)
def adM(Φ:aj)(a0:AV)(Q:ae):List AV→AH→Prop:=fun j1 H2=>
 aB (Eu Φ a0 Q) ([(.aq .nil 0 []),(.int .i64 0),(.int .i64 0)],H2)
def N7(Φ:aj)(a0:AV)(Q:ae):(List AV×AH)→((List AV×AH)→Prop)→Prop:=fun s3 L4=>
 Do (br false a0) fun x5=>
 Do (ai .lss (sl s3.1 0) x5) fun x6=>
 Gd x6 true (
 Do (bj none 7 a0 (sl s3.1 0)) fun x7=>
 Do (ab 1 x7) fun x8=>
 Do (J s3.2 6 true x8) fun x9=>
Φ K.f15 [x9] s3.2 fun bQ cy=>
 Do (ai .neq bQ (.int .i64 0)) fun bc=>
 Gd bc true (
 Q (.aM [(.aq .nil 0 []),(.int .i64 0),bQ]) cy) (
 Do (ai .add (sl s3.1 0) (.int .i64 1)) fun bu=>
 L4 ([bu],cy))) (
 ak (adM Φ a0 Q) [] s3.2)
def f16(Φ:aj)(a0:AV)(H:AH)(Q:ae):Prop:=
 aB (N7 Φ a0 Q) ([(.int .i64 0)],H)
noncomputable def aem:bm:=bI Go.Proofs.YtbjhdakiiedmcaaGreatDoor.rb.C ⟨16,[10],[[6],[5,8,9],[8]],none,[],[]⟩
theorem ar8(Φ:aj)(a0:AV)(H:AH)(Q:ae):bM Φ aem [a0] H Q=f16 Φ a0 H Q:=by kernel_rfl
def Uy(Φ:aj)(s5:List AV×AH)(L6:(List AV×AH)→Prop)(Q:ae):List AV→AH→Prop:=fun zN di=>
 Do (ai .add (sl s5.1 1) (.int .i64 1)) fun J3=>
 L6 ([(sl zN 0),J3],di)
def N8(Φ:aj)(a0 a3 aW:AV)(s5:List AV×AH)(L6:(List AV×AH)→Prop)(zQ:List AV)(Q:ae):List AV→AH→Prop:=fun ahr Az=>
 Do (ab 8 aW) fun xM=>
 Do (J Az 1 false xM) fun zd=>
 Do (ai .add a3 (.int .i64 1)) fun J1=>
Φ K.f17 [a0,zd,(sl zQ 0),J1] Az fun AN yS=>
 Do (ab 9 aW) fun ze=>
 Do (J yS 1 false ze) fun J2=>
 Do (ai .add a3 (.int .i64 1)) fun CM=>
Φ K.f17 [a0,J2,(sl zQ 0),CM] yS fun ahI awc=>
 ak (Uy Φ s5 L6 Q) [(sl zQ 0)] awc
def N9(Φ:aj)(a0 a3 aW:AV)(s5:List AV×AH)(L6:(List AV×AH)→Prop)(Q:ae):List AV→AH→Prop:=fun zQ rA=>
 Do (ab 0 aW) fun tv=>
 Do (J rA 1 false tv) fun qz=>
 Do (ai .eql qz (.int .i64 5)) fun vT=>
 Gd vT true (
 Do (ab 2 aW) fun mU=>
 Do (J rA 1 false mU) fun xH=>
Φ K.f38 [(sl zQ 0),xH] rA fun sf Jq=>
Φ K.f35 [a0,sf,(.int .i64 6)] Jq fun rz Co=>
 Do (ab 3 aW) fun xI=>
 Do (J Co 1 false xI) fun vV=>
Φ K.f38 [(sl zQ 0),vV] Co fun tx Js=>
Φ K.f35 [a0,tx,(.int .i64 6)] Js fun xJ Jt=>
 Do (ab 2 aW) fun zc=>
 Do (J Jt 1 false zc) fun tz=>
 Do (ab 3 aW) fun vW=>
 Do (J Jt 1 false vW) fun tA=>
 Do (ai .neq tz tA) fun xL=>
Φ K.f35 [a0,xL,(.int .i64 7)] Jt fun fK AA=>
 ak (N8 Φ a0 a3 aW s5 L6 zQ Q) [] AA) (
 ak (N8 Φ a0 a3 aW s5 L6 zQ Q) [] rA)
def Ev(Φ:aj)(a0 a3 aW:AV)(s5:List AV×AH)(L6:(List AV×AH)→Prop)(Q:ae):List AV→AH→Prop:=fun j55 qB=>
 Do (ab 7 aW) fun rN=>
 Do (J qB 1 false rN) fun uh=>
Φ K.f40 [a0,uh,(sl s5.1 0),a3] qB fun oo v_=>
 Do (ab 0 aW) fun oT=>
 Do (J v_ 1 false oT) fun uj=>
 Do (ai .eql uj (.int .i64 1)) fun km=>
 Gd km true (
 Do (ab 2 aW) fun uk=>
 Do (J v_ 1 false uk) fun sO=>
 aJ (fb v_ false 1 1 [.str []] [(0,1,sO)]) fun um AP=>
 aJ (eF AP false 1 16 (sl s5.1 0) um) fun sQ agH=>
 Do (bR a0) fun tr=>
 Do (ab 1 tr) fun rv=>
 Do (J agH 1 false rv) fun sd=>
 Do (ai .add sd (.int .i64 1)) fun xG=>
 Do (bR a0) fun vQ=>
 Do (ab 1 vQ) fun se=>
 Do (aH agH 1 se xG) fun Jn=>
 ak (N9 Φ a0 a3 aW s5 L6 Q) [sQ] Jn) (
 ak (N9 Φ a0 a3 aW s5 L6 Q) [(sl s5.1 0)] v_)
def N_(Φ:aj)(a0 a3 aW:AV)(s5:List AV×AH)(L6:(List AV×AH)→Prop)(Q:ae):List AV→AH→Prop:=fun GF sj=>
 Do (ab 2 aW) fun ji=>
 Do (J sj 1 false ji) fun eJ=>
Φ K.f38 [(sl s5.1 0),eJ] sj fun jP zj=>
 Do (eB .not jP) fun m5=>
Φ K.f35 [a0,m5,(.int .i64 7)] zj fun kF sk=>
 Do (bR a0) fun mJ=>
 Do (ab 1 mJ) fun gx=>
 Do (J sk 1 false gx) fun wN=>
 Do (ai .lss wN (.int .i64 40)) fun oS=>
Φ K.f35 [a0,oS,(.int .i64 12)] sk fun nJ H85=>
 ak (Ev Φ a0 a3 aW s5 L6 Q) [] H85
def Oa(Φ:aj)(a0 a3 aW:AV)(s5:List AV×AH)(L6:(List AV×AH)→Prop)(Q:ae):List AV→AH→Prop:=fun axF Ct=>
 Gd (sl axF 0) true (
 Do (ab 0 aW) fun J5=>
 Do (J Ct 1 false J5) fun CY=>
 Do (ab 5 aW) fun J6=>
 Do (J Ct 2 true J6) fun J7=>
Φ K.f39 [a0,CY,J7,(sl s5.1 0),a3] Ct fun Q4 awh=>
 ak (Ev Φ a0 a3 aW s5 L6 Q) [] awh) (
 ak (Ev Φ a0 a3 aW s5 L6 Q) [] Ct)
def adN(Φ:aj)(a0 a3 aW:AV)(s5:List AV×AH)(L6:(List AV×AH)→Prop)(Q:ae):List AV→AH→Prop:=fun RP gj=>
 Do (ab 0 aW) fun c_=>
 Do (J gj 1 false c_) fun iu=>
 Do (ai .eql iu (.int .i64 1)) fun ia=>
 Gd ia true (
 Do (ab 2 aW) fun iV=>
 Do (J gj 1 false iV) fun iv=>
Φ K.f13 [iv] gj fun iM pF=>
 aL iM true (
 Do (ab 2 aW) fun jC=>
 Do (J pF 1 false jC) fun iG=>
Φ K.f14 [iG] pF fun ja Xw=>
 Do (eB .not ja) fun jO=>
Φ K.f35 [a0,jO,(.int .i64 6)] Xw fun jh vY=>
 ak (N_ Φ a0 a3 aW s5 L6 Q) [] vY) (
Φ K.f35 [a0,(.bool false),(.int .i64 6)] pF fun mC awd=>
 ak (N_ Φ a0 a3 aW s5 L6 Q) [] awd) (
 False)) (
 Do (ab 0 aW) fun CO=>
 Do (J gj 1 false CO) fun CP=>
 Do (ai .eql CP (.int .i64 2)) fun CQ=>
 Gd CQ true (
 Do (ab 2 aW) fun zf=>
 Do (J gj 1 false zf) fun W2=>
Φ K.f38 [(sl s5.1 0),W2] gj fun ayg re=>
Φ K.f35 [a0,ayg,(.int .i64 6)] re fun F1 QG=>
 ak (Ev Φ a0 a3 aW s5 L6 Q) [] QG) (
 Do (ab 0 aW) fun CS=>
 Do (J gj 1 false CS) fun CT=>
 Do (ai .geq CT (.int .i64 3)) fun CU=>
 aL CU true (
 Do (ab 0 aW) fun CV=>
 Do (J gj 1 false CV) fun CW=>
 Do (ai .leq CW (.int .i64 6)) fun CX=>
 ak (Oa Φ a0 a3 aW s5 L6 Q) [CX] gj) (
 ak (Oa Φ a0 a3 aW s5 L6 Q) [(.bool false)] gj) (
 False)))
def Ie(Φ:aj)(a0 a3 aW:AV)(s5:List AV×AH)(L6:(List AV×AH)→Prop)(Q:ae):List AV→AH→Prop:=fun j32 jd=>
 Gd (sl j32 0) true (
 Q (.aM []) jd) (
 ak (adN Φ a0 a3 aW s5 L6 Q) [] jd)
def Ob(Φ:aj)(a0 a3 aW:AV)(s5:List AV×AH)(L6:(List AV×AH)→Prop)(Q:ae):List AV→AH→Prop:=fun rH eO=>
 aL (sl rH 0) false (
 Do (ab 0 aW) fun dN=>
 Do (J eO 1 false dN) fun dS=>
 Do (ab 4 aW) fun eE=>
 Do (J eO 1 false eE) fun e_=>
Φ K.f37 [dS,e_] eO fun gE vX=>
Φ K.f35 [a0,gE,(.int .i64 11)] vX fun fa kX=>
 Do (eB .not fa) fun fY=>
 ak (Ie Φ a0 a3 aW s5 L6 Q) [fY] kX) (
 ak (Ie Φ a0 a3 aW s5 L6 Q) [(.bool true)] eO) (
 False)
def ab1(Φ:aj)(a0 a1 a3:AV)(s5:List AV×AH)(L6:(List AV×AH)→Prop)(Q:ae):List AV→AH→Prop:=fun j7 H8=>
 Do (bj none 10 a1 (sl s5.1 1)) fun cm=>
 Do (J H8 10 true cm) fun bO=>
 aJ (some (be H8 true [.int .i64 0,.int .i64 0,.str [],.str [],.int .i64 0,.str [],.aq .nil 0 [],.aq .nil 0 [],.aq .nil 0 [],.aq .nil 0 []])) fun aW gq=>
 Do (aH gq 10 aW bO) fun hZ=>
 Do (ab 1 aW) fun cB=>
 Do (J hZ 1 false cB) fun b_=>
 Do (bR a0) fun bS=>
 Do (ab 2 bS) fun bA=>
 Do (aH hZ 1 bA b_) fun fy=>
 Do (ai .leq a3 (.int .i64 64)) fun dP=>
Φ K.f35 [a0,dP,(.int .i64 5)] fy fun cq kB=>
 Do (eB .not cq) fun dG=>
 aL dG false (
 Do (J kB 10 true aW) fun dC=>
Φ K.f36 [dC] kB fun ey jJ=>
Φ K.f35 [a0,ey,(.int .i64 4)] jJ fun dR me=>
 Do (eB .not dR) fun dJ=>
 ak (Ob Φ a0 a3 aW s5 L6 Q) [dJ] me) (
 ak (Ob Φ a0 a3 aW s5 L6 Q) [(.bool true)] kB) (
 False)
def Nh(Φ:aj)(a0 a1 a3:AV)(s5:List AV×AH)(L6:(List AV×AH)→Prop)(Q:ae):List AV→AH→Prop:=fun j9 bZ=>
 Gd (sl j9 0) true (
 ak (ab1 Φ a0 a1 a3 s5 L6 Q) [] bZ) (
 Q (.aM []) bZ)
def yA(Φ:aj)(a0 a1 a3:AV)(Q:ae):(List AV×AH)→((List AV×AH)→Prop)→Prop:=fun s5 L6=>
 Do (br false a1) fun bH=>
 Do (ai .lss (sl s5.1 1) bH) fun bc=>
 aL bc true (
 Do (bR a0) fun bu=>
 Do (ab 3 bu) fun bN=>
 Do (ab 1 bN) fun bG=>
 Do (J s5.2 1 false bG) fun bg=>
 Do (ai .eql bg (.int .i64 0)) fun bV=>
 ak (Nh Φ a0 a1 a3 s5 L6 Q) [bV] s5.2) (
 ak (Nh Φ a0 a1 a3 s5 L6 Q) [(.bool false)] s5.2) (
 False)
def f17(Φ:aj)(a0 a1 a2 a3:AV)(H:AH)(Q:ae):Prop:=
 aJ (fb H false 1 0 [.str []] []) fun x1 H2=>
 aJ (eF H2 false 1 16 x1 a2) fun x3 H4=>
 aB (yA Φ a0 a1 a3 Q) ([x3,(.int .i64 0)],H4)
noncomputable def aen:bm:=bI Go.Proofs.YtbjhdakiiedmcaaGreatDoor.rb.C ⟨17,[10],[[8,9]],none,[],[]⟩
theorem ar9(Φ:aj)(a0 a1 a2 a3:AV)(H:AH)(Q:ae):bM Φ aen [a0,a1,a2,a3] H Q=f17 Φ a0 a1 a2 a3 H Q:=by kernel_rfl
def Oc(Φ:aj)(a1 x1:AV)(Q:ae):(List AV×AH)→((List AV×AH)→Prop)→Prop:=fun s3 L4=>
 Do (ab 1 x1) fun x5=>
 Do (J s3.2 1 false x5) fun x6=>
 Do (br false x6) fun x7=>
 Do (ai .lss (sl s3.1 1) x7) fun x8=>
 Gd x8 true (
 Do (ab 1 x1) fun x9=>
 Do (J s3.2 1 false x9) fun bQ=>
 Do (bj none 2 bQ (sl s3.1 1)) fun bH=>
 Do (ab 1 bH) fun bc=>
 Do (J s3.2 1 false bc) fun bu=>
Φ K.f23 [bu,a1,(sl s3.1 0)] s3.2 fun bN eD=>
 Do (ai .add (sl s3.1 1) (.int .i64 1)) fun bg=>
 L4 ([bN,bg],eD)) (
 Q (sl s3.1 0) s3.2)
def f22(Φ:aj)(a0 a1 a2:AV)(H:AH)(Q:ae):Prop:=
 aJ (bB H false 2 a0) fun x1 H2=>
 aB (Oc Φ a1 x1 Q) ([a2,(.int .i64 0)],H2)
noncomputable def aeo:bm:=bI Go.Proofs.YtbjhdakiiedmcaaGreatDoor.rb.C ⟨22,[],[[2,7]],none,[],[]⟩
theorem ar_(Φ:aj)(a0 a1 a2:AV)(H:AH)(Q:ae):bM Φ aeo [a0,a1,a2] H Q=f22 Φ a0 a1 a2 H Q:=by kernel_rfl
def Od(Φ:aj)(s1:List AV×AH)(L2:(List AV×AH)→Prop)(Q:ae):List AV→AH→Prop:=fun j5 H6=>
 Do (ai .add (sl s1.1 1) (.int .i64 1)) fun eW=>
 L2 ([(sl j5 0),eW],H6)
def Oe(Φ:aj)(a0 a1:AV)(Q:ae):(List AV×AH)→((List AV×AH)→Prop)→Prop:=fun s1 L2=>
 Do (br false a0) fun x3=>
 Do (ai .lss (sl s1.1 1) x3) fun x4=>
 Gd x4 true (
 Do (bj none 8 a0 (sl s1.1 1)) fun x7=>
 Do (J s1.2 8 true x7) fun x8=>
 aJ (some (be s1.2 true [.int .i64 0,.int .u64 0,.str [],.int .i64 0,.int .i64 0,.str [],.aq .nil 0 [],.aq .nil 0 []])) fun x9 bZ=>
 Do (aH bZ 8 x9 x8) fun cy=>
 Do (ab 5 x9) fun bc=>
 Do (J cy 2 true bc) fun bu=>
Φ K.f22 [bu,a1,(sl s1.1 0)] cy fun bN eD=>
 Do (ab 7 x9) fun bg=>
 Do (J eD 1 false bg) fun bV=>
Φ K.f23 [bV,a1,bN] eD fun bE di=>
 Do (ab 0 x9) fun cm=>
 Do (J di 1 false cm) fun bO=>
 Do (ai .geq bO (.int .i64 4)) fun aW=>
 Gd aW true (
 Do (ab 0 x9) fun cf=>
 Do (J di 1 false cf) fun cw=>
 Do (ai .add (.int .i64 10) cw) fun cB=>
 Do (ab 4 x9) fun b_=>
 Do (J di 1 false b_) fun bS=>
 Do (ab 5 x9) fun bA=>
 Do (J di 2 true bA) fun dx=>
 Do (bJ [.int .i64 0,.int .i64 0,.int .i64 0,.str [],.aq .nil 0 []] [(0,1,cB),(1,1,bS),(2,1,a1),(3,2,dx)]) fun cb=>
 aJ (fb di false 5 1 [.int .i64 0,.int .i64 0,.int .i64 0,.str [],.aq .nil 0 []] [(0,5,cb)]) fun cK dW=>
 aJ (eF dW false 5 64 bE cK) fun cO lI=>
 ak (Od Φ s1 L2 Q) [cO] lI) (
 ak (Od Φ s1 L2 Q) [bE] di)) (
 Q (sl s1.1 0) s1.2)
def f23(Φ:aj)(a0 a1 a2:AV)(H:AH)(Q:ae):Prop:=
 aB (Oe Φ a0 a1 Q) ([a2,(.int .i64 0)],H)
noncomputable def aep:bm:=bI Go.Proofs.YtbjhdakiiedmcaaGreatDoor.rb.C ⟨23,[8],[[2,7]],none,[],[]⟩
theorem asa(Φ:aj)(a0 a1 a2:AV)(H:AH)(Q:ae):bM Φ aep [a0,a1,a2] H Q=f23 Φ a0 a1 a2 H Q:=by kernel_rfl
def Of(Φ:aj)(x1:AV)(Q:ae):(List AV×AH)→((List AV×AH)→Prop)→Prop:=fun s3 L4=>
 Do (ab 1 x1) fun x5=>
 Do (J s3.2 1 false x5) fun x6=>
 Do (br false x6) fun x7=>
 Do (ai .lss (sl s3.1 1) x7) fun x8=>
 Gd x8 true (
 Do (ab 1 x1) fun x9=>
 Do (J s3.2 1 false x9) fun bQ=>
 Do (bj none 2 bQ (sl s3.1 1)) fun bH=>
 Do (ab 1 bH) fun bc=>
 Do (J s3.2 1 false bc) fun bu=>
Φ K.f25 [bu] s3.2 fun bN eD=>
 Do (ai .add (sl s3.1 0) bN) fun bg=>
 Do (ai .add (sl s3.1 1) (.int .i64 1)) fun bV=>
 L4 ([bg,bV],eD)) (
 Q (sl s3.1 0) s3.2)
def f24(Φ:aj)(a0:AV)(H:AH)(Q:ae):Prop:=
 aJ (bB H false 2 a0) fun x1 H2=>
 aB (Of Φ x1 Q) ([(.int .i64 0),(.int .i64 0)],H2)
noncomputable def aeq:bm:=bI Go.Proofs.YtbjhdakiiedmcaaGreatDoor.rb.C ⟨24,[],[[3,4]],none,[],[]⟩
theorem asb(Φ:aj)(a0:AV)(H:AH)(Q:ae):bM Φ aeq [a0] H Q=f24 Φ a0 H Q:=by kernel_rfl
def Og(Φ:aj)(a0:AV)(Q:ae):(List AV×AH)→((List AV×AH)→Prop)→Prop:=fun s2 L3=>
 Do (br false a0) fun x4=>
 Do (ai .lss (sl s2.1 1) x4) fun x5=>
 Gd x5 true (
 Do (bj none 8 a0 (sl s2.1 1)) fun x6=>
 Do (ab 5 x6) fun x7=>
 Do (J s2.2 2 true x7) fun x8=>
 Do (bj none 8 a0 (sl s2.1 1)) fun x9=>
 Do (ab 7 x9) fun bQ=>
 Do (J s2.2 1 false bQ) fun bH=>
Φ K.f24 [x8] s2.2 fun bc de=>
(J de 1 false bQ=some bH) ∧
(Φ K.f25 [bH] de fun bN eD=>
 Do (ai .add bc bN) fun bg=>
 Do (ai .add (sl s2.1 0) bg) fun bV=>
 Do (ai .add (sl s2.1 1) (.int .i64 1)) fun bE=>
 L3 ([bV,bE],eD))) (
 Q (sl s2.1 0) s2.2)
def f25(Φ:aj)(a0:AV)(H:AH)(Q:ae):Prop:=
 Do (br false a0) fun x1=>
 aB (Og Φ a0 Q) ([x1,(.int .i64 0)],H)
noncomputable def aer:bm:=bI Go.Proofs.YtbjhdakiiedmcaaGreatDoor.rb.C ⟨25,[],[[3,4]],none,[],[]⟩
theorem asc(Φ:aj)(a0:AV)(H:AH)(Q:ae):bM Φ aer [a0] H Q=f25 Φ a0 H Q:=by kernel_rfl
def adO(Φ:aj)(s6:List AV×AH)(L7:(List AV×AH)→Prop)(Q:ae):List AV→AH→Prop:=fun j9 bZ=>
 Do (ai .add (sl s6.1 1) (.int .i64 1)) fun dJ=>
 L7 ([(sl j9 0),dJ],bZ)
def Uz(Φ:aj)(bu:AV)(s6:List AV×AH)(L7:(List AV×AH)→Prop)(Q:ae):List AV→AH→Prop:=fun RN dv=>
 Do (ab 1 bu) fun dL=>
 Do (J dv 6 true dL) fun cO=>
Φ K.f29 [cO] dv fun dM eO=>
 Do (db 0 dM) fun dP=>
 Do (db 1 dM) fun cq=>
 Do (db 2 dM) fun df=>
 Do (ai .neq df (.int .i64 0)) fun dG=>
 Gd dG true (
 Q df eO) (
 Do (ai .add (sl s6.1 0) cq) fun dC=>
 Do (ai .sub dC (.int .i64 1)) fun ey=>
 Do (ai .quo ey cq) fun dH=>
 Do (ai .mul dH cq) fun dR=>
 Do (ai .add dR dP) fun dY=>
 ak (adO Φ s6 L7 Q) [dY] eO)
def Oh(Φ:aj)(a0 bu:AV)(s6:List AV×AH)(L7:(List AV×AH)→Prop)(Q:ae):List AV→AH→Prop:=fun zN di=>
 Gd (sl zN 0) true (
 Q (.int .i64 6) di) (
 Do (kO 7 a0 none (some (sl s6.1 1)) none) fun dx=>
Φ K.f43 [dx,(.fn K.f44 [bu])] di fun cb gj=>
 Gd cb true (
 Q (.int .i64 7) gj) (
 ak (Uz Φ bu s6 L7 Q) [] gj))
def adP(Φ:aj)(Q:ae):List AV→AH→Prop:=fun j3 H4=>
 Do (ai .gtr (sl j3 0) (.int .i64 65536)) fun dN=>
 Gd dN true (
 Q (.int .i64 9) H4) (
 Q (.int .i64 0) H4)
def Ew(Φ:aj)(a0 x5:AV)(Q:ae):(List AV×AH)→((List AV×AH)→Prop)→Prop:=fun s6 L7=>
 Do (ai .lss (sl s6.1 1) x5) fun x8=>
 Gd x8 true (
 Do (bj none 7 a0 (sl s6.1 1)) fun bH=>
 Do (J s6.2 7 true bH) fun bc=>
 aJ (some (be s6.2 true [.str [],.int .i64 0,.int .i64 0,.bool false,.aq .nil 0 [],.int .i64 0,.aq .nil 0 []])) fun bu eN=>
 Do (aH eN 7 bu bc) fun eD=>
 Do (ab 0 bu) fun cm=>
 Do (J eD 1 false cm) fun bO=>
Φ K.f41 [bO] eD fun aW gq=>
 Do (eB .not aW) fun cw=>
 aL cw false (
 Do (ab 0 bu) fun cB=>
 Do (J gq 1 false cB) fun b_=>
Φ K.f42 [b_] gq fun bS iA=>
 ak (Oh Φ a0 bu s6 L7 Q) [bS] iA) (
 ak (Oh Φ a0 bu s6 L7 Q) [(.bool true)] gq) (
 False)) (
 ak (adP Φ Q) [(sl s6.1 0)] s6.2)
def f26(Φ:aj)(a0:AV)(H:AH)(Q:ae):Prop:=
 Do (br false a0) fun x1=>
 Do (ai .gtr x1 (.int .i64 32)) fun x2=>
 Gd x2 true (
 Q (.int .i64 12) H) (
 Do (br false a0) fun x5=>
 aB (Ew Φ a0 x5 Q) ([(.int .i64 0),(.int .i64 0)],H))
noncomputable def aes:bm:=bI Go.Proofs.YtbjhdakiiedmcaaGreatDoor.rb.C ⟨26,[5],[[3,14]],none,[],[]⟩
theorem asd(Φ:aj)(a0:AV)(H:AH)(Q:ae):bM Φ aes [a0] H Q=f26 Φ a0 H Q:=by kernel_rfl
def Oi(Φ:aj)(s8:List AV×AH)(L9:(List AV×AH)→Prop)(Q:ae):List AV→AH→Prop:=fun lh dQ=>
 Do (ai .add (sl s8.1 0) (.int .i64 1)) fun dx=>
 L9 ([dx],dQ)
def adQ(Φ:aj)(a0 x4:AV)(Q:ae):List AV→AH→Prop:=fun j5 H6=>
 Do (bR a0) fun cb=>
 Do (ab 1 cb) fun cK=>
 Do (J H6 1 false cK) fun dL=>
 Do (kO 1 dL none (some x4) none) fun cO=>
 Do (bR a0) fun dM=>
 Do (ab 1 dM) fun eW=>
 Do (aH H6 1 eW cO) fun je=>
 Q (.aM []) je
def Ig(Φ:aj)(a0 a1 a2 x4 x7:AV)(Q:ae):(List AV×AH)→((List AV×AH)→Prop)→Prop:=fun s8 L9=>
 Do (ai .lss (sl s8.1 0) x7) fun bQ=>
 Gd bQ true (
 Do (bj none 10 a1 (sl s8.1 0)) fun bu=>
 Do (J s8.2 10 true bu) fun bN=>
 aJ (some (be s8.2 true [.int .i64 0,.int .i64 0,.str [],.str [],.int .i64 0,.str [],.aq .nil 0 [],.aq .nil 0 [],.aq .nil 0 [],.aq .nil 0 []])) fun bG iP=>
 Do (aH iP 10 bG bN) fun dv=>
Φ K.f28 [a0] dv fun bE di=>
 Do (eB .not bE) fun cm=>
 Gd cm true (
 Do (ab 1 bG) fun bO=>
 Do (J di 1 false bO) fun aW=>
 Do (bR a0) fun cf=>
 Do (ab 3 cf) fun cw=>
 Do (aH di 1 cw aW) fun fN=>
 Do (J fN 10 true bG) fun b_=>
Φ K.f45 [a0,b_,a2] fN fun bS iA=>
 ak (Oi Φ s8 L9 Q) [] iA) (
 ak (Oi Φ s8 L9 Q) [] di)) (
 ak (adQ Φ a0 x4 Q) [] s8.2)
def f27(Φ:aj)(a0 a1 a2:AV)(H:AH)(Q:ae):Prop:=
 Do (bR a0) fun x1=>
 Do (ab 1 x1) fun x2=>
 Do (J H 1 false x2) fun x3=>
 Do (br false x3) fun x4=>
 Do (br false a1) fun x7=>
 aB (Ig Φ a0 a1 a2 x4 x7 Q) ([(.int .i64 0)],H)
noncomputable def aet:bm:=bI Go.Proofs.YtbjhdakiiedmcaaGreatDoor.rb.C ⟨27,[8],[[16]],none,[],[]⟩
theorem ase(Φ:aj)(a0 a1 a2:AV)(H:AH)(Q:ae):bM Φ aet [a0,a1,a2] H Q=f27 Φ a0 a1 a2 H Q:=by kernel_rfl
def f28(Φ:aj)(a0:AV)(H:AH)(Q:ae):Prop:=
 Do (bR a0) fun x1=>
 Do (ab 4 x1) fun x2=>
 Do (ab 1 x2) fun x3=>
 Do (J H 1 false x3) fun x4=>
 Do (ai .neq x4 (.int .i64 0)) fun x5=>
 Q x5 H
noncomputable def aeu:bm:=bI Go.Proofs.YtbjhdakiiedmcaaGreatDoor.rb.C ⟨28,[],[],none,[],[]⟩
theorem asf(Φ:aj)(a0:AV)(H:AH)(Q:ae):bM Φ aeu [a0] H Q=f28 Φ a0 H Q:=by kernel_rfl
def f29(Φ:aj)(a0:AV)(H:AH)(Q:ae):Prop:=
 aJ (bB H false 6 a0) fun x1 H2=>
 Do (J H2 6 true x1) fun x3=>
Φ K.f46 [x3] H2 fun x4 H5=>
 Do (db 0 x4) fun x6=>
 Do (db 1 x4) fun x7=>
 aJ (some (be H5 true [.int .i64 0,.int .i64 0])) fun x8 H9=>
 Do (aH H9 2 x8 x6) fun bZ=>
 Do (ab 0 x8) fun bH=>
 Do (J bZ 1 false bH) fun bc=>
 Do (ab 1 x8) fun bu=>
 Do (J bZ 1 false bu) fun bN=>
 Q (.aM [bc,bN,x7]) bZ
noncomputable def aev:bm:=bI Go.Proofs.YtbjhdakiiedmcaaGreatDoor.rb.C ⟨29,[5],[],none,[],[]⟩
theorem ash(Φ:aj)(a0:AV)(H:AH)(Q:ae):bM Φ aev [a0] H Q=f29 Φ a0 H Q:=by kernel_rfl
def Oj(Φ:aj)(a0 x1 x4:AV)(Q:ae):List AV→AH→Prop:=fun j51 iQ=>
 Gd (sl j51 0) true (
 Do (J iQ 10 true x1) fun fY=>
Φ K.f52 [a0,fY] iQ fun fZ qB=>
 Q (.aM []) qB) (
 Do (ai .eql x4 (.int .i64 5)) fun c_=>
 Gd c_ true (
 Do (J iQ 10 true x1) fun iu=>
Φ K.f53 [a0,iu] iQ fun ia mV=>
 Q (.aM []) mV) (
 Do (ai .eql x4 (.int .i64 7)) fun gF=>
 Gd gF true (
Φ K.f54 [(.int .i64 13)] iQ fun iV CZ=>
 aJ (some (be CZ true [.int .i64 0,.int .i64 0,.int .i64 0,.int .i64 0,.int .i64 0,.int .i64 0,.int .u64 0,.int .i64 0,.int .i64 0,.int .i64 0,.int .i64 0,.int .i64 0,.int .i64 0])) fun iM pF=>
 Do (aH pF 13 iM iV) fun xO=>
 Do (ab 4 x1) fun iG=>
 Do (J xO 1 false iG) fun ja=>
 Do (ab 0 x1) fun jD=>
 Do (J xO 1 false jD) fun jO=>
 Do (ab 4 x1) fun jh=>
 Do (J xO 1 false jh) fun jE=>
 Do (bJ [.str [],.aq .nil 0 []] []) fun ji=>
 Do (ab 9 iM) fun eJ=>
Φ K.f55 [a0,jO,jE,ji] xO fun jP zj=>
(J zj 1 false iG=some ja) ∧
(Do (aH zj 1 eJ ja) fun F6=>
 Do (ab 11 iM) fun kF=>
 Do (aH F6 1 kF jP) fun sk=>
 Do (J sk 13 true iM) fun mJ=>
Φ K.f56 [a0,mJ] sk fun gx vZ=>
 Q (.aM []) vZ)) (
 Do (ai .eql x4 (.int .i64 8)) fun oS=>
 Gd oS true (
 Do (J iQ 10 true x1) fun nJ=>
Φ K.f57 [a0,nJ] iQ fun nK C1=>
 Q (.aM []) C1) (
 Do (ai .eql x4 (.int .i64 9)) fun uh=>
 Gd uh true (
 Do (J iQ 10 true x1) fun oo=>
Φ K.f58 [a0,oo] iQ fun ve C2=>
 Q (.aM []) C2) (
 Do (ai .eql x4 (.int .i64 10)) fun ui=>
 Gd ui true (
Φ K.f54 [(.int .i64 18)] iQ fun oT zk=>
 aJ (some (be zk true [.int .i64 0,.int .i64 0,.int .i64 0,.int .i64 0,.int .i64 0,.int .i64 0,.int .u64 0,.int .i64 0,.int .i64 0,.int .i64 0,.int .i64 0,.int .i64 0,.int .i64 0])) fun km zl=>
 Do (aH zl 13 km oT) fun wa=>
 Do (ab 7 x1) fun um=>
 Do (J wa 1 false um) fun sP=>
 Do (bj none 8 sP (.int .i64 0)) fun sQ=>
 Do (J wa 8 true sQ) fun ru=>
Φ K.f47 [a0,ru] wa fun tr yQ=>
 Do (ab 3 km) fun sd=>
 Do (aH yQ 1 sd tr) fun yR=>
 Do (J yR 13 true km) fun vQ=>
Φ K.f56 [a0,vQ] yR fun se Jn=>
 Q (.aM []) Jn) (
 Q (.aM []) iQ))))))
def f30(Φ:aj)(a0 a1:AV)(H:AH)(Q:ae):Prop:=
 aJ (bB H false 10 a1) fun x1 H2=>
 Do (ab 0 x1) fun x3=>
 Do (J H2 1 false x3) fun x4=>
 Do (ai .eql x4 (.int .i64 1)) fun x5=>
 Gd x5 true (
 Do (ab 7 x1) fun x6=>
 Do (J H2 1 false x6) fun x7=>
 Do (bj none 8 x7 (.int .i64 0)) fun x8=>
 Do (J H2 8 true x8) fun x9=>
Φ K.f47 [a0,x9] H2 fun bQ cy=>
Φ K.f48 [a0] cy fun bc de=>
Φ K.f49 [a0,bc,bQ] de fun bN eD=>
 Do (bR a0) fun bg=>
 Do (ab 7 bg) fun bV=>
 Do (J eD 1 false bV) fun bE=>
 Do (ab 2 x1) fun cI=>
 Do (J eD 1 false cI) fun cm=>
 Do (bJ [.str [],.int .i64 0] [(0,1,cm),(1,1,bc)]) fun bO=>
 aJ (fb eD false 2 1 [.str [],.int .i64 0] [(0,2,bO)]) fun aW gq=>
 aJ (eF gq true 2 24 bE aW) fun cw fN=>
 Do (bR a0) fun b_=>
 Do (ab 7 b_) fun bS=>
 Do (aH fN 1 bS cw) fun iA=>
 Q (.aM []) iA) (
 Do (ai .eql x4 (.int .i64 2)) fun dx=>
 Gd dx true (
 Do (ab 7 x1) fun cb=>
 Do (J H2 1 false cb) fun cK=>
 Do (bj none 8 cK (.int .i64 0)) fun dL=>
 Do (J H2 8 true dL) fun cO=>
Φ K.f47 [a0,cO] H2 fun dM eO=>
 Do (ab 2 x1) fun dP=>
 Do (J eO 1 false dP) fun cq=>
Φ K.f50 [a0,cq] eO fun df gT=>
Φ K.f49 [a0,df,dM] gT fun dC gA=>
 Q (.aM []) gA) (
 Do (ai .eql x4 (.int .i64 3)) fun dH=>
 Gd dH true (
 Do (ab 5 x1) fun dR=>
 Do (J H2 2 true dR) fun dY=>
 Do (ab 7 x1) fun dJ=>
 Do (J H2 1 false dJ) fun dN=>
 Do (bj none 8 dN (.int .i64 0)) fun dS=>
 Do (J H2 8 true dS) fun eE=>
Φ K.f51 [a0,dY,eE] H2 fun e_ gB=>
 Q (.aM []) gB) (
 Do (ai .eql x4 (.int .i64 4)) fun bW=>
 Gd bW true (
 ak (Oj Φ a0 x1 x4 Q) [bW] H2) (
 Do (ai .eql x4 (.int .i64 6)) fun tt=>
 ak (Oj Φ a0 x1 x4 Q) [tt] H2))))
noncomputable def aew:bm:=bI Go.Proofs.YtbjhdakiiedmcaaGreatDoor.rb.C ⟨30,[7,8,35],[],none,[],[]⟩
theorem asi(Φ:aj)(a0 a1:AV)(H:AH)(Q:ae):bM Φ aew [a0,a1] H Q=f30 Φ a0 a1 H Q:=by kernel_rfl
def f31(Φ:aj)(H:AH)(Q:ae):Prop:=
 aJ (fb H false 1 34 [.str []] [(0,1,(.str [118,97,114])),(1,1,(.str [116,104,114,101,97,100])),(2,1,(.str [115,116,114,117,99,116])),(3,1,(.str [117,110,105,111,110])),(4,1,(.str [112,97,99,107,101,100])),(5,1,(.str [117,56])),(6,1,(.str [117,49,54])),(7,1,(.str [117,51,50])),(8,1,(.str [117,54,52])),(9,1,(.str [97,56])),(10,1,(.str [97,49,54])),(11,1,(.str [97,51,50])),(12,1,(.str [97,54,52])),(13,1,(.str [97,49,50,56])),(14,1,(.str [108,101,116])),(15,1,(.str [115,101,116])),(16,1,(.str [119,114,105,116,101])),(17,1,(.str [115,116,111,114,101])),(18,1,(.str [108,111,97,100,50])),(19,1,(.str [115,116,111,114,101,50])),(20,1,(.str [102,101,110,99,101])),(21,1,(.str [105,102])),(22,1,(.str [101,108,115,101])),(23,1,(.str [119,104,105,108,101])),(24,1,(.str [112,114,105,110,116])),(25,1,(.str [114,101,97,100])),(26,1,(.str [108,111,97,100])),(27,1,(.str [97,100,100])),(28,1,(.str [115,119,97,112])),(29,1,(.str [99,97,115])),(30,1,(.str [114,108,120])),(31,1,(.str [97,99,113])),(32,1,(.str [114,101,108])),(33,1,(.str [115,99]))]) fun x1 H2=>
 Q x1 H2
noncomputable def aex:bm:=bI Go.Proofs.YtbjhdakiiedmcaaGreatDoor.rb.C ⟨31,[],[],none,[],[]⟩
theorem asj(Φ:aj)(H:AH)(Q:ae):bM Φ aex [] H Q=f31 Φ H Q:=by kernel_rfl
def f32(Φ:aj)(a0:AV)(H:AH)(Q:ae):Prop:=
 aJ (bB H false 6 a0) fun x1 H2=>
 Do (J H2 6 true x1) fun x3=>
Φ K.f59 [x3,(.int .i64 65)] H2 fun x4 H5=>
 Do (ai .gtr x4 (.int .i64 64)) fun x6=>
 Gd x6 true (
 Q (.int .i64 5) H5) (
 Do (J H5 6 true x1) fun x7=>
Φ K.f60 [x7] H5 fun x8 H9=>
 Q x8 H9)
noncomputable def aey:bm:=bI Go.Proofs.YtbjhdakiiedmcaaGreatDoor.rb.C ⟨32,[],[],none,[],[]⟩
theorem asl(Φ:aj)(a0:AV)(H:AH)(Q:ae):bM Φ aey [a0] H Q=f32 Φ a0 H Q:=by kernel_rfl
def Ok(Φ:aj)(mo:List AV×AH)(xR:(List AV×AH)→Prop)(Q:ae):List AV→AH→Prop:=fun zN di=>
 Do (ai .add (sl mo.1 1) (.int .i64 1)) fun b_=>
 xR ([(sl zN 0),b_],di)
def Ol(Φ:aj)(sN:List AV×AH)(Q9:(List AV×AH)→Prop)(Q:ae):List AV→AH→Prop:=fun GD lI=>
 Do (ai .add (sl sN.1 1) (.int .i64 1)) fun dH=>
 Q9 ([(sl GD 0),dH],lI)
def On(Φ:aj)(x1:AV)(Q:ae):(List AV×AH)→((List AV×AH)→Prop)→Prop:=fun sN Q9=>
 Do (ab 3 x1) fun dx=>
 Do (J sN.2 1 false dx) fun cb=>
 Do (br false cb) fun cK=>
 Do (ai .lss (sl sN.1 1) cK) fun dL=>
 Gd dL true (
 aL (sl sN.1 0) false (
 Do (ab 3 x1) fun eW=>
 Do (J sN.2 1 false eW) fun dP=>
 Do (bj none 9 dP (sl sN.1 1)) fun cq=>
 Do (ab 1 cq) fun df=>
 Do (J sN.2 6 true df) fun dG=>
Φ K.f33 [dG] sN.2 fun dC gA=>
 ak (Ol Φ sN Q9 Q) [dC] gA) (
 ak (Ol Φ sN Q9 Q) [(.bool true)] sN.2) (
 False)) (
 Q (sl sN.1 0) sN.2)
def adR(Φ:aj)(x1:AV)(Q:ae):List AV→AH→Prop:=fun rG cy=>
 aB (On Φ x1 Q) ([(sl rG 0),(.int .i64 0)],cy)
def Oo(Φ:aj)(x1:AV)(Q:ae):(List AV×AH)→((List AV×AH)→Prop)→Prop:=fun mo xR=>
 Do (ab 5 x1) fun bN=>
 Do (J mo.2 1 false bN) fun bG=>
 Do (br false bG) fun bg=>
 Do (ai .lss (sl mo.1 1) bg) fun bV=>
 Gd bV true (
 aL (sl mo.1 0) false (
 Do (ab 5 x1) fun cm=>
 Do (J mo.2 1 false cm) fun bO=>
 Do (bj none 6 bO (sl mo.1 1)) fun aW=>
 Do (J mo.2 6 true aW) fun cf=>
Φ K.f33 [cf] mo.2 fun cw fN=>
 ak (Ok Φ mo xR Q) [cw] fN) (
 ak (Ok Φ mo xR Q) [(.bool true)] mo.2) (
 False)) (
 ak (adR Φ x1 Q) [(sl mo.1 0)] mo.2)
def Om(Φ:aj)(x1:AV)(Q:ae):List AV→AH→Prop:=fun j3 H4=>
 aB (Oo Φ x1 Q) ([(sl j3 0),(.int .i64 0)],H4)
def f33(Φ:aj)(a0:AV)(H:AH)(Q:ae):Prop:=
 aJ (bB H false 6 a0) fun x1 H2=>
 Do (ab 2 x1) fun x5=>
 Do (J H2 1 false x5) fun x6=>
 aL x6 true (
 Do (J H2 6 true x1) fun x7=>
Φ K.f61 [x7] H2 fun x8 H9=>
 ak (Om Φ x1 Q) [x8] H9) (
 ak (Om Φ x1 Q) [(.bool false)] H2) (
 False)
noncomputable def aez:bm:=bI Go.Proofs.YtbjhdakiiedmcaaGreatDoor.rb.C ⟨33,[],[[3,4],[3,5]],none,[],[]⟩
theorem asm(Φ:aj)(a0:AV)(H:AH)(Q:ae):bM Φ aez [a0] H Q=f33 Φ a0 H Q:=by kernel_rfl
def adS(Φ:aj)(x1 x3 b_:AV)(Q:ae):List AV→AH→Prop:=fun RO kA=>
 Do (ab 0 b_) fun dN=>
 Do (J kA 1 false dN) fun dS=>
 Do (ab 4 x1) fun eE=>
 Do (J kA 1 false eE) fun e_=>
 Do (ai .mul dS e_) fun gE=>
 Do (ab 1 b_) fun dZ=>
 Do (J kA 1 false dZ) fun fa=>
 Do (bJ [.int .i64 0,.int .i64 0,.aq .nil 0 [],.aq .nil 0 [],.bool false] [(0,1,gE),(1,1,fa)]) fun bW=>
 Do (aH kA 5 x3 bW) fun mD=>
 Do (J mD 5 true x3) fun fZ=>
 Q fZ mD
def Oq(Φ:aj)(x1 x3 b_:AV)(Q:ae):List AV→AH→Prop:=fun ua dW=>
 Gd (sl ua 0) true (
 Do (ab 1 b_) fun ey=>
 Do (J dW 1 false ey) fun dH=>
 Do (bJ [.int .i64 0,.int .i64 0,.aq .nil 0 [],.aq .nil 0 [],.bool false] [(1,1,dH),(4,1,(.bool true))]) fun dR=>
 Do (aH dW 5 x3 dR) fun me=>
 Do (J me 5 true x3) fun dJ=>
 Q dJ me) (
 ak (adS Φ x1 x3 b_ Q) [] dW)
def Ot(Φ:aj)(gv:List AV×AH)(jf:(List AV×AH)→Prop)(Q:ae):List AV→AH→Prop:=fun j68 Xw=>
 Do (ai .add (sl gv.1 2) (.int .i64 1)) fun CY=>
 jf ([(sl j68 0),(sl j68 1),CY],Xw)
def Ou(Φ:aj)(c_ mC:AV)(gv:List AV×AH)(jf:(List AV×AH)→Prop)(y7:List AV)(Q:ae):List AV→AH→Prop:=fun ahv Ft=>
 Do (ab 1 c_) fun CU=>
 Do (J Ft 1 false CU) fun CV=>
 Do (ai .gtr (sl ahv 0) CV) fun CW=>
 Gd CW true (
 Do (ab 1 c_) fun CX=>
 Do (aH Ft 1 CX (sl ahv 0)) fun awf=>
 ak (Ot Φ gv jf Q) [mC,(sl y7 0)] awf) (
 ak (Ot Φ gv jf Q) [mC,(sl y7 0)] Ft)
def Ih(Φ:aj)(c_ mC zf:AV)(gv:List AV×AH)(jf:(List AV×AH)→Prop)(y7:List AV)(Q:ae):List AV→AH→Prop:=fun axE agL=>
 Gd (sl axE 0) true (
 ak (Ou Φ c_ mC gv jf y7 Q) [(.int .i64 1)] agL) (
 ak (Ou Φ c_ mC gv jf y7 Q) [zf] agL)
def Ov(Φ:aj)(x1 c_ eJ gx mC:AV)(gv:List AV×AH)(jf:(List AV×AH)→Prop)(vK:List AV)(Q:ae):List AV→AH→Prop:=fun y7 Fs=>
 Do (ab 1 gx) fun CQ=>
 Do (J Fs 1 false CQ) fun zf=>
 Do (ab 2 x1) fun W3=>
 Do (J Fs 1 false W3) fun J4=>
 aL J4 false (
 Do (ab 7 eJ) fun W4=>
 Do (J Fs 1 false W4) fun CS=>
 aL CS true (
 Do (ai .eql (sl vK 1) (.int .i64 0)) fun CT=>
 ak (Ih Φ c_ mC zf gv jf y7 Q) [CT] Fs) (
 ak (Ih Φ c_ mC zf gv jf y7 Q) [(.bool false)] Fs) (
 False)) (
 ak (Ih Φ c_ mC zf gv jf y7 Q) [(.bool true)] Fs) (
 False)
def UA(Φ:aj)(x1 c_ eJ gx:AV)(gv:List AV×AH)(jf:(List AV×AH)→Prop)(vK:List AV)(Q:ae):List AV→AH→Prop:=fun aht QC=>
 Do (ab 2 c_) fun vW=>
 Do (J QC 1 false vW) fun tA=>
 aJ (fb QC false 1 1 [.int .i64 0] [(0,1,(sl aht 0))]) fun xL V1=>
 aJ (eF V1 false 1 8 tA xL) fun CL QD=>
 Do (ab 2 c_) fun zd=>
 Do (aH QD 1 zd CL) fun Cr=>
 Do (ab 3 c_) fun AN=>
 Do (J Cr 1 false AN) fun ayf=>
 aJ (fb Cr false 1 1 [.int .i64 0] [(0,1,(sl vK 1))]) fun ze awb=>
 aJ (eF awb false 1 8 ayf ze) fun CM yT=>
 Do (ab 3 c_) fun CN=>
 Do (aH yT 1 CN CM) fun QE=>
 Do (ai .add (sl aht 0) (sl vK 1)) fun mC=>
 Do (ai .gtr mC (sl gv.1 1)) fun CP=>
 Gd CP true (
 ak (Ov Φ x1 c_ eJ gx mC gv jf vK Q) [mC] QE) (
 ak (Ov Φ x1 c_ eJ gx mC gv jf vK Q) [(sl gv.1 1)] QE)
def Ow(Φ:aj)(x1 c_ eJ gx:AV)(gv:List AV×AH)(jf:(List AV×AH)→Prop)(vK:List AV)(Q:ae):(List AV×AH)→((List AV×AH)→Prop)→Prop:=fun JY awl=>
 Do (ai .rem (sl JY.1 0) (sl vK 0)) fun xK=>
 Do (ai .neq xK (.int .i64 0)) fun zc=>
 Gd zc true (
 Do (ai .add (sl JY.1 0) (.int .i64 1)) fun tz=>
 awl ([tz],JY.2)) (
 ak (UA Φ x1 c_ eJ gx gv jf vK Q) [(sl JY.1 0)] JY.2)
def Ii(Φ:aj)(x1 c_ eJ gx:AV)(gv:List AV×AH)(jf:(List AV×AH)→Prop)(va:List AV)(Q:ae):List AV→AH→Prop:=fun vK Cn=>
 aB (Ow Φ x1 c_ eJ gx gv jf vK Q) ([(sl va 0)],Cn)
def Ni(Φ:aj)(x1 c_ eJ gx pE mU:AV)(gv:List AV×AH)(jf:(List AV×AH)→Prop)(va:List AV)(Q:ae):List AV→AH→Prop:=fun axy agI=>
 Gd (sl axy 0) true (
 ak (Ii Φ x1 c_ eJ gx gv jf va Q) [mU,pE] agI) (
 ak (Ii Φ x1 c_ eJ gx gv jf va Q) [(.int .i64 1),pE] agI)
def Nj(Φ:aj)(x1 c_ eJ gx sQ:AV)(gv:List AV×AH)(jf:(List AV×AH)→Prop)(va:List AV)(Q:ae):List AV→AH→Prop:=fun axt vz=>
 Do (ab 7 eJ) fun se=>
 Do (J vz 1 false se) fun ry=>
 Gd ry true (
 Do (ab 8 eJ) fun tt=>
 Do (J vz 1 false tt) fun pE=>
 Do (ab 1 eJ) fun tv=>
 Do (ab 1 tv) fun qz=>
 Do (J vz 1 false qz) fun vT=>
 Do (ai .mul (.int .i64 8) vT) fun mU=>
 Do (ai .eql pE (.int .i64 0)) fun tw=>
 aL tw false (
 Do (ai .rem (sl va 0) mU) fun rz=>
 Do (ai .add rz pE) fun vU=>
 Do (ai .gtr vU mU) fun xI=>
 ak (Ni Φ x1 c_ eJ gx pE mU gv jf va Q) [xI] vz) (
 ak (Ni Φ x1 c_ eJ gx pE mU gv jf va Q) [(.bool true)] vz) (
 False)) (
 ak (Ii Φ x1 c_ eJ gx gv jf va Q) [(sl axt 0),sQ] vz)
def Nk(Φ:aj)(x1 c_ eJ gx:AV)(gv:List AV×AH)(jf:(List AV×AH)→Prop)(Q:ae):List AV→AH→Prop:=fun va C2=>
 Do (ab 1 gx) fun km=>
 Do (J C2 1 false km) fun uk=>
 Do (ai .mul (.int .i64 8) uk) fun sO=>
 Do (ab 0 gx) fun um=>
 Do (J C2 1 false um) fun sP=>
 Do (ai .mul (.int .i64 8) sP) fun sQ=>
 Do (ab 2 x1) fun rv=>
 Do (J C2 1 false rv) fun sd=>
 Gd sd true (
 ak (Nj Φ x1 c_ eJ gx sQ gv jf va Q) [(.int .i64 8)] C2) (
 ak (Nj Φ x1 c_ eJ gx sQ gv jf va Q) [sO] C2)
def TG(Φ:aj)(x3 c_:AV)(Q:ae):List AV→AH→Prop:=fun axH awg=>
 Do (ai .quo (sl axH 0) (.int .i64 8)) fun W7=>
 Do (ab 0 c_) fun W8=>
 Do (aH awg 1 W8 W7) fun agN=>
 Do (ab 0 c_) fun ayi=>
 Do (J agN 1 false ayi) fun ayj=>
 Do (ai .gtr ayj (.int .i64 65536)) fun ayk=>
 Do (ab 4 c_) fun W9=>
 Do (aH agN 1 W9 ayk) fun Fu=>
 Do (J Fu 5 true c_) fun Kh=>
 Do (aH Fu 5 x3 Kh) fun agO=>
 Do (J agO 5 true x3) fun Ki=>
 Q Ki agO
def Nl(Φ:aj)(x3 c_:AV)(Q:ae):(List AV×AH)→((List AV×AH)→Prop)→Prop:=fun FV awm=>
 Do (ab 1 c_) fun J8=>
 Do (J FV.2 1 false J8) fun J9=>
 Do (ai .mul (.int .i64 8) J9) fun J_=>
 Do (ai .rem (sl FV.1 0) J_) fun F2=>
 Do (ai .neq F2 (.int .i64 0)) fun W6=>
 Gd W6 true (
 Do (ai .add (sl FV.1 0) (.int .i64 1)) fun Kg=>
 awm ([Kg],FV.2)) (
 ak (TG Φ x3 c_ Q) [(sl FV.1 0)] FV.2)
def ab2(Φ:aj)(x3 c_:AV)(Q:ae):List AV→AH→Prop:=fun GF sj=>
 aB (Nl Φ x3 c_ Q) ([(sl GF 0)],sj)
def rO(Φ:aj)(x1 x3 c_:AV)(Q:ae):(List AV×AH)→((List AV×AH)→Prop)→Prop:=fun gv jf=>
 Do (ab 3 x1) fun iM=>
 Do (J gv.2 1 false iM) fun kl=>
 Do (br false kl) fun jC=>
 Do (ai .lss (sl gv.1 2) jC) fun iG=>
 Gd iG true (
 Do (ab 3 x1) fun jO=>
 Do (J gv.2 1 false jO) fun jh=>
 Do (bj none 9 jh (sl gv.1 2)) fun jE=>
 Do (J gv.2 9 true jE) fun ji=>
 aJ (some (be gv.2 true [.str [],.int .i64 0,.int .i64 0,.bool false,.aq .nil 0 [],.int .i64 0,.aq .nil 0 [],.bool false,.int .i64 0])) fun eJ Xx=>
 Do (aH Xx 9 eJ ji) fun zj=>
 Do (ab 1 eJ) fun m5=>
 Do (J zj 6 true m5) fun kF=>
Φ K.f34 [kF] zj fun m6 H80=>
 aJ (some (be H80 true [.int .i64 0,.int .i64 0,.aq .nil 0 [],.aq .nil 0 [],.bool false])) fun gx vZ=>
 Do (aH vZ 5 gx m6) fun uR=>
 Do (ab 4 gx) fun nJ=>
 Do (J uR 1 false nJ) fun nK=>
 Gd nK true (
 Do (bJ [.int .i64 0,.int .i64 0,.aq .nil 0 [],.aq .nil 0 [],.bool false] [(1,1,(.int .i64 1)),(4,1,(.bool true))]) fun rN=>
 Do (aH uR 5 x3 rN) fun tD=>
 Do (J tD 5 true x3) fun oo=>
 Q oo tD) (
 Do (ab 0 x1) fun ui=>
 Do (J uR 1 false ui) fun oT=>
 Do (ai .eql oT (.int .i64 4)) fun uj=>
 Gd uj true (
 ak (Nk Φ x1 c_ eJ gx gv jf Q) [(.int .i64 0)] uR) (
 ak (Nk Φ x1 c_ eJ gx gv jf Q) [(sl gv.1 0)] uR))) (
 ak (ab2 Φ x3 c_ Q) [(sl gv.1 1)] gv.2)
def ab3(Φ:aj)(x1 x3:AV)(Q:ae):List AV→AH→Prop:=fun j5 H6=>
 Do (bJ [.int .i64 0,.int .i64 0,.aq .nil 0 [],.aq .nil 0 [],.bool false] [(1,1,(.int .i64 1))]) fun gX=>
 aJ (some (be H6 true [.int .i64 0,.int .i64 0,.aq .nil 0 [],.aq .nil 0 [],.bool false])) fun c_ nS=>
 Do (aH nS 5 c_ gX) fun nT=>
 aB (rO Φ x1 x3 c_ Q) ([(.int .i64 0),(.int .i64 0),(.int .i64 0)],nT)
def HK(Φ:aj)(x1 x3 x8:AV)(Q:ae):List AV→AH→Prop:=fun j9 bZ=>
 Gd (sl j9 0) true (
 Do (ab 1 x1) fun bc=>
 Do (J bZ 1 false bc) fun bu=>
 Do (ab 1 x1) fun bN=>
 Do (J bZ 1 false bN) fun bG=>
 Do (bJ [.int .i64 0,.int .i64 0,.aq .nil 0 [],.aq .nil 0 [],.bool false] [(0,1,bu),(1,1,bG)]) fun bg=>
 Do (aH bZ 5 x3 bg) fun dv=>
 Do (J dv 5 true x3) fun bE=>
 Q bE dv) (
 Do (ai .eql x8 (.int .i64 5)) fun cI=>
 Gd cI true (
 Do (ab 5 x1) fun cm=>
 Do (J bZ 1 false cm) fun bO=>
 Do (bj none 6 bO (.int .i64 0)) fun aW=>
 Do (J bZ 6 true aW) fun cf=>
Φ K.f34 [cf] bZ fun cw fN=>
 aJ (some (be fN true [.int .i64 0,.int .i64 0,.aq .nil 0 [],.aq .nil 0 [],.bool false])) fun b_ eT=>
 Do (aH eT 5 b_ cw) fun iA=>
 Do (ab 4 b_) fun cO=>
 Do (J iA 1 false cO) fun dM=>
 aL dM false (
 Do (ab 0 b_) fun eW=>
 Do (J iA 1 false eW) fun dP=>
 Do (ab 4 x1) fun cq=>
 Do (J iA 1 false cq) fun df=>
 Do (ai .mul dP df) fun dG=>
 Do (ai .gtr dG (.int .i64 65536)) fun dC=>
 ak (Oq Φ x1 x3 b_ Q) [dC] iA) (
 ak (Oq Φ x1 x3 b_ Q) [(.bool true)] iA) (
 False)) (
 ak (ab3 Φ x1 x3 Q) [] bZ))
def f34(Φ:aj)(a0:AV)(H:AH)(Q:ae):Prop:=
 aJ (bB H false 6 a0) fun x1 H2=>
 aJ (some (be H2 true [.int .i64 0,.int .i64 0,.aq .nil 0 [],.aq .nil 0 [],.bool false])) fun x3 H4=>
 Do (ab 0 x1) fun x7=>
 Do (J H4 1 false x7) fun x8=>
 Do (ai .eql x8 (.int .i64 1)) fun bH=>
 Gd bH true (
 ak (HK Φ x1 x3 x8 Q) [bH] H4) (
 Do (ai .eql x8 (.int .i64 2)) fun Kj=>
 ak (HK Φ x1 x3 x8 Q) [Kj] H4)
noncomputable def aeA:bm:=bI Go.Proofs.YtbjhdakiiedmcaaGreatDoor.rb.C ⟨34,[2,3,4,8,9],[[5,6,7],[5],[6]],none,[],[]⟩
theorem asn(Φ:aj)(a0:AV)(H:AH)(Q:ae):bM Φ aeA [a0] H Q=f34 Φ a0 H Q:=by kernel_rfl
def Ox(Φ:aj)(a0:AV)(Q:ae):List AV→AH→Prop:=fun j1 H2=>
 Do (bR a0) fun bE=>
 Do (ab 3 bE) fun cI=>
 Do (ab 1 cI) fun cm=>
 Do (J H2 1 false cm) fun bO=>
 Do (ai .eql bO (.int .i64 0)) fun aW=>
 Q aW H2
def Oy(Φ:aj)(a0 a2:AV)(Q:ae):List AV→AH→Prop:=fun j3 H4=>
 Gd (sl j3 0) true (
 Do (bR a0) fun bH=>
 Do (ab 2 bH) fun bc=>
 Do (J H4 1 false bc) fun bu=>
 Do (bJ [.int .i64 0,.int .i64 0] [(0,1,bu),(1,1,a2)]) fun bN=>
 Do (bR a0) fun bG=>
 Do (ab 3 bG) fun bg=>
 Do (aH H4 2 bg bN) fun dv=>
 ak (Ox Φ a0 Q) [] dv) (
 ak (Ox Φ a0 Q) [] H4)
def f35(Φ:aj)(a0 a1 a2:AV)(H:AH)(Q:ae):Prop:=
 Do (bR a0) fun x5=>
 Do (ab 3 x5) fun x6=>
 Do (ab 1 x6) fun x7=>
 Do (J H 1 false x7) fun x8=>
 Do (ai .eql x8 (.int .i64 0)) fun x9=>
 aL x9 true (
 Do (eB .not a1) fun bQ=>
 ak (Oy Φ a0 a2 Q) [bQ] H) (
 ak (Oy Φ a0 a2 Q) [(.bool false)] H) (
 False)
noncomputable def aeB:bm:=bI Go.Proofs.YtbjhdakiiedmcaaGreatDoor.rb.C ⟨35,[],[],none,[],[]⟩
theorem aso(Φ:aj)(a0 a1 a2:AV)(H:AH)(Q:ae):bM Φ aeB [a0,a1,a2] H Q=f35 Φ a0 a1 a2 H Q:=by kernel_rfl
def Ex(Φ:aj)(x1:AV)(Q:ae):List AV→AH→Prop:=fun YK qC=>
 aL (sl YK 0) true (
 Do (ab 0 x1) fun jP=>
 Do (J qC 1 false jP) fun mZ=>
 Do (ai .eql mZ (.int .i64 8)) fun m5=>
 aL m5 false (
 Do (ab 9 x1) fun kF=>
 Do (J qC 1 false kF) fun m6=>
 Do (br false m6) fun mJ=>
 Do (ai .eql mJ (.int .i64 0)) fun gx=>
 Q gx qC) (
 Q (.bool true) qC) (
 False)) (
 Q (.bool false) qC) (
 False)
def Ij(Φ:aj)(x1:AV)(Q:ae):List AV→AH→Prop:=fun YJ nS=>
 aL (sl YJ 0) true (
 Do (ab 0 x1) fun kl=>
 Do (J nS 1 false kl) fun jC=>
 Do (ai .eql jC (.int .i64 8)) fun iG=>
 aL iG false (
 Do (ab 0 x1) fun ja=>
 Do (J nS 1 false ja) fun jD=>
 Do (ai .eql jD (.int .i64 9)) fun jO=>
 aL jO false (
 Do (ab 8 x1) fun jh=>
 Do (J nS 1 false jh) fun jE=>
 Do (br false jE) fun ji=>
 Do (ai .eql ji (.int .i64 0)) fun eJ=>
 ak (Ex Φ x1 Q) [eJ] nS) (
 ak (Ex Φ x1 Q) [(.bool true)] nS) (
 False)) (
 ak (Ex Φ x1 Q) [(.bool true)] nS) (
 False)) (
 ak (Ex Φ x1 Q) [(.bool false)] nS) (
 False)
def Ik(Φ:aj)(x1:AV)(Bh:List AV)(Q:ae):List AV→AH→Prop:=fun Li gB=>
 aL (sl Li 0) true (
 aL (sl Bh 0) false (
 Do (ab 5 x1) fun ia=>
 Do (J gB 2 true ia) fun jB=>
Φ K.f62 [jB] gB fun gF oI=>
 ak (Ij Φ x1 Q) [gF] oI) (
 ak (Ij Φ x1 Q) [(.bool true)] gB) (
 False)) (
 ak (Ij Φ x1 Q) [(.bool false)] gB) (
 False)
def Oz(Φ:aj)(x1:AV)(Bh:List AV)(Q:ae):List AV→AH→Prop:=fun j44 tC=>
 aL (sl j44 0) true (
 Do (ab 0 x1) fun dZ=>
 Do (J tC 1 false dZ) fun fa=>
 Do (ai .eql fa (.int .i64 5)) fun bW=>
 aL bW false (
 Do (ab 3 x1) fun fY=>
 Do (J tC 1 false fY) fun fZ=>
 Do (ai .eql fZ (.str [])) fun gX=>
 ak (Ik Φ x1 Bh Q) [gX] tC) (
 ak (Ik Φ x1 Bh Q) [(.bool true)] tC) (
 False)) (
 ak (Ik Φ x1 Bh Q) [(.bool false)] tC) (
 False)
def OA(Φ:aj)(x1:AV)(sI:List AV)(Q:ae):List AV→AH→Prop:=fun Bh qA=>
 aL (sl sI 0) false (
 Do (ab 2 x1) fun dN=>
 Do (J qA 1 false dN) fun dS=>
 Do (ai .eql dS (.str [])) fun eE=>
 ak (Oz Φ x1 Bh Q) [eE] qA) (
 ak (Oz Φ x1 Bh Q) [(.bool true)] qA) (
 False)
def OB(Φ:aj)(x1:AV)(Q:ae):List AV→AH→Prop:=fun sI hZ=>
 Do (ab 0 x1) fun df=>
 Do (J hZ 1 false df) fun dG=>
 Do (ai .geq dG (.int .i64 3)) fun dC=>
 aL dC true (
 Do (ab 0 x1) fun ey=>
 Do (J hZ 1 false ey) fun dH=>
 Do (ai .leq dH (.int .i64 6)) fun dR=>
 ak (OA Φ x1 sI Q) [dR] hZ) (
 ak (OA Φ x1 sI Q) [(.bool false)] hZ) (
 False)
def OC(Φ:aj)(x1:AV)(Q:ae):List AV→AH→Prop:=fun Lf nR=>
 aL (sl Lf 0) false (
 Do (ab 0 x1) fun cO=>
 Do (J nR 1 false cO) fun dM=>
 Do (ai .eql dM (.int .i64 5)) fun eW=>
 ak (OB Φ x1 Q) [eW] nR) (
 ak (OB Φ x1 Q) [(.bool true)] nR) (
 False)
def UB(Φ:aj)(x1:AV)(Q:ae):List AV→AH→Prop:=fun j5 H6=>
 Do (ab 0 x1) fun bS=>
 Do (J H6 1 false bS) fun bA=>
 Do (ai .eql bA (.int .i64 1)) fun dx=>
 aL dx false (
 Do (ab 0 x1) fun cb=>
 Do (J H6 1 false cb) fun cK=>
 Do (ai .eql cK (.int .i64 2)) fun dL=>
 ak (OC Φ x1 Q) [dL] H6) (
 ak (OC Φ x1 Q) [(.bool true)] H6) (
 False)
def Il(Φ:aj)(x1:AV)(Q:ae):List AV→AH→Prop:=fun j7 H8=>
 Gd (sl j7 0) true (
 Q (.bool false) H8) (
 ak (UB Φ x1 Q) [] H8)
def f36(Φ:aj)(a0:AV)(H:AH)(Q:ae):Prop:=
 aJ (bB H false 10 a0) fun x1 H2=>
 aJ (fb H2 false 1 11 [.int .i64 0] [(0,1,(.int .i64 (-1))),(1,1,(.int .i64 1)),(2,1,(.int .i64 1)),(3,1,(.int .i64 1)),(4,1,(.int .i64 1)),(5,1,(.int .i64 0)),(6,1,(.int .i64 2)),(7,1,(.int .i64 0)),(8,1,(.int .i64 1)),(9,1,(.int .i64 1)),(10,1,(.int .i64 1))]) fun x3 H4=>
 Do (ab 0 x1) fun x9=>
 Do (J H4 1 false x9) fun bQ=>
 Do (ai .lss bQ (.int .i64 1)) fun bH=>
 aL bH false (
 Do (ab 0 x1) fun bc=>
 Do (J H4 1 false bc) fun bu=>
 Do (ai .gtr bu (.int .i64 10)) fun bN=>
 aL bN false (
 Do (ab 7 x1) fun bG=>
 Do (J H4 1 false bG) fun bg=>
 Do (br false bg) fun bV=>
 Do (ab 0 x1) fun bE=>
 Do (J H4 1 false bE) fun cI=>
 Do (bj none 1 x3 cI) fun cm=>
 Do (J H4 1 false cm) fun bO=>
 Do (ai .neq bV bO) fun aW=>
 ak (Il Φ x1 Q) [aW] H4) (
 ak (Il Φ x1 Q) [(.bool true)] H4) (
 False)) (
 ak (Il Φ x1 Q) [(.bool true)] H4) (
 False)
noncomputable def aeC:bm:=bI Go.Proofs.YtbjhdakiiedmcaaGreatDoor.rb.C ⟨36,[],[],none,[],[]⟩
theorem asp(Φ:aj)(a0:AV)(H:AH)(Q:ae):bM Φ aeC [a0] H Q=f36 Φ a0 H Q:=by kernel_rfl
def OE(Φ:aj)(a1:AV)(j1:List AV)(Q:ae):(List AV×AH)→((List AV×AH)→Prop)→Prop:=fun s6 L7=>
 Do (br true (sl j1 0)) fun x8=>
 Do (ai .lss (sl s6.1 0) x8) fun x9=>
 Gd x9 true (
 Do (oz (sl j1 0) (sl s6.1 0)) fun bQ=>
 Do (ai .sub bQ (.int .u8 48)) fun bH=>
 Do (my .i64 bH) fun bc=>
 Do (ai .eql a1 bc) fun bu=>
 Gd bu true (
 Q (.bool true) s6.2) (
 Do (ai .add (sl s6.1 0) (.int .i64 1)) fun bN=>
 L7 ([bN],s6.2))) (
 Q (.bool false) s6.2)
def Ai(Φ:aj)(a1:AV)(Q:ae):List AV→AH→Prop:=fun j1 H2=>
 aB (OE Φ a1 j1 Q) ([(.int .i64 0)],H2)
def OD(Φ:aj)(a0 a1:AV)(Q:ae):List AV→AH→Prop:=fun zN di=>
 Gd (sl zN 0) true (
 ak (Ai Φ a1 Q) [(.str [49,50,51,52])] di) (
 Do (ai .eql a0 (.int .i64 7)) fun bO=>
 Gd bO true (
 ak (Ai Φ a1 Q) [(.str [50,51,52])] di) (
 ak (Ai Φ a1 Q) [(.str [48])] di))
def UC(Φ:aj)(a0 a1:AV)(Q:ae):List AV→AH→Prop:=fun j15 iP=>
 Gd (sl j15 0) true (
 ak (Ai Φ a1 Q) [(.str [49,50,52])] iP) (
 Do (ai .eql a0 (.int .i64 16)) fun cm=>
 Gd cm true (
 ak (OD Φ a0 a1 Q) [cm] iP) (
 Do (ai .eql a0 (.int .i64 17)) fun aW=>
 Gd aW true (
 ak (OD Φ a0 a1 Q) [aW] iP) (
 Do (ai .eql a0 (.int .i64 18)) fun cf=>
 ak (OD Φ a0 a1 Q) [cf] iP)))
def UD(Φ:aj)(a0 a1:AV)(Q:ae):List AV→AH→Prop:=fun j3 H4=>
 Gd (sl j3 0) true (
 ak (Ai Φ a1 Q) [(.str [49,51,52])] H4) (
 Do (ai .eql a0 (.int .i64 5)) fun bV=>
 Gd bV true (
 ak (UC Φ a0 a1 Q) [bV] H4) (
 Do (ai .eql a0 (.int .i64 15)) fun cw=>
 ak (UC Φ a0 a1 Q) [cw] H4))
def f37(Φ:aj)(a0 a1:AV)(H:AH)(Q:ae):Prop:=
 Do (ai .eql a0 (.int .i64 4)) fun x5=>
 Gd x5 true (
 ak (UD Φ a0 a1 Q) [x5] H) (
 Do (ai .eql a0 (.int .i64 6)) fun cB=>
 ak (UD Φ a0 a1 Q) [cB] H)
noncomputable def aeD:bm:=bI Go.Proofs.YtbjhdakiiedmcaaGreatDoor.rb.C ⟨37,[],[[6]],none,[],[]⟩
theorem asq(Φ:aj)(a0 a1:AV)(H:AH)(Q:ae):bM Φ aeD [a0,a1] H Q=f37 Φ a0 a1 H Q:=by kernel_rfl
def OG(Φ:aj)(a0 a1:AV)(Q:ae):(List AV×AH)→((List AV×AH)→Prop)→Prop:=fun s1 L2=>
 Do (br false a0) fun x3=>
 Do (ai .lss (sl s1.1 0) x3) fun x4=>
 Gd x4 true (
 Do (bj none 1 a0 (sl s1.1 0)) fun x5=>
 Do (J s1.2 1 false x5) fun x6=>
 Do (ai .eql x6 a1) fun x7=>
 Gd x7 true (
 Q (.bool true) s1.2) (
 Do (ai .add (sl s1.1 0) (.int .i64 1)) fun x8=>
 L2 ([x8],s1.2))) (
 Q (.bool false) s1.2)
def f38(Φ:aj)(a0 a1:AV)(H:AH)(Q:ae):Prop:=
 aB (OG Φ a0 a1 Q) ([(.int .i64 0)],H)
noncomputable def aeE:bm:=bI Go.Proofs.YtbjhdakiiedmcaaGreatDoor.rb.C ⟨38,[],[[5]],none,[],[]⟩
theorem asr(Φ:aj)(a0 a1:AV)(H:AH)(Q:ae):bM Φ aeE [a0,a1] H Q=f38 Φ a0 a1 H Q:=by kernel_rfl
def OL(Φ:aj)(a0 a3 a4 x1:AV)(Q:ae):(List AV×AH)→((List AV×AH)→Prop)→Prop:=fun Bm L55=>
 Do (ab 1 x1) fun gX=>
 Do (J Bm.2 1 false gX) fun c_=>
 Do (br false c_) fun iu=>
 Do (ai .lss (sl Bm.1 0) iu) fun ia=>
 Gd ia true (
 Do (ab 1 x1) fun jB=>
 Do (J Bm.2 1 false jB) fun gF=>
 Do (bj none 2 gF (sl Bm.1 0)) fun iV=>
 Do (ab 1 iV) fun iv=>
 Do (J Bm.2 1 false iv) fun iM=>
Φ K.f40 [a0,iM,a3,a4] Bm.2 fun kl xO=>
 Do (ai .add (sl Bm.1 0) (.int .i64 1)) fun iG=>
 L55 ([iG],xO)) (
 Q (.aM []) Bm.2)
def Im(Φ:aj)(a0 a3 a4 x1:AV)(Q:ae):List AV→AH→Prop:=fun Bi gA=>
Φ K.f35 [a0,(sl Bi 0),(.int .i64 8)] gA fun fa kX=>
 aB (OL Φ a0 a3 a4 x1 Q) ([(.int .i64 0)],kX)
def OH(Φ:aj)(a0 a3 a4 x1 bg:AV)(ua:List AV)(Q:ae):List AV→AH→Prop:=fun DA ie=>
 Gd (sl DA 0) true (
 Do (ab 0 bg) fun dN=>
 Do (J ie 1 false dN) fun dS=>
 Do (ai .eql dS (.int .i64 2)) fun eE=>
 aL eE true (
 Do (ab 1 bg) fun e_=>
 Do (J ie 1 false e_) fun gE=>
 Do (ai .eql gE (.int .i64 16)) fun dZ=>
 ak (Im Φ a0 a3 a4 x1 Q) [dZ] ie) (
 ak (Im Φ a0 a3 a4 x1 Q) [(.bool false)] ie) (
 False)) (
 ak (Im Φ a0 a3 a4 x1 Q) [(sl ua 0)] ie)
def OI(Φ:aj)(a0 a1 a3 a4 x1 bg:AV)(Q:ae):List AV→AH→Prop:=fun ua dW=>
 Do (ai .eql a1 (.int .i64 5)) fun dY=>
 aL dY false (
 Do (ai .eql a1 (.int .i64 6)) fun dJ=>
 ak (OH Φ a0 a3 a4 x1 bg ua Q) [dJ] dW) (
 ak (OH Φ a0 a3 a4 x1 bg ua Q) [(.bool true)] dW) (
 False)
def OJ(Φ:aj)(a0 a1 a3 a4 x1 bg:AV)(sI:List AV)(Q:ae):List AV→AH→Prop:=fun GD lI=>
 Gd (sl GD 0) true (
 Do (ab 0 bg) fun cq=>
 Do (J lI 1 false cq) fun df=>
 Do (ai .eql df (.int .i64 1)) fun dG=>
 ak (OI Φ a0 a1 a3 a4 x1 bg Q) [dG] lI) (
 ak (OI Φ a0 a1 a3 a4 x1 bg Q) [(sl sI 0)] lI)
def OK(Φ:aj)(a0 a1 a3 a4 x1 bg:AV)(Q:ae):List AV→AH→Prop:=fun sI hZ=>
 Do (ai .eql a1 (.int .i64 3)) fun eW=>
 aL eW false (
 Do (ai .eql a1 (.int .i64 14)) fun dP=>
 ak (OJ Φ a0 a1 a3 a4 x1 bg sI Q) [dP] hZ) (
 ak (OJ Φ a0 a1 a3 a4 x1 bg sI Q) [(.bool true)] hZ) (
 False)
def f39(Φ:aj)(a0 a1 a2 a3 a4:AV)(H:AH)(Q:ae):Prop:=
 aJ (bB H false 2 a2) fun x1 H2=>
 Do (bR a0) fun x3=>
 Do (ab 3 x3) fun x4=>
 Do (ab 1 x4) fun x5=>
 Do (J H2 1 false x5) fun x6=>
 Do (ai .neq x6 (.int .i64 0)) fun x7=>
 Gd x7 true (
 Q (.aM []) H2) (
 Do (bR a0) fun x8=>
 Do (ab 0 x8) fun x9=>
 Do (J H2 1 false x9) fun bQ=>
 Do (J H2 2 true x1) fun bH=>
Φ K.f63 [bQ,bH] H2 fun bc de=>
 Do (db 0 bc) fun bN=>
 Do (db 1 bc) fun bG=>
 aJ (some (be de true [.int .i64 0,.int .i64 0,.bool false,.aq .nil 0 [],.int .i64 0,.aq .nil 0 []])) fun bg dv=>
(J dv 1 false x9=some bQ) ∧
(J dv 2 true x1=some bH) ∧
(Do (aH dv 6 bg bN) fun fx=>
 Do (ai .eql bG (.int .i64 0)) fun cI=>
Φ K.f35 [a0,cI,bG] fx fun cm fc=>
 Do (eB .not cm) fun aW=>
 Gd aW true (
 Q (.aM []) fc) (
 Do (ab 0 bg) fun cB=>
 Do (J fc 1 false cB) fun b_=>
 Do (ai .eql b_ (.int .i64 2)) fun bS=>
 aL bS true (
 Do (ab 1 bg) fun bA=>
 Do (J fc 1 false bA) fun dx=>
 Do (ai .leq dx (.int .i64 8)) fun cb=>
 ak (OK Φ a0 a1 a3 a4 x1 bg Q) [cb] fc) (
 ak (OK Φ a0 a1 a3 a4 x1 bg Q) [(.bool false)] fc) (
 False))))
noncomputable def aeF:bm:=bI Go.Proofs.YtbjhdakiiedmcaaGreatDoor.rb.C ⟨39,[10],[[13]],none,[],[]⟩
theorem ass(Φ:aj)(a0 a1 a2 a3 a4:AV)(H:AH)(Q:ae):bM Φ aeF [a0,a1,a2,a3,a4] H Q=f39 Φ a0 a1 a2 a3 a4 H Q:=by kernel_rfl
def adV(Φ:aj)(s1:List AV×AH)(L2:(List AV×AH)→Prop)(Q:ae):List AV→AH→Prop:=fun zM eD=>
 Do (ai .add (sl s1.1 0) (.int .i64 1)) fun mZ=>
 L2 ([mZ],eD)
def OQ(Φ:aj)(a0 a2 a3 bE:AV)(s1:List AV×AH)(L2:(List AV×AH)→Prop)(Q:ae):List AV→AH→Prop:=fun Lj nT=>
 Do (ab 7 bE) fun jh=>
 Do (J nT 1 false jh) fun jE=>
 Do (ai .add a3 (.int .i64 1)) fun ji=>
Φ K.f40 [a0,jE,a2,ji] nT fun eJ Xx=>
 ak (adV Φ s1 L2 Q) [] Xx
def OR(Φ:aj)(a0 a2 a3 bE:AV)(s1:List AV×AH)(L2:(List AV×AH)→Prop)(Q:ae):List AV→AH→Prop:=fun Lh mf=>
 Do (ab 0 bE) fun jB=>
 Do (J mf 1 false jB) fun gF=>
 Do (ai .geq gF (.int .i64 4)) fun iV=>
 Gd iV true (
 Do (ab 0 bE) fun iv=>
 Do (J mf 1 false iv) fun iM=>
 Do (ai .add (.int .i64 10) iM) fun kl=>
 Do (ab 5 bE) fun jC=>
 Do (J mf 2 true jC) fun iG=>
 Do (ai .add a3 (.int .i64 1)) fun ja=>
Φ K.f39 [a0,kl,iG,a2,ja] mf fun jD Q5=>
 ak (OQ Φ a0 a2 a3 bE s1 L2 Q) [] Q5) (
 ak (OQ Φ a0 a2 a3 bE s1 L2 Q) [] mf)
def adW(Φ:aj)(a0 a2 a3 bE:AV)(s1:List AV×AH)(L2:(List AV×AH)→Prop)(Q:ae):List AV→AH→Prop:=fun j21 fM=>
 Do (ab 0 bE) fun e_=>
 Do (J fM 1 false e_) fun gE=>
 Do (ai .eql gE (.int .i64 2)) fun dZ=>
 Gd dZ true (
 Do (ab 2 bE) fun fa=>
 Do (J fM 1 false fa) fun bW=>
Φ K.f38 [a2,bW] fM fun fY nA=>
Φ K.f35 [a0,fY,(.int .i64 6)] nA fun gX jK=>
 ak (OR Φ a0 a2 a3 bE s1 L2 Q) [] jK) (
 ak (OR Φ a0 a2 a3 bE s1 L2 Q) [] fM)
def Ip(Φ:aj)(a0 a2 a3 bE:AV)(s1:List AV×AH)(L2:(List AV×AH)→Prop)(Q:ae):List AV→AH→Prop:=fun sI hZ=>
 Gd (sl sI 0) true (
 Q (.aM []) hZ) (
 ak (adW Φ a0 a2 a3 bE s1 L2 Q) [] hZ)
def OS(Φ:aj)(a0 a2 a3 bE:AV)(s1:List AV×AH)(L2:(List AV×AH)→Prop)(Q:ae):List AV→AH→Prop:=fun Lf nR=>
 aL (sl Lf 0) false (
 Do (ab 0 bE) fun cq=>
 Do (J nR 1 false cq) fun df=>
 Do (ai .add (.int .i64 10) df) fun dG=>
 Do (ab 4 bE) fun dC=>
 Do (J nR 1 false dC) fun ey=>
Φ K.f37 [dG,ey] nR fun dH ie=>
Φ K.f35 [a0,dH,(.int .i64 11)] ie fun dY tC=>
 Do (eB .not dY) fun dN=>
 ak (Ip Φ a0 a2 a3 bE s1 L2 Q) [dN] tC) (
 ak (Ip Φ a0 a2 a3 bE s1 L2 Q) [(.bool true)] nR) (
 False)
def adX(Φ:aj)(a0 a1 a2 a3:AV)(s1:List AV×AH)(L2:(List AV×AH)→Prop)(Q:ae):List AV→AH→Prop:=fun j3 H4=>
 Do (bj none 8 a1 (sl s1.1 0)) fun bg=>
 Do (J H4 8 true bg) fun bV=>
 aJ (some (be H4 true [.int .i64 0,.int .u64 0,.str [],.int .i64 0,.int .i64 0,.str [],.aq .nil 0 [],.aq .nil 0 []])) fun bE di=>
 Do (aH di 8 bE bV) fun fH=>
 Do (ai .lss a3 (.int .i64 64)) fun bS=>
Φ K.f35 [a0,bS,(.int .i64 5)] fH fun bA fy=>
 Do (eB .not bA) fun cb=>
 aL cb false (
 Do (J fy 8 true bE) fun cK=>
Φ K.f64 [cK] fy fun dL jd=>
Φ K.f35 [a0,dL,(.int .i64 4)] jd fun dM eO=>
 Do (eB .not dM) fun dP=>
 ak (OS Φ a0 a2 a3 bE s1 L2 Q) [dP] eO) (
 ak (OS Φ a0 a2 a3 bE s1 L2 Q) [(.bool true)] fy) (
 False)
def OT(Φ:aj)(a0 a1 a2 a3:AV)(s1:List AV×AH)(L2:(List AV×AH)→Prop)(Q:ae):List AV→AH→Prop:=fun j5 H6=>
 Gd (sl j5 0) true (
 ak (adX Φ a0 a1 a2 a3 s1 L2 Q) [] H6) (
 Q (.aM []) H6)
def EA(Φ:aj)(a0 a1 a2 a3:AV)(Q:ae):(List AV×AH)→((List AV×AH)→Prop)→Prop:=fun s1 L2=>
 Do (br false a1) fun x7=>
 Do (ai .lss (sl s1.1 0) x7) fun x8=>
 aL x8 true (
 Do (bR a0) fun x9=>
 Do (ab 3 x9) fun bQ=>
 Do (ab 1 bQ) fun bH=>
 Do (J s1.2 1 false bH) fun bc=>
 Do (ai .eql bc (.int .i64 0)) fun bu=>
 ak (OT Φ a0 a1 a2 a3 s1 L2 Q) [bu] s1.2) (
 ak (OT Φ a0 a1 a2 a3 s1 L2 Q) [(.bool false)] s1.2) (
 False)
def f40(Φ:aj)(a0 a1 a2 a3:AV)(H:AH)(Q:ae):Prop:=
 aB (EA Φ a0 a1 a2 a3 Q) ([(.int .i64 0)],H)
noncomputable def aeG:bm:=bI Go.Proofs.YtbjhdakiiedmcaaGreatDoor.rb.C ⟨40,[9],[[8]],none,[],[]⟩
theorem ast(Φ:aj)(a0 a1 a2 a3:AV)(H:AH)(Q:ae):bM Φ aeG [a0,a1,a2,a3] H Q=f40 Φ a0 a1 a2 a3 H Q:=by kernel_rfl
def EB(Φ:aj)(xS:(List AV×AH)→Prop)(Q:ae):List AV→AH→Prop:=fun zP fN=>
 Gd (sl zP 0) true (
 Q (.bool false) fN) (
 xS ([],fN))
def Iq(Φ:aj)(cf:AV)(xS:(List AV×AH)→Prop)(Q:ae):List AV→AH→Prop:=fun wI eT=>
 aL (sl wI 0) true (
 Do (ai .lss cf (.int .i32 48)) fun dL=>
 aL dL false (
 Do (ai .gtr cf (.int .i32 57)) fun cO=>
 ak (EB Φ xS Q) [cO] eT) (
 ak (EB Φ xS Q) [(.bool true)] eT) (
 False)) (
 ak (EB Φ xS Q) [(.bool false)] eT) (
 False)
def OV(Φ:aj)(bg:AV)(Q:ae):(List AV×AH)→((List AV×AH)→Prop)→Prop:=fun Bl xS=>
 aJ (xb Bl.2 bg) fun cm fc=>
 Do (db 0 cm) fun aW=>
 Gd aW true (
 Do (db 2 cm) fun cf=>
Φ K.f65 [cf] fc fun bA fy=>
 Do (eB .not bA) fun cb=>
 aL cb true (
 Do (ai .neq cf (.int .i32 95)) fun cK=>
 ak (Iq Φ cf xS Q) [cK] fy) (
 ak (Iq Φ cf xS Q) [(.bool false)] fy) (
 False)) (
 Q (.bool true) fc)
def adY(Φ:aj)(a0:AV)(Q:ae):List AV→AH→Prop:=fun j1 H2=>
 aJ (BG H2 a0) fun bg dv=>
 aB (OV Φ bg Q) ([],dv)
def Ir(Φ:aj)(a0:AV)(Q:ae):List AV→AH→Prop:=fun j3 H4=>
 Gd (sl j3 0) true (
 Q (.bool false) H4) (
 ak (adY Φ a0 Q) [] H4)
def OU(Φ:aj)(a0:AV)(Q:ae):List AV→AH→Prop:=fun j5 H6=>
 aL (sl j5 0) false (
 Do (oz a0 (.int .i64 0)) fun bH=>
 Do (my .i32 bH) fun bc=>
Φ K.f65 [bc] H6 fun bu eN=>
 Do (eB .not bu) fun bG=>
 ak (Ir Φ a0 Q) [bG] eN) (
 ak (Ir Φ a0 Q) [(.bool true)] H6) (
 False)
def f41(Φ:aj)(a0:AV)(H:AH)(Q:ae):Prop:=
 Do (br true a0) fun x7=>
 Do (ai .lss x7 (.int .i64 1)) fun x8=>
 aL x8 false (
 Do (br true a0) fun x9=>
 Do (ai .gtr x9 (.int .i64 16)) fun bQ=>
 ak (OU Φ a0 Q) [bQ] H) (
 ak (OU Φ a0 Q) [(.bool true)] H) (
 False)
noncomputable def aeH:bm:=bI Go.Proofs.YtbjhdakiiedmcaaGreatDoor.rb.C ⟨41,[],[[]],none,[],[]⟩
theorem asu(Φ:aj)(a0:AV)(H:AH)(Q:ae):bM Φ aeH [a0] H Q=f41 Φ a0 H Q:=by kernel_rfl
def f42(Φ:aj)(a0:AV)(H:AH)(Q:ae):Prop:=
Φ K.f67 [(.str [118,97,114,32,116,104,114,101,97,100,32,115,116,114,117,99,116,32,117,110,105,111,110,32,112,97,99,107,101,100,32,117,56,32,117,49,54,32,117,51,50,32,117,54,52,32,97,56,32,97,49,54,32,97,51,50,32,97,54,52,32,97,49,50,56,32,108,101,116,32,115,101,116,32,119,114,105,116,101,32,115,116,111,114,101,32,108,111,97,100,50,32,115,116,111,114,101,50,32,102,101,110,99,101,32,105,102,32,101,108,115,101,32,119,104,105,108,101,32,112,114,105,110,116,32,114,101,97,100,32,108,111,97,100,32,97,100,100,32,115,119,97,112,32,99,97,115,32,114,108,120,32,97,99,113,32,114,101,108,32,115,99])] H fun x1 H2=>
Φ K.f66 [x1,a0] H2 fun x3 H4=>
 Q x3 H4
noncomputable def aeI:bm:=bI Go.Proofs.YtbjhdakiiedmcaaGreatDoor.rb.C ⟨42,[],[],none,[],[]⟩
theorem asv(Φ:aj)(a0:AV)(H:AH)(Q:ae):bM Φ aeI [a0] H Q=f42 Φ a0 H Q:=by kernel_rfl
def f43(Φ:aj)(a0 a1:AV)(H:AH)(Q:ae):Prop:=
Φ K.f68 [a0,a1] H fun x1 H2=>
 Do (ai .geq x1 (.int .i64 0)) fun x3=>
 Q x3 H2
noncomputable def aeJ:bm:=bI Go.Proofs.YtbjhdakiiedmcaaGreatDoor.rb.C ⟨43,[],[],none,[],[]⟩
theorem asw(Φ:aj)(a0 a1:AV)(H:AH)(Q:ae):bM Φ aeJ [a0,a1] H Q=f43 Φ a0 a1 H Q:=by kernel_rfl
def f44(Φ:aj)(a0 a1:AV)(H:AH)(Q:ae):Prop:=
 aJ (bB H false 7 a0) fun x1 H2=>
 Do (ab 0 x1) fun x3=>
 Do (J H2 1 false x3) fun x4=>
 Do (ab 0 a1) fun x5=>
 Do (J H2 1 false x5) fun x6=>
 Do (ai .eql x4 x6) fun x7=>
 Q x7 H2
noncomputable def aeK:bm:=bI Go.Proofs.YtbjhdakiiedmcaaGreatDoor.rb.C ⟨44,[],[],none,[],[]⟩
theorem asx(Φ:aj)(a0 a1:AV)(H:AH)(Q:ae):bM Φ aeK [a0,a1] H Q=f44 Φ a0 a1 H Q:=by kernel_rfl
def Is(Φ:aj)(a0 a2 x1:AV)(Q:ae):List AV→AH→Prop:=fun j54 nA=>
 Do (ab 8 x1) fun kF=>
 Do (J nA 1 false kF) fun m6=>
 Do (ai .add a2 (.int .i64 1)) fun mJ=>
Φ K.f27 [a0,m6,mJ] nA fun gx vZ=>
 Do (ab 1 x1) fun oS=>
 Do (J vZ 1 false oS) fun nJ=>
 Do (bR a0) fun nK=>
 Do (ab 3 nK) fun rN=>
 Do (aH vZ 1 rN nJ) fun tD=>
 Do (ab 9 x1) fun oo=>
 Do (J tD 1 false oo) fun ve=>
 Do (ai .add a2 (.int .i64 1)) fun cJ=>
Φ K.f27 [a0,ve,cJ] tD fun ui xP=>
 Q (.aM []) xP
def EC(Φ:aj)(a0 a2 x1:AV)(Q:ae):List AV→AH→Prop:=fun zO fH=>
 Do (ab 7 x1) fun gE=>
 Do (J fH 1 false gE) fun dZ=>
Φ K.f74 [a0,dZ,a2] fH fun fa kX=>
 Do (ab 0 x1) fun gX=>
 Do (J kX 1 false gX) fun c_=>
 Do (ai .eql c_ (.int .i64 1)) fun iu=>
 Gd iu true (
 Do (bR a0) fun ia=>
 Do (ab 1 ia) fun jB=>
 Do (J kX 1 false jB) fun gF=>
 Do (ab 2 x1) fun iV=>
 Do (J kX 1 false iV) fun iv=>
 aJ (fb kX false 1 1 [.str []] [(0,1,iv)]) fun iM pF=>
 aJ (eF pF true 1 16 gF iM) fun jC Km=>
 Do (bR a0) fun ja=>
 Do (ab 1 ja) fun jD=>
 Do (aH Km 1 jD jC) fun Q5=>
 Do (bR a0) fun jh=>
 Do (ab 2 jh) fun jE=>
 Do (J Q5 1 false jE) fun ji=>
 Do (ai .add ji (.int .i64 1)) fun eJ=>
 Do (bR a0) fun jP=>
 Do (ab 2 jP) fun mZ=>
 Do (aH Q5 1 mZ eJ) fun F6=>
 ak (Is Φ a0 a2 x1 Q) [] F6) (
 Do (ai .eql c_ (.int .i64 5)) fun uj=>
 Gd uj true (
 Do (ab 2 x1) fun km=>
 Do (J kX 1 false km) fun uk=>
Φ K.f72 [a0,uk] kX fun sO Kn=>
Φ K.f69 [a0,sO,(.int .i64 6)] Kn fun sP AQ=>
 Do (ab 3 x1) fun ru=>
 Do (J AQ 1 false ru) fun tr=>
Φ K.f72 [a0,tr] AQ fun rv av6=>
Φ K.f69 [a0,rv,(.int .i64 6)] av6 fun xG Cn=>
 Do (ab 2 x1) fun se=>
 Do (J Cn 1 false se) fun ry=>
 Do (ab 3 x1) fun tt=>
 Do (J Cn 1 false tt) fun pE=>
 Do (ai .neq ry pE) fun tv=>
Φ K.f69 [a0,tv,(.int .i64 7)] Cn fun qz VZ=>
 ak (Is Φ a0 a2 x1 Q) [] VZ) (
 ak (Is Φ a0 a2 x1 Q) [] kX))
def OW(Φ:aj)(a0 a2 x1:AV)(Q:ae):List AV→AH→Prop:=fun zP fN=>
 Do (ab 2 x1) fun cq=>
 Do (J fN 1 false cq) fun df=>
Φ K.f72 [a0,df] fN fun dG jY=>
 Do (eB .not dG) fun ey=>
Φ K.f69 [a0,ey,(.int .i64 7)] jY fun dH ie=>
 Do (bR a0) fun dY=>
 Do (ab 2 dY) fun dJ=>
 Do (J ie 1 false dJ) fun dN=>
 Do (ai .lss dN (.int .i64 40)) fun dS=>
Φ K.f69 [a0,dS,(.int .i64 12)] ie fun eE si=>
 ak (EC Φ a0 a2 x1 Q) [] si
def ED(Φ:aj)(a0 a2 x1:AV)(Q:ae):List AV→AH→Prop:=fun axz Cq=>
 Gd (sl axz 0) true (
 Do (ab 0 x1) fun zc=>
 Do (J Cq 1 false zc) fun tz=>
 Do (ab 5 x1) fun vW=>
 Do (J Cq 2 true vW) fun tA=>
Φ K.f73 [a0,tz,tA,a2] Cq fun xL V1=>
 ak (EC Φ a0 a2 x1 Q) [] V1) (
 ak (EC Φ a0 a2 x1 Q) [] Cq)
def f45(Φ:aj)(a0 a1 a2:AV)(H:AH)(Q:ae):Prop:=
 aJ (bB H false 10 a1) fun x1 H2=>
 Do (ai .leq a2 (.int .i64 64)) fun x3=>
Φ K.f69 [a0,x3,(.int .i64 5)] H2 fun x4 H5=>
 Do (J H5 10 true x1) fun x6=>
Φ K.f70 [x6] H5 fun x7 H8=>
Φ K.f69 [a0,x7,(.int .i64 4)] H8 fun x9 bZ=>
 Do (ab 0 x1) fun bH=>
 Do (J bZ 1 false bH) fun bc=>
 Do (ab 4 x1) fun bu=>
 Do (J bZ 1 false bu) fun bN=>
Φ K.f71 [bc,bN] bZ fun bG iP=>
Φ K.f69 [a0,bG,(.int .i64 11)] iP fun bV fx=>
 Do (ab 0 x1) fun bO=>
 Do (J fx 1 false bO) fun aW=>
 Do (ai .eql aW (.int .i64 1)) fun cf=>
 Gd cf true (
 Do (ab 2 x1) fun b_=>
 Do (J fx 1 false b_) fun bS=>
Φ K.f41 [bS] fx fun bA fy=>
 aL bA true (
 Do (ab 2 x1) fun cb=>
 Do (J fy 1 false cb) fun cK=>
Φ K.f42 [cK] fy fun dL jd=>
 Do (eB .not dL) fun dM=>
Φ K.f69 [a0,dM,(.int .i64 6)] jd fun eW je=>
 ak (OW Φ a0 a2 x1 Q) [] je) (
Φ K.f69 [a0,(.bool false),(.int .i64 6)] fy fun mU Fp=>
 ak (OW Φ a0 a2 x1 Q) [] Fp) (
 False)) (
 Do (ai .eql aW (.int .i64 2)) fun sf=>
 Gd sf true (
 Do (ab 2 x1) fun tw=>
 Do (J fx 1 false tw) fun rz=>
Φ K.f72 [a0,rz] fx fun vU av_=>
Φ K.f69 [a0,vU,(.int .i64 6)] av_ fun vV QC=>
 ak (EC Φ a0 a2 x1 Q) [] QC) (
 Do (ai .eql aW (.int .i64 3)) fun xK=>
 Gd xK true (
 ak (ED Φ a0 a2 x1 Q) [xK] fx) (
 Do (ai .eql aW (.int .i64 4)) fun CL=>
 Gd CL true (
 ak (ED Φ a0 a2 x1 Q) [CL] fx) (
 Do (ai .eql aW (.int .i64 5)) fun xM=>
 Gd xM true (
 ak (ED Φ a0 a2 x1 Q) [xM] fx) (
 Do (ai .eql aW (.int .i64 6)) fun zd=>
 ak (ED Φ a0 a2 x1 Q) [zd] fx)))))
noncomputable def aeL:bm:=bI Go.Proofs.YtbjhdakiiedmcaaGreatDoor.rb.C ⟨45,[87],[],none,[],[]⟩
theorem asy(Φ:aj)(a0 a1 a2:AV)(H:AH)(Q:ae):bM Φ aeL [a0,a1,a2] H Q=f45 Φ a0 a1 a2 H Q:=by kernel_rfl
def f46(Φ:aj)(a0:AV)(H:AH)(Q:ae):Prop:=
 aJ (bB H false 6 a0) fun x1 H2=>
 aJ (some (be H2 true [.int .i64 0,.int .i64 0])) fun x3 H4=>
 Do (J H4 6 true x1) fun x5=>
Φ K.f75 [x5] H4 fun x6 H7=>
 Do (ai .neq x6 (.int .i64 0)) fun x8=>
 Gd x8 true (
 Do (bJ [.int .i64 0,.int .i64 0] []) fun x9=>
 Do (aH H7 2 x3 x9) fun bZ=>
 Do (J bZ 2 true x3) fun bH=>
 Q (.aM [bH,x6]) bZ) (
 Do (J H7 6 true x1) fun bc=>
Φ K.f76 [bc] H7 fun bu eN=>
 Gd bu true (
 Do (bJ [.int .i64 0,.int .i64 0] []) fun bG=>
 Do (aH eN 2 x3 bG) fun iP=>
 Do (J iP 2 true x3) fun bV=>
 Q (.aM [bV,(.int .i64 10)]) iP) (
 Do (J eN 6 true x1) fun bE=>
Φ K.f77 [bE] eN fun cI fH=>
 Do (db 0 cI) fun bO=>
 Do (db 1 cI) fun aW=>
 aJ (some (be fH true [.int .i64 0,.int .i64 0])) fun cf hZ=>
 Do (aH hZ 2 cf bO) fun fN=>
 Do (eB .not aW) fun b_=>
 Gd b_ true (
 Do (bJ [.int .i64 0,.int .i64 0] []) fun bS=>
 Do (aH fN 2 x3 bS) fun iA=>
 Do (J iA 2 true x3) fun dx=>
 Q (.aM [dx,(.int .i64 9)]) iA) (
 Do (J fN 2 true cf) fun cb=>
 Do (aH fN 2 x3 cb) fun gj=>
 Do (J gj 2 true x3) fun dL=>
 Q (.aM [dL,(.int .i64 0)]) gj)))
noncomputable def aeM:bm:=bI Go.Proofs.YtbjhdakiiedmcaaGreatDoor.rb.C ⟨46,[2,5],[],none,[],[]⟩
theorem asz(Φ:aj)(a0:AV)(H:AH)(Q:ae):bM Φ aeM [a0] H Q=f46 Φ a0 H Q:=by kernel_rfl
def f47(Φ:aj)(a0 a1:AV)(H:AH)(Q:ae):Prop:=
 aJ (bB H false 8 a1) fun x1 H2=>
 Do (ab 0 x1) fun x3=>
 Do (J H2 1 false x3) fun x4=>
 Do (ai .eql x4 (.int .i64 1)) fun x5=>
 Gd x5 true (
 Do (ab 1 x1) fun x6=>
 Do (J H2 1 false x6) fun x7=>
Φ K.f78 [a0,x7] H2 fun x8 H9=>
 Q x8 H9) (
 Do (ai .eql x4 (.int .i64 2)) fun bQ=>
 Gd bQ true (
 Do (ab 2 x1) fun bH=>
 Do (J H2 1 false bH) fun bc=>
Φ K.f50 [a0,bc] H2 fun bu eN=>
 Q bu eN) (
 Do (ai .eql x4 (.int .i64 3)) fun bG=>
 Gd bG true (
 Do (ab 7 x1) fun bg=>
 Do (J H2 1 false bg) fun bV=>
 Do (bj none 8 bV (.int .i64 0)) fun bE=>
 Do (J H2 8 true bE) fun cI=>
Φ K.f47 [a0,cI] H2 fun cm fc=>
 Do (ab 3 x1) fun aW=>
 Do (J fc 1 false aW) fun cf=>
 Do (ab 7 x1) fun cw=>
 Do (J fc 1 false cw) fun cB=>
 Do (bj none 8 cB (.int .i64 1)) fun b_=>
 Do (J fc 8 true b_) fun bS=>
Φ K.f47 [a0,bS] fc fun bA fy=>
(J fy 1 false aW=some cf) ∧
(Φ K.f79 [a0,cf,cm,bA] fy fun cb gj=>
 Q cb gj)) (
 Do (ai .eql x4 (.int .i64 4)) fun dL=>
 Gd dL true (
 Do (ab 5 x1) fun cO=>
 Do (J H2 2 true cO) fun dM=>
Φ K.f80 [a0,dM] H2 fun eW je=>
 Q eW je) (
 Do (J H2 8 true x1) fun cq=>
Φ K.f81 [a0,cq] H2 fun df gT=>
 Q df gT))))
noncomputable def aeN:bm:=bI Go.Proofs.YtbjhdakiiedmcaaGreatDoor.rb.C ⟨47,[],[],none,[],[]⟩
theorem asA(Φ:aj)(a0 a1:AV)(H:AH)(Q:ae):bM Φ aeN [a0,a1] H Q=f47 Φ a0 a1 H Q:=by kernel_rfl
def f48(Φ:aj)(a0:AV)(H:AH)(Q:ae):Prop:=
 Do (bR a0) fun x1=>
 Do (ab 3 x1) fun x2=>
 Do (J H 1 false x2) fun x3=>
 Do (ai .add x3 (.int .i64 1)) fun x4=>
 Do (bR a0) fun x5=>
 Do (ab 3 x5) fun x6=>
 Do (aH H 1 x6 x4) fun H7=>
 Do (bR a0) fun x8=>
 Do (ab 3 x8) fun x9=>
 Do (J H7 1 false x9) fun bQ=>
 Do (ai .sub bQ (.int .i64 1)) fun bH=>
 Q bH H7
noncomputable def aeO:bm:=bI Go.Proofs.YtbjhdakiiedmcaaGreatDoor.rb.C ⟨48,[],[],none,[],[]⟩
theorem asB(Φ:aj)(a0:AV)(H:AH)(Q:ae):bM Φ aeO [a0] H Q=f48 Φ a0 H Q:=by kernel_rfl
def f49(Φ:aj)(a0 a1 a2:AV)(H:AH)(Q:ae):Prop:=
Φ K.f54 [(.int .i64 2)] H fun x1 H2=>
 aJ (some (be H2 true [.int .i64 0,.int .i64 0,.int .i64 0,.int .i64 0,.int .i64 0,.int .i64 0,.int .u64 0,.int .i64 0,.int .i64 0,.int .i64 0,.int .i64 0,.int .i64 0,.int .i64 0])) fun x3 H4=>
 Do (aH H4 13 x3 x1) fun H5=>
 Do (ab 1 x3) fun x6=>
 Do (aH H5 1 x6 a1) fun H7=>
 Do (ab 3 x3) fun x8=>
 Do (aH H7 1 x8 a2) fun H9=>
 Do (J H9 13 true x3) fun bQ=>
Φ K.f56 [a0,bQ] H9 fun bH dQ=>
 Q (.aM []) dQ
noncomputable def aeP:bm:=bI Go.Proofs.YtbjhdakiiedmcaaGreatDoor.rb.C ⟨49,[6],[],none,[],[]⟩
theorem asC(Φ:aj)(a0 a1 a2:AV)(H:AH)(Q:ae):bM Φ aeP [a0,a1,a2] H Q=f49 Φ a0 a1 a2 H Q:=by kernel_rfl
def f50(Φ:aj)(a0 a1:AV)(H:AH)(Q:ae):Prop:=
 aJ (bB H false 1 a1) fun x1 H2=>
 Do (bR a0) fun x3=>
 Do (ab 7 x3) fun x4=>
 Do (J H2 1 false x4) fun x5=>
Φ K.f82 [x5,(.fn K.f83 [x1])] H2 fun x6 H7=>
 Do (bR a0) fun x8=>
 Do (ab 7 x8) fun x9=>
 Do (J H7 1 false x9) fun bQ=>
 Do (bj none 2 bQ x6) fun bH=>
 Do (ab 1 bH) fun bc=>
 Do (J H7 1 false bc) fun bu=>
 Q bu H7
noncomputable def aeQ:bm:=bI Go.Proofs.YtbjhdakiiedmcaaGreatDoor.rb.C ⟨50,[],[],none,[],[]⟩
theorem asD(Φ:aj)(a0 a1:AV)(H:AH)(Q:ae):bM Φ aeQ [a0,a1] H Q=f50 Φ a0 a1 H Q:=by kernel_rfl
def OX(Φ:aj)(a0 x8 bG bE:AV)(Q:ae):List AV→AH→Prop:=fun yp fc=>
 Do (J fc 8 true x8) fun fZ=>
Φ K.f89 [a0,fZ,bG,(sl yp 0),bE] fc fun gX jK=>
 Q (.aM []) jK
def f51(Φ:aj)(a0 a1 a2:AV)(H:AH)(Q:ae):Prop:=
 aJ (bB H false 2 a1) fun x1 H2=>
 aJ (bB H2 false 8 a2) fun x3 H4=>
 Do (J H4 2 true x1) fun x5=>
Φ K.f84 [a0,x5] H4 fun x6 H7=>
 aJ (some (be H7 true [.int .i64 0,.int .i64 0,.int .i64 0,.bool false,.int .i64 0,.int .i64 0,.int .i64 0,.int .i64 0])) fun x8 H9=>
 Do (aH H9 8 x8 x6) fun bZ=>
 Do (J bZ 8 true x3) fun bH=>
Φ K.f47 [a0,bH] bZ fun bc de=>
 Do (J de 8 true x8) fun bN=>
Φ K.f85 [a0,bN] de fun bG iP=>
 Do (J iP 2 true x1) fun bV=>
Φ K.f55 [a0,(.int .i64 3),(.int .i64 0),bV] iP fun bE di=>
 Do (ab 0 x8) fun aW=>
 Do (ab 3 aW) fun cf=>
 Do (J di 1 false cf) fun cw=>
 Gd cw true (
 Do (J di 8 true x8) fun cB=>
Φ K.f86 [a0,cB,bG,bE] di fun b_ eT=>
 Do (ab 0 x8) fun bA=>
 Do (ab 5 bA) fun dx=>
 Do (J eT 1 false dx) fun cb=>
 Do (ab 0 x8) fun cK=>
 Do (ab 4 cK) fun dL=>
 Do (J eT 1 false dL) fun cO=>
Φ K.f88 [cb] eT fun dM eO=>
(J eO 1 false dL=some cO) ∧
(Do (ai .shl dM cO) fun dP=>
 Do (eB .xor dP) fun cq=>
Φ K.f87 [a0,(.int .i64 4),b_,cq] eO fun df gT=>
 Do (ab 0 x8) fun dC=>
 Do (ab 5 dC) fun ey=>
 Do (J gT 1 false ey) fun dH=>
 Do (ab 0 x8) fun dR=>
 Do (ab 4 dR) fun dY=>
 Do (J gT 1 false dY) fun dJ=>
 Do (my .u64 dJ) fun dN=>
Φ K.f88 [dH] gT fun dS mf=>
(J mf 1 false dY=some dJ) ∧
(Φ K.f87 [a0,(.int .i64 4),bc,dS] mf fun e_ gB=>
(J gB 1 false dY=some dJ) ∧
(Φ K.f87 [a0,(.int .i64 7),e_,dN] gB fun dZ iQ=>
Φ K.f79 [a0,(.int .i64 5),df,dZ] iQ fun bW mD=>
 ak (OX Φ a0 x8 bG bE Q) [bW] mD)))) (
 ak (OX Φ a0 x8 bG bE Q) [bc] di)
noncomputable def aeR:bm:=bI Go.Proofs.YtbjhdakiiedmcaaGreatDoor.rb.C ⟨51,[6],[],none,[],[]⟩
theorem asE(Φ:aj)(a0 a1 a2:AV)(H:AH)(Q:ae):bM Φ aeR [a0,a1,a2] H Q=f51 Φ a0 a1 a2 H Q:=by kernel_rfl
def OY(Φ:aj)(a0 x1 x7 bc:AV)(Q:ae):List AV→AH→Prop:=fun sI hZ=>
 Do (J hZ 8 true x7) fun df=>
Φ K.f85 [a0,df] hZ fun dG jY=>
 Do (ab 3 bc) fun ey=>
 Do (aH jY 1 ey dG) fun jJ=>
 Do (ab 0 x7) fun dR=>
 Do (ab 0 dR) fun dY=>
 Do (ab 1 dY) fun dJ=>
 Do (J jJ 1 false dJ) fun dN=>
 Do (ab 4 x1) fun dS=>
 Do (J jJ 1 false dS) fun eE=>
 Do (ab 0 x1) fun e_=>
 Do (J jJ 1 false e_) fun gE=>
 Do (ab 4 x1) fun dZ=>
 Do (J jJ 1 false dZ) fun fa=>
 Do (ab 5 x1) fun bW=>
 Do (J jJ 2 true bW) fun fY=>
 Do (ab 8 bc) fun fZ=>
Φ K.f55 [a0,gE,fa,fY] jJ fun gX jK=>
(J jK 1 false dJ=some dN) ∧
(J jK 1 false dS=some eE) ∧
(Do (aH jK 1 fZ dN) fun nS=>
(J nS 1 false dS=some eE) ∧
(Do (ab 9 bc) fun ia=>
 Do (aH nS 1 ia eE) fun mV=>
 Do (ab 11 bc) fun gF=>
 Do (aH mV 1 gF gX) fun oI=>
 Do (J oI 13 true bc) fun iv=>
Φ K.f56 [a0,iv] oI fun iM pF=>
 Q (.aM []) pF))
def f52(Φ:aj)(a0 a1:AV)(H:AH)(Q:ae):Prop:=
 aJ (bB H false 10 a1) fun x1 H2=>
 Do (ab 5 x1) fun x3=>
 Do (J H2 2 true x3) fun x4=>
Φ K.f84 [a0,x4] H2 fun x5 H6=>
 aJ (some (be H6 true [.int .i64 0,.int .i64 0,.int .i64 0,.bool false,.int .i64 0,.int .i64 0,.int .i64 0,.int .i64 0])) fun x7 H8=>
 Do (aH H8 8 x7 x5) fun H9=>
Φ K.f54 [(.int .i64 7)] H9 fun bQ cy=>
 aJ (some (be cy true [.int .i64 0,.int .i64 0,.int .i64 0,.int .i64 0,.int .i64 0,.int .i64 0,.int .u64 0,.int .i64 0,.int .i64 0,.int .i64 0,.int .i64 0,.int .i64 0,.int .i64 0])) fun bc de=>
 Do (aH de 13 bc bQ) fun eN=>
 Do (ab 7 x1) fun bG=>
 Do (J eN 1 false bG) fun bg=>
 Do (bj none 8 bg (.int .i64 0)) fun bV=>
 Do (J eN 8 true bV) fun bE=>
Φ K.f47 [a0,bE] eN fun cI fH=>
 Do (ab 4 bc) fun bO=>
 Do (aH fH 1 bO cI) fun fM=>
 Do (ab 0 x1) fun cB=>
 Do (J fM 1 false cB) fun b_=>
 Do (ai .eql b_ (.int .i64 6)) fun bS=>
 Gd bS true (
 Do (ab 0 bc) fun bA=>
 Do (aH fM 1 bA (.int .i64 12)) fun fy=>
 Do (ab 7 x1) fun cb=>
 Do (J fy 1 false cb) fun cK=>
 Do (bj none 8 cK (.int .i64 1)) fun dL=>
 Do (J fy 8 true dL) fun cO=>
Φ K.f47 [a0,cO] fy fun dM eO=>
 Do (ab 5 bc) fun dP=>
 Do (aH eO 1 dP dM) fun qA=>
 ak (OY Φ a0 x1 x7 bc Q) [] qA) (
 ak (OY Φ a0 x1 x7 bc Q) [] fM)
noncomputable def aeS:bm:=bI Go.Proofs.YtbjhdakiiedmcaaGreatDoor.rb.C ⟨52,[4,5],[],none,[],[]⟩
theorem asF(Φ:aj)(a0 a1:AV)(H:AH)(Q:ae):bM Φ aeS [a0,a1] H Q=f52 Φ a0 a1 H Q:=by kernel_rfl
def f53(Φ:aj)(a0 a1:AV)(H:AH)(Q:ae):Prop:=
 aJ (bB H false 10 a1) fun x1 H2=>
 Do (ab 5 x1) fun x3=>
 Do (J H2 2 true x3) fun x4=>
Φ K.f84 [a0,x4] H2 fun x5 H6=>
 aJ (some (be H6 true [.int .i64 0,.int .i64 0,.int .i64 0,.bool false,.int .i64 0,.int .i64 0,.int .i64 0,.int .i64 0])) fun x7 H8=>
 Do (aH H8 8 x7 x5) fun H9=>
Φ K.f54 [(.int .i64 11)] H9 fun bQ cy=>
 aJ (some (be cy true [.int .i64 0,.int .i64 0,.int .i64 0,.int .i64 0,.int .i64 0,.int .i64 0,.int .u64 0,.int .i64 0,.int .i64 0,.int .i64 0,.int .i64 0,.int .i64 0,.int .i64 0])) fun bc de=>
 Do (aH de 13 bc bQ) fun eN=>
 Do (J eN 8 true x7) fun bG=>
Φ K.f85 [a0,bG] eN fun bg dv=>
 Do (ab 3 bc) fun bE=>
 Do (aH dv 1 bE bg) fun di=>
 Do (ab 0 x7) fun cm=>
 Do (ab 0 cm) fun bO=>
 Do (ab 1 bO) fun aW=>
 Do (J di 1 false aW) fun cf=>
 Do (ab 4 x1) fun cw=>
 Do (J di 1 false cw) fun cB=>
 Do (ab 0 x1) fun b_=>
 Do (J di 1 false b_) fun bS=>
 Do (ab 4 x1) fun bA=>
 Do (J di 1 false bA) fun dx=>
 Do (ab 5 x1) fun cb=>
 Do (J di 2 true cb) fun cK=>
Φ K.f48 [a0] di fun dL jd=>
(J jd 1 false aW=some cf) ∧
(J jd 1 false cw=some cB) ∧
(J jd 1 false b_=some bS) ∧
(J jd 1 false bA=some dx) ∧
(J jd 2 true cb=some cK) ∧
(Do (ab 1 bc) fun dM=>
Φ K.f48 [a0] jd fun eW je=>
(J je 1 false aW=some cf) ∧
(J je 1 false cw=some cB) ∧
(J je 1 false b_=some bS) ∧
(J je 1 false bA=some dx) ∧
(J je 2 true cb=some cK) ∧
(Φ K.f55 [a0,bS,dx,cK] je fun cq kB=>
(J kB 1 false aW=some cf) ∧
(J kB 1 false cw=some cB) ∧
(Do (aH kB 1 dM dL) fun gT=>
(J gT 1 false aW=some cf) ∧
(J gT 1 false cw=some cB) ∧
(Do (ab 2 bc) fun dC=>
 Do (aH gT 1 dC eW) fun gA=>
(J gA 1 false aW=some cf) ∧
(J gA 1 false cw=some cB) ∧
(Do (ab 8 bc) fun dH=>
 Do (aH gA 1 dH cf) fun ie=>
(J ie 1 false cw=some cB) ∧
(Do (ab 9 bc) fun dY=>
 Do (aH ie 1 dY cB) fun tC=>
 Do (ab 11 bc) fun dN=>
 Do (aH tC 1 dN cq) fun zh=>
 Do (J zh 13 true bc) fun eE=>
Φ K.f56 [a0,eE] zh fun e_ gB=>
 Do (ab 2 x1) fun dZ=>
 Do (J gB 1 false dZ) fun fa=>
 Do (ab 1 bc) fun bW=>
 Do (J gB 1 false bW) fun fY=>
Φ K.f50 [a0,fa] gB fun fZ qB=>
(J qB 1 false bW=some fY) ∧
(Φ K.f49 [a0,fZ,fY] qB fun c_ nS=>
 Do (ab 3 x1) fun ia=>
 Do (J nS 1 false ia) fun jB=>
 Do (ab 2 bc) fun gF=>
 Do (J nS 1 false gF) fun iV=>
Φ K.f50 [a0,jB] nS fun iv qC=>
(J qC 1 false gF=some iV) ∧
(Φ K.f49 [a0,iv,iV] qC fun kl xO=>
 Q (.aM []) xO))))))))
noncomputable def aeT:bm:=bI Go.Proofs.YtbjhdakiiedmcaaGreatDoor.rb.C ⟨53,[4,5],[],none,[],[]⟩
theorem asG(Φ:aj)(a0 a1:AV)(H:AH)(Q:ae):bM Φ aeT [a0,a1] H Q=f53 Φ a0 a1 H Q:=by kernel_rfl
def f54(Φ:aj)(a0:AV)(H:AH)(Q:ae):Prop:=
 aJ (some (be H true [.int .i64 0,.int .i64 0,.int .i64 0,.int .i64 0,.int .i64 0,.int .i64 0,.int .u64 0,.int .i64 0,.int .i64 0,.int .i64 0,.int .i64 0,.int .i64 0,.int .i64 0])) fun x1 H2=>
 Do (bJ [.int .i64 0,.int .i64 0,.int .i64 0,.int .i64 0,.int .i64 0,.int .i64 0,.int .u64 0,.int .i64 0,.int .i64 0,.int .i64 0,.int .i64 0,.int .i64 0,.int .i64 0] [(0,1,a0),(1,1,(.int .i64 (-1))),(2,1,(.int .i64 (-1))),(3,1,(.int .i64 (-1))),(4,1,(.int .i64 (-1))),(5,1,(.int .i64 (-1)))]) fun x3=>
 Do (aH H2 13 x1 x3) fun H4=>
 Do (J H4 13 true x1) fun x5=>
 Q x5 H4
noncomputable def aeU:bm:=bI Go.Proofs.YtbjhdakiiedmcaaGreatDoor.rb.C ⟨54,[2],[],none,[],[]⟩
theorem asH(Φ:aj)(a0:AV)(H:AH)(Q:ae):bM Φ aeU [a0] H Q=f54 Φ a0 H Q:=by kernel_rfl
def f55(Φ:aj)(a0 a1 a2 a3:AV)(H:AH)(Q:ae):Prop:=
 aJ (bB H false 2 a3) fun x1 H2=>
 Do (bR a0) fun x3=>
 Do (ab 5 x3) fun x4=>
 Do (J H2 1 false x4) fun x5=>
 Do (bR a0) fun x6=>
 Do (ab 6 x6) fun x7=>
 Do (J H2 1 false x7) fun x8=>
 Do (J H2 2 true x1) fun x9=>
 Do (bJ [.int .i64 0,.int .i64 0,.int .i64 0,.str [],.aq .nil 0 []] [(0,1,a1),(1,1,a2),(2,1,x8),(3,2,x9)]) fun bQ=>
 aJ (fb H2 false 5 1 [.int .i64 0,.int .i64 0,.int .i64 0,.str [],.aq .nil 0 []] [(0,5,bQ)]) fun bH dQ=>
 aJ (eF dQ false 5 64 x5 bH) fun bu eN=>
 Do (bR a0) fun bG=>
 Do (ab 5 bG) fun bg=>
 Do (aH eN 1 bg bu) fun dv=>
 Do (bR a0) fun bE=>
 Do (ab 5 bE) fun cI=>
 Do (J dv 1 false cI) fun cm=>
 Do (br false cm) fun bO=>
 Q bO dv
noncomputable def aeV:bm:=bI Go.Proofs.YtbjhdakiiedmcaaGreatDoor.rb.C ⟨55,[],[],none,[],[]⟩
theorem asI(Φ:aj)(a0 a1 a2 a3:AV)(H:AH)(Q:ae):bM Φ aeV [a0,a1,a2,a3] H Q=f55 Φ a0 a1 a2 a3 H Q:=by kernel_rfl
def f56(Φ:aj)(a0 a1:AV)(H:AH)(Q:ae):Prop:=
 aJ (bB H true 13 a1) fun x1 H2=>
 Do (bR a0) fun x3=>
 Do (ab 6 x3) fun x4=>
 Do (J H2 1 false x4) fun x5=>
 Do (ab 12 x1) fun x6=>
 Do (aH H2 1 x6 x5) fun H7=>
 Do (bR a0) fun x8=>
 Do (ab 2 x8) fun x9=>
 Do (J H7 1 false x9) fun bQ=>
 Do (J H7 13 true x1) fun bH=>
 aJ (fb H7 false 13 1 [.int .i64 0,.int .i64 0,.int .i64 0,.int .i64 0,.int .i64 0,.int .i64 0,.int .u64 0,.int .i64 0,.int .i64 0,.int .i64 0,.int .i64 0,.int .i64 0,.int .i64 0] [(0,13,bH)]) fun bc de=>
 aJ (eF de false 13 104 bQ bc) fun bN eD=>
 Do (bR a0) fun bg=>
 Do (ab 2 bg) fun bV=>
 Do (aH eD 1 bV bN) fun fx=>
 Q (.aM []) fx
noncomputable def aeW:bm:=bI Go.Proofs.YtbjhdakiiedmcaaGreatDoor.rb.C ⟨56,[3],[],none,[],[]⟩
theorem asJ(Φ:aj)(a0 a1:AV)(H:AH)(Q:ae):bM Φ aeW [a0,a1] H Q=f56 Φ a0 a1 H Q:=by kernel_rfl
def f57(Φ:aj)(a0 a1:AV)(H:AH)(Q:ae):Prop:=
 aJ (bB H false 10 a1) fun x1 H2=>
Φ K.f90 [a0] H2 fun x3 H4=>
Φ K.f90 [a0] H4 fun x5 H6=>
 Do (ab 7 x1) fun x7=>
 Do (J H6 1 false x7) fun x8=>
 Do (bj none 8 x8 (.int .i64 0)) fun x9=>
 Do (J H6 8 true x9) fun bQ=>
Φ K.f47 [a0,bQ] H6 fun bH dQ=>
Φ K.f91 [a0,x3,bH] dQ fun bu eN=>
 Do (ab 8 x1) fun bG=>
 Do (J eN 1 false bG) fun bg=>
Φ K.f12 [a0,bg] eN fun bV fx=>
 Do (ab 1 x1) fun cI=>
 Do (J fx 1 false cI) fun cm=>
 Do (bR a0) fun bO=>
 Do (ab 6 bO) fun aW=>
 Do (aH fx 1 aW cm) fun gq=>
Φ K.f91 [a0,x5,(.int .i64 (-1))] gq fun cw fN=>
Φ K.f92 [a0,x3] fN fun b_ eT=>
 Do (ab 9 x1) fun bA=>
 Do (J eT 1 false bA) fun dx=>
Φ K.f12 [a0,dx] eT fun cb gj=>
 Do (ab 1 x1) fun dL=>
 Do (J gj 1 false dL) fun cO=>
 Do (bR a0) fun dM=>
 Do (ab 6 dM) fun eW=>
 Do (aH gj 1 eW cO) fun je=>
Φ K.f92 [a0,x5] je fun cq kB=>
 Q (.aM []) kB
noncomputable def aeX:bm:=bI Go.Proofs.YtbjhdakiiedmcaaGreatDoor.rb.C ⟨57,[],[],none,[],[]⟩
theorem asK(Φ:aj)(a0 a1:AV)(H:AH)(Q:ae):bM Φ aeX [a0,a1] H Q=f57 Φ a0 a1 H Q:=by kernel_rfl
def f58(Φ:aj)(a0 a1:AV)(H:AH)(Q:ae):Prop:=
 aJ (bB H false 10 a1) fun x1 H2=>
Φ K.f90 [a0] H2 fun x3 H4=>
Φ K.f90 [a0] H4 fun x5 H6=>
Φ K.f92 [a0,x3] H6 fun x7 H8=>
 Do (ab 7 x1) fun x9=>
 Do (J H8 1 false x9) fun bQ=>
 Do (bj none 8 bQ (.int .i64 0)) fun bH=>
 Do (J H8 8 true bH) fun bc=>
Φ K.f47 [a0,bc] H8 fun bu eN=>
Φ K.f91 [a0,x5,bu] eN fun bG iP=>
 Do (ab 8 x1) fun bV=>
 Do (J iP 1 false bV) fun bE=>
Φ K.f12 [a0,bE] iP fun cI fH=>
 Do (ab 1 x1) fun bO=>
 Do (J fH 1 false bO) fun aW=>
 Do (bR a0) fun cf=>
 Do (ab 6 cf) fun cw=>
 Do (aH fH 1 cw aW) fun fN=>
Φ K.f91 [a0,x3,(.int .i64 (-1))] fN fun b_ eT=>
Φ K.f92 [a0,x5] eT fun bA fy=>
 Q (.aM []) fy
noncomputable def aeY:bm:=bI Go.Proofs.YtbjhdakiiedmcaaGreatDoor.rb.C ⟨58,[],[],none,[],[]⟩
theorem asL(Φ:aj)(a0 a1:AV)(H:AH)(Q:ae):bM Φ aeY [a0,a1] H Q=f58 Φ a0 a1 H Q:=by kernel_rfl
end Rb.S

namespace Rb.S
open Go
def OZ(Φ:aj)(s5:List AV×AH)(L6:(List AV×AH)→Prop)(Q:ae):List AV→AH→Prop:=fun RN dv=>
 Do (ai .add (sl s5.1 1) (.int .i64 1)) fun bS=>
 L6 ([(sl RN 0),bS],dv)
def adZ(Φ:aj)(a1 x1:AV)(s5:List AV×AH)(L6:(List AV×AH)→Prop)(Q:ae):List AV→AH→Prop:=fun j7 H8=>
 Do (ab 3 x1) fun bE=>
 Do (J H8 1 false bE) fun cI=>
 Do (bj none 9 cI (sl s5.1 1)) fun cm=>
 Do (ab 1 cm) fun bO=>
 Do (J H8 6 true bO) fun aW=>
 Do (ai .sub a1 (.int .i64 1)) fun cf=>
Φ K.f59 [aW,cf] H8 fun cw fN=>
 Do (ai .gtr cw (sl s5.1 0)) fun b_=>
 Gd b_ true (
 ak (OZ Φ s5 L6 Q) [cw] fN) (
 ak (OZ Φ s5 L6 Q) [(sl s5.1 0)] fN)
def O0(Φ:aj)(p5:List AV×AH)(zm:(List AV×AH)→Prop)(Q:ae):List AV→AH→Prop:=fun Lg jJ=>
 Do (ai .add (sl p5.1 1) (.int .i64 1)) fun dZ=>
 zm ([(sl Lg 0),dZ],jJ)
def ad2(Φ:aj)(a1 x1:AV)(p5:List AV×AH)(zm:(List AV×AH)→Prop)(Q:ae):List AV→AH→Prop:=fun j32 jd=>
 Do (ab 5 x1) fun dR=>
 Do (J jd 1 false dR) fun dY=>
 Do (bj none 6 dY (sl p5.1 1)) fun dJ=>
 Do (J jd 6 true dJ) fun dN=>
 Do (ai .sub a1 (.int .i64 1)) fun dS=>
Φ K.f59 [dN,dS] jd fun eE si=>
 Do (ai .gtr eE (sl p5.1 0)) fun gE=>
 Gd gE true (
 ak (O0 Φ p5 zm Q) [eE] si) (
 ak (O0 Φ p5 zm Q) [(sl p5.1 0)] si)
def UN(Φ:aj)(Q:ae):List AV→AH→Prop:=fun j28 fy=>
 Do (ai .add (sl j28 0) (.int .i64 1)) fun fa=>
 Q fa fy
def O3(Φ:aj)(a1 x1:AV)(p5:List AV×AH)(zm:(List AV×AH)→Prop)(Q:ae):List AV→AH→Prop:=fun rH eO=>
 Gd (sl rH 0) true (
 ak (ad2 Φ a1 x1 p5 zm Q) [] eO) (
 ak (UN Φ Q) [(sl p5.1 0)] eO)
def It(Φ:aj)(a1 x1:AV)(Q:ae):(List AV×AH)→((List AV×AH)→Prop)→Prop:=fun p5 zm=>
 Do (ab 5 x1) fun dP=>
 Do (J p5.2 1 false dP) fun cq=>
 Do (br false cq) fun df=>
 Do (ai .lss (sl p5.1 1) df) fun dG=>
 aL dG true (
 Do (ai .gtr a1 (.int .i64 1)) fun dC=>
 ak (O3 Φ a1 x1 p5 zm Q) [dC] p5.2) (
 ak (O3 Φ a1 x1 p5 zm Q) [(.bool false)] p5.2) (
 False)
def UO(Φ:aj)(a1 x1:AV)(Q:ae):List AV→AH→Prop:=fun j3 H4=>
 aB (It Φ a1 x1 Q) ([(sl j3 0),(.int .i64 0)],H4)
def O4(Φ:aj)(a1 x1:AV)(s5:List AV×AH)(L6:(List AV×AH)→Prop)(Q:ae):List AV→AH→Prop:=fun j9 bZ=>
 Gd (sl j9 0) true (
 ak (adZ Φ a1 x1 s5 L6 Q) [] bZ) (
 ak (UO Φ a1 x1 Q) [(sl s5.1 0)] bZ)
def HL(Φ:aj)(a1 x1:AV)(Q:ae):(List AV×AH)→((List AV×AH)→Prop)→Prop:=fun s5 L6=>
 Do (ab 3 x1) fun bH=>
 Do (J s5.2 1 false bH) fun bc=>
 Do (br false bc) fun bu=>
 Do (ai .lss (sl s5.1 1) bu) fun bN=>
 aL bN true (
 Do (ai .gtr a1 (.int .i64 1)) fun bG=>
 ak (O4 Φ a1 x1 s5 L6 Q) [bG] s5.2) (
 ak (O4 Φ a1 x1 s5 L6 Q) [(.bool false)] s5.2) (
 False)
def f59(Φ:aj)(a0 a1:AV)(H:AH)(Q:ae):Prop:=
 aJ (bB H false 6 a0) fun x1 H2=>
 aB (HL Φ a1 x1 Q) ([(.int .i64 0),(.int .i64 0)],H2)
noncomputable def aeZ:bm:=bI Go.Proofs.YtbjhdakiiedmcaaGreatDoor.rb.C ⟨59,[],[[5,6],[5,8]],none,[],[]⟩
theorem asM(Φ:aj)(a0 a1:AV)(H:AH)(Q:ae):bM Φ aeZ [a0,a1] H Q=f59 Φ a0 a1 H Q:=by kernel_rfl
def Iu(Φ:aj)(Q:ae):List AV→AH→Prop:=fun RO kA=>
 Gd (sl RO 0) true (
 Q (.int .i64 9) kA) (
 Q (.int .i64 0) kA)
def O7(Φ:aj)(x1:AV)(Q:ae):List AV→AH→Prop:=fun ua dW=>
 aL (sl ua 0) false (
 Do (ab 0 x1) fun ey=>
 Do (J dW 1 false ey) fun dH=>
 Do (ai .eql dH (.int .i64 2)) fun dR=>
 aL dR true (
 Do (ab 1 x1) fun dY=>
 Do (J dW 1 false dY) fun dJ=>
Φ K.f93 [dJ,(.int .i64 16)] dW fun dN zh=>
 Do (eB .not dN) fun eE=>
 ak (Iu Φ Q) [eE] zh) (
 ak (Iu Φ Q) [(.bool false)] dW) (
 False)) (
 ak (Iu Φ Q) [(.bool true)] dW) (
 False)
def UQ(Φ:aj)(x1:AV)(Q:ae):List AV→AH→Prop:=fun j8 H9=>
 Do (ab 0 x1) fun cO=>
 Do (J H9 1 false cO) fun dM=>
 Do (ai .eql dM (.int .i64 1)) fun eW=>
 aL eW true (
 Do (ab 1 x1) fun dP=>
 Do (J H9 1 false dP) fun cq=>
Φ K.f93 [cq,(.int .i64 8)] H9 fun df gT=>
 Do (eB .not df) fun dC=>
 ak (O7 Φ x1 Q) [dC] gT) (
 ak (O7 Φ x1 Q) [(.bool false)] H9) (
 False)
def O8(Φ:aj)(x1:AV)(Q:ae):List AV→AH→Prop:=fun rG cy=>
 Gd (sl rG 0) true (
 Q (.int .i64 8) cy) (
 ak (UQ Φ x1 Q) [] cy)
def O9(Φ:aj)(x1:AV)(Q:ae):List AV→AH→Prop:=fun yp fc=>
 aL (sl yp 0) false (
 Do (ab 5 x1) fun cB=>
 Do (J fc 1 false cB) fun b_=>
 Do (br false b_) fun bS=>
 Do (ai .gtr bS (.int .i64 0)) fun bA=>
 ak (O8 Φ x1 Q) [bA] fc) (
 ak (O8 Φ x1 Q) [(.bool true)] fc) (
 False)
def O_(Φ:aj)(x1:AV)(Q:ae):List AV→AH→Prop:=fun Bg de=>
 aL (sl Bg 0) false (
 Do (ab 4 x1) fun aW=>
 Do (J de 1 false aW) fun cf=>
 Do (ai .neq cf (.int .i64 0)) fun cw=>
 ak (O9 Φ x1 Q) [cw] de) (
 ak (O9 Φ x1 Q) [(.bool true)] de) (
 False)
def ad3(Φ:aj)(x1:AV)(Q:ae):List AV→AH→Prop:=fun j71 vY=>
 Do (ab 5 x1) fun gx=>
 Do (J vY 1 false gx) fun wN=>
 Do (bj none 6 wN (.int .i64 0)) fun oS=>
 Do (J vY 6 true oS) fun nJ=>
Φ K.f60 [nJ] vY fun nK C1=>
 Q nK C1
def Pa(Φ:aj)(x1:AV)(Q:ae):List AV→AH→Prop:=fun j73 Q6=>
 Gd (sl j73 0) true (
 Q (.int .i64 9) Q6) (
 ak (ad3 Φ x1 Q) [] Q6)
def UR(Φ:aj)(x1:AV)(Q:ae):List AV→AH→Prop:=fun j50 vX=>
 Do (ab 4 x1) fun jP=>
 Do (J vX 1 false jP) fun mZ=>
 Do (ai .lss mZ (.int .i64 1)) fun m5=>
 aL m5 false (
 Do (ab 4 x1) fun kF=>
 Do (J vX 1 false kF) fun m6=>
 Do (ai .gtr m6 (.int .i64 65536)) fun mJ=>
 ak (Pa Φ x1 Q) [mJ] vX) (
 ak (Pa Φ x1 Q) [(.bool true)] vX) (
 False)
def Nn(Φ:aj)(x1:AV)(Q:ae):List AV→AH→Prop:=fun YH kX=>
 Gd (sl YH 0) true (
 Q (.int .i64 8) kX) (
 ak (UR Φ x1 Q) [] kX)
def Np(Φ:aj)(x1:AV)(Q:ae):List AV→AH→Prop:=fun j62 CZ=>
 aL (sl j62 0) false (
 Do (ab 5 x1) fun iG=>
 Do (J CZ 1 false iG) fun ja=>
 Do (br false ja) fun jD=>
 Do (ai .neq jD (.int .i64 1)) fun jO=>
 ak (Nn Φ x1 Q) [jO] CZ) (
 ak (Nn Φ x1 Q) [(.bool true)] CZ) (
 False)
def Nq(Φ:aj)(x1:AV)(Q:ae):List AV→AH→Prop:=fun j54 nA=>
 aL (sl j54 0) false (
 Do (ab 1 x1) fun iM=>
 Do (J nA 1 false iM) fun kl=>
 Do (ai .neq kl (.int .i64 0)) fun jC=>
 ak (Np Φ x1 Q) [jC] nA) (
 ak (Np Φ x1 Q) [(.bool true)] nA) (
 False)
def ab4(Φ:aj)(rq:List AV×AH)(Fv:(List AV×AH)→Prop)(Q:ae):List AV→AH→Prop:=fun aC2 awe=>
 Do (ai .add (sl rq.1 0) (.int .i64 1)) fun J8=>
 Fv ([J8],awe)
def Nr(Φ:aj)(rq:List AV×AH)(Fv:(List AV×AH)→Prop)(Q:ae):List AV→AH→Prop:=fun axG agM=>
 Gd (sl axG 0) true (
 Q (.int .i64 7) agM) (
 ak (ab4 Φ rq Fv Q) [] agM)
def TI(Φ:aj)(ic:List AV×AH)(jG:(List AV×AH)→Prop)(Q:ae):List AV→AH→Prop:=fun aCZ Ju=>
 Do (ai .add (sl ic.1 0) (.int .i64 1)) fun Xq=>
 jG ([Xq],Ju)
def BK(Φ:aj)(ic:List AV×AH)(jG:(List AV×AH)→Prop)(Q:ae):List AV→AH→Prop:=fun axK agQ=>
 Gd (sl axK 0) true (
 Q (.int .i64 9) agQ) (
 ak (TI Φ ic jG Q) [] agQ)
def ab5(Φ:aj)(fK:AV)(ic:List AV×AH)(jG:(List AV×AH)→Prop)(Q:ae):List AV→AH→Prop:=fun aC3 vA=>
 Do (ab 7 fK) fun ayo=>
 Do (J vA 1 false ayo) fun ayp=>
 aL ayp true (
 Do (ab 8 fK) fun ayq=>
 Do (J vA 1 false ayq) fun ayr=>
 Do (ai .lss ayr (.int .i64 0)) fun Xg=>
 aL Xg false (
 Do (ab 8 fK) fun Xh=>
 Do (J vA 1 false Xh) fun Xi=>
 Do (ab 1 fK) fun ays=>
 Do (ab 1 ays) fun ayt=>
 Do (J vA 1 false ayt) fun ayu=>
 Do (ai .mul (.int .i64 8) ayu) fun ayv=>
 Do (ai .gtr Xi ayv) fun Xj=>
 aL Xj false (
 Do (ab 8 fK) fun Xk=>
 Do (J vA 1 false Xk) fun Xl=>
 Do (ai .eql Xl (.int .i64 0)) fun Xm=>
 aL Xm true (
 Do (ab 0 fK) fun Xn=>
 Do (J vA 1 false Xn) fun Xo=>
 Do (ai .neq Xo (.str [])) fun Xp=>
 ak (BK Φ ic jG Q) [Xp] vA) (
 ak (BK Φ ic jG Q) [(.bool false)] vA) (
 False)) (
 ak (BK Φ ic jG Q) [(.bool true)] vA) (
 False)) (
 ak (BK Φ ic jG Q) [(.bool true)] vA) (
 False)) (
 ak (BK Φ ic jG Q) [(.bool false)] vA) (
 False)
def D9(Φ:aj)(fK:AV)(ic:List AV×AH)(jG:(List AV×AH)→Prop)(Q:ae):List AV→AH→Prop:=fun ahw QH=>
 Gd (sl ahw 0) true (
 Q (.int .i64 8) QH) (
 ak (ab5 Φ fK ic jG Q) [] QH)
def Ns(Φ:aj)(x1 fK:AV)(ic:List AV×AH)(jG:(List AV×AH)→Prop)(Q:ae):List AV→AH→Prop:=fun WN xt=>
 aL (sl WN 0) false (
 Do (ab 7 fK) fun Xa=>
 Do (J xt 1 false Xa) fun Xb=>
 aL Xb true (
 Do (ab 2 x1) fun Xc=>
 Do (J xt 1 false Xc) fun Xd=>
 aL Xd false (
 Do (ab 1 fK) fun Xe=>
 Do (ab 0 Xe) fun Xf=>
 Do (J xt 1 false Xf) fun aym=>
 Do (ai .neq aym (.int .i64 1)) fun ayn=>
 ak (D9 Φ fK ic jG Q) [ayn] xt) (
 ak (D9 Φ fK ic jG Q) [(.bool true)] xt) (
 False)) (
 ak (D9 Φ fK ic jG Q) [(.bool false)] xt) (
 False)) (
 ak (D9 Φ fK ic jG Q) [(.bool true)] xt) (
 False)
def TJ(Φ:aj)(x1 fK:AV)(ic:List AV×AH)(jG:(List AV×AH)→Prop)(Q:ae):List AV→AH→Prop:=fun ahu Jw=>
 Do (ab 1 fK) fun J9=>
 Do (J Jw 6 true J9) fun J_=>
Φ K.f60 [J_] Jw fun F2 Jx=>
 Do (ai .neq F2 (.int .i64 0)) fun Kg=>
 Gd Kg true (
 Q F2 Jx) (
 Do (ab 7 fK) fun W9=>
 Do (J Jx 1 false W9) fun ayl=>
 Do (eB .not ayl) fun Kh=>
 aL Kh true (
 Do (ab 8 fK) fun W_=>
 Do (J Jx 1 false W_) fun Ki=>
 Do (ai .neq Ki (.int .i64 0)) fun Kj=>
 ak (Ns Φ x1 fK ic jG Q) [Kj] Jx) (
 ak (Ns Φ x1 fK ic jG Q) [(.bool false)] Jx) (
 False))
def HN(Φ:aj)(x1 fK:AV)(ic:List AV×AH)(jG:(List AV×AH)→Prop)(Q:ae):(List AV×AH)→((List AV×AH)→Prop)→Prop:=fun rq Fv=>
 Do (ai .lss (sl rq.1 0) (sl ic.1 0)) fun F1=>
 Gd F1 true (
 Do (ab 0 fK) fun CT=>
 Do (J rq.2 1 false CT) fun CU=>
 Do (ai .neq CU (.str [])) fun CV=>
 aL CV true (
 Do (ab 3 x1) fun CW=>
 Do (J rq.2 1 false CW) fun CX=>
 Do (bj none 9 CX (sl rq.1 0)) fun J5=>
 Do (ab 0 J5) fun CY=>
 Do (J rq.2 1 false CY) fun J6=>
 Do (ab 0 fK) fun J7=>
 Do (J rq.2 1 false J7) fun Q4=>
 Do (ai .eql J6 Q4) fun W5=>
 ak (Nr Φ rq Fv Q) [W5] rq.2) (
 ak (Nr Φ rq Fv Q) [(.bool false)] rq.2) (
 False)) (
 ak (TJ Φ x1 fK ic jG Q) [] rq.2)
def ab6(Φ:aj)(x1 fK:AV)(ic:List AV×AH)(jG:(List AV×AH)→Prop)(Q:ae):List AV→AH→Prop:=fun aC0 Cr=>
 aB (HN Φ x1 fK ic jG Q) ([(.int .i64 0)],Cr)
def HM(Φ:aj)(x1 fK:AV)(ic:List AV×AH)(jG:(List AV×AH)→Prop)(Q:ae):List AV→AH→Prop:=fun axB yS=>
 Gd (sl axB 0) true (
 Q (.int .i64 6) yS) (
 ak (ab6 Φ x1 fK ic jG Q) [] yS)
def Ea(Φ:aj)(x1:AV)(Q:ae):(List AV×AH)→((List AV×AH)→Prop)→Prop:=fun ic jG=>
 Do (ab 3 x1) fun vV=>
 Do (J ic.2 1 false vV) fun tx=>
 Do (br false tx) fun y_=>
 Do (ai .lss (sl ic.1 0) y_) fun xJ=>
 Gd xJ true (
 Do (ab 3 x1) fun tz=>
 Do (J ic.2 1 false tz) fun vW=>
 Do (bj none 9 vW (sl ic.1 0)) fun tA=>
 Do (J ic.2 9 true tA) fun xL=>
 aJ (some (be ic.2 true [.str [],.int .i64 0,.int .i64 0,.bool false,.aq .nil 0 [],.int .i64 0,.aq .nil 0 [],.bool false,.int .i64 0])) fun fK AA=>
 Do (aH AA 9 fK xL) fun QD=>
 Do (ab 0 fK) fun ze=>
 Do (J QD 1 false ze) fun J2=>
Φ K.f13 [J2] QD fun CM yT=>
 Do (eB .not CM) fun CN=>
 aL CN true (
 Do (ab 0 fK) fun J3=>
 Do (J yT 1 false J3) fun mC=>
 Do (ai .eql mC (.str [])) fun F0=>
 aL F0 true (
 Do (ab 7 fK) fun CO=>
 Do (J yT 1 false CO) fun CP=>
 Do (eB .not CP) fun CQ=>
 ak (HM Φ x1 fK ic jG Q) [CQ] yT) (
 Do (eB .not (.bool false)) fun Xr=>
 ak (HM Φ x1 fK ic jG Q) [Xr] yT) (
 False)) (
 ak (HM Φ x1 fK ic jG Q) [(.bool false)] yT) (
 False)) (
 Q (.int .i64 0) ic.2)
def ab7(Φ:aj)(x1:AV)(Q:ae):List AV→AH→Prop:=fun aCY Jn=>
 aB (Ea Φ x1 Q) ([(.int .i64 0)],Jn)
def Nt(Φ:aj)(x1:AV)(Q:ae):List AV→AH→Prop:=fun ahr Az=>
 Gd (sl ahr 0) true (
 Q (.int .i64 12) Az) (
 ak (ab7 Φ x1 Q) [] Az)
def TK(Φ:aj)(x1:AV)(Q:ae):List AV→AH→Prop:=fun zQ rA=>
 Do (ab 3 x1) fun tv=>
 Do (J rA 1 false tv) fun qz=>
 Do (br false qz) fun vT=>
 Do (ai .eql vT (.int .i64 0)) fun mU=>
 aL mU false (
 Do (ab 3 x1) fun xH=>
 Do (J rA 1 false xH) fun sf=>
 Do (br false sf) fun tw=>
 Do (ai .gtr tw (.int .i64 32)) fun rz=>
 ak (Nt Φ x1 Q) [rz] rA) (
 ak (Nt Φ x1 Q) [(.bool true)] rA) (
 False)
def Nu(Φ:aj)(x1:AV)(Q:ae):List AV→AH→Prop:=fun j92 zk=>
 Gd (sl j92 0) true (
 Q (.int .i64 8) zk) (
 ak (TK Φ x1 Q) [] zk)
def Nv(Φ:aj)(x1:AV)(Q:ae):List AV→AH→Prop:=fun j94 zl=>
 aL (sl j94 0) false (
 Do (ab 5 x1) fun rv=>
 Do (J zl 1 false rv) fun sd=>
 Do (br false sd) fun xG=>
 Do (ai .gtr xG (.int .i64 0)) fun vQ=>
 ak (Nu Φ x1 Q) [vQ] zl) (
 ak (Nu Φ x1 Q) [(.bool true)] zl) (
 False)
def Nw(Φ:aj)(x1:AV)(Q:ae):List AV→AH→Prop:=fun j87 AO=>
 Gd (sl j87 0) true (
 Do (ab 1 x1) fun sO=>
 Do (J AO 1 false sO) fun um=>
 Do (ai .neq um (.int .i64 0)) fun sP=>
 aL sP false (
 Do (ab 4 x1) fun sQ=>
 Do (J AO 1 false sQ) fun ru=>
 Do (ai .neq ru (.int .i64 0)) fun tr=>
 ak (Nv Φ x1 Q) [tr] AO) (
 ak (Nv Φ x1 Q) [(.bool true)] AO) (
 False)) (
 Q (.int .i64 8) AO)
def D_(Φ:aj)(x1 x4:AV)(Q:ae):List AV→AH→Prop:=fun j5 H6=>
 Gd (sl j5 0) true (
 Do (ab 2 x1) fun bN=>
 Do (J H6 1 false bN) fun bG=>
 aL bG false (
 Do (ab 3 x1) fun bg=>
 Do (J H6 1 false bg) fun bV=>
 Do (br false bV) fun bE=>
 Do (ai .gtr bE (.int .i64 0)) fun cI=>
 ak (O_ Φ x1 Q) [cI] H6) (
 ak (O_ Φ x1 Q) [(.bool true)] H6) (
 False)) (
 Do (ai .eql x4 (.int .i64 5)) fun e_=>
 Gd e_ true (
 Do (ab 2 x1) fun gX=>
 Do (J H6 1 false gX) fun c_=>
 aL c_ false (
 Do (ab 3 x1) fun iu=>
 Do (J H6 1 false iu) fun ia=>
 Do (br false ia) fun jB=>
 Do (ai .gtr jB (.int .i64 0)) fun gF=>
 ak (Nq Φ x1 Q) [gF] H6) (
 ak (Nq Φ x1 Q) [(.bool true)] H6) (
 False)) (
 Do (ai .eql x4 (.int .i64 3)) fun ve=>
 Gd ve true (
 ak (Nw Φ x1 Q) [ve] H6) (
 Do (ai .eql x4 (.int .i64 4)) fun Xt=>
 ak (Nw Φ x1 Q) [Xt] H6)))
def f60(Φ:aj)(a0:AV)(H:AH)(Q:ae):Prop:=
 aJ (bB H false 6 a0) fun x1 H2=>
 Do (ab 0 x1) fun x3=>
 Do (J H2 1 false x3) fun x4=>
 Do (ai .eql x4 (.int .i64 1)) fun x7=>
 Gd x7 true (
 ak (D_ Φ x1 x4 Q) [x7] H2) (
 Do (ai .eql x4 (.int .i64 2)) fun Xu=>
 ak (D_ Φ x1 x4 Q) [Xu] H2)
noncomputable def ae0:bm:=bI Go.Proofs.YtbjhdakiiedmcaaGreatDoor.rb.C ⟨60,[4],[[3],[5]],none,[],[]⟩
theorem asN(Φ:aj)(a0:AV)(H:AH)(Q:ae):bM Φ ae0 [a0] H Q=f60 Φ a0 H Q:=by kernel_rfl
def Pb(Φ:aj)(sM:List AV×AH)(Q8:(List AV×AH)→Prop)(Q:ae):List AV→AH→Prop:=fun zO fH=>
 Do (ai .add (sl sM.1 1) (.int .i64 1)) fun bS=>
 Q8 ([(sl zO 0),bS],fH)
def Pc(Φ:aj)(iF:List AV×AH)(pH:(List AV×AH)→Prop)(Q:ae):List AV→AH→Prop:=fun rH eO=>
 Do (ai .add (sl iF.1 1) (.int .i64 1)) fun dR=>
 pH ([(sl rH 0),dR],eO)
def Pf(Φ:aj)(x1:AV)(Q:ae):(List AV×AH)→((List AV×AH)→Prop)→Prop:=fun iF pH=>
 Do (ab 3 x1) fun cb=>
 Do (J iF.2 1 false cb) fun cK=>
 Do (br false cK) fun dL=>
 Do (ai .lss (sl iF.1 1) dL) fun cO=>
 Gd cO true (
 aL (sl iF.1 0) false (
 Do (ab 3 x1) fun dP=>
 Do (J iF.2 1 false dP) fun cq=>
 Do (bj none 9 cq (sl iF.1 1)) fun df=>
 Do (ab 1 df) fun dG=>
 Do (J iF.2 6 true dG) fun dC=>
Φ K.f61 [dC] iF.2 fun ey jJ=>
 ak (Pc Φ iF pH Q) [ey] jJ) (
 ak (Pc Φ iF pH Q) [(.bool true)] iF.2) (
 False)) (
 Q (sl iF.1 0) iF.2)
def ad4(Φ:aj)(x1:AV)(Q:ae):List AV→AH→Prop:=fun lh dQ=>
 aB (Pf Φ x1 Q) ([(sl lh 0),(.int .i64 0)],dQ)
def Pg(Φ:aj)(x1:AV)(Q:ae):(List AV×AH)→((List AV×AH)→Prop)→Prop:=fun sM Q8=>
 Do (ab 5 x1) fun bG=>
 Do (J sM.2 1 false bG) fun bg=>
 Do (br false bg) fun bV=>
 Do (ai .lss (sl sM.1 1) bV) fun bE=>
 Gd bE true (
 aL (sl sM.1 0) false (
 Do (ab 5 x1) fun bO=>
 Do (J sM.2 1 false bO) fun aW=>
 Do (bj none 6 aW (sl sM.1 1)) fun cf=>
 Do (J sM.2 6 true cf) fun cw=>
Φ K.f61 [cw] sM.2 fun cB nR=>
 ak (Pb Φ sM Q8 Q) [cB] nR) (
 ak (Pb Φ sM Q8 Q) [(.bool true)] sM.2) (
 False)) (
 ak (ad4 Φ x1 Q) [(sl sM.1 0)] sM.2)
def Pe(Φ:aj)(x1:AV)(Q:ae):List AV→AH→Prop:=fun j3 H4=>
 aB (Pg Φ x1 Q) ([(sl j3 0),(.int .i64 0)],H4)
def f61(Φ:aj)(a0:AV)(H:AH)(Q:ae):Prop:=
 aJ (bB H false 6 a0) fun x1 H2=>
 Do (ab 0 x1) fun x5=>
 Do (J H2 1 false x5) fun x6=>
 Do (ai .eql x6 (.int .i64 2)) fun x7=>
 aL x7 true (
 Do (ab 1 x1) fun x8=>
 Do (J H2 1 false x8) fun x9=>
 Do (ai .gtr x9 (.int .i64 1)) fun bQ=>
 ak (Pe Φ x1 Q) [bQ] H2) (
 ak (Pe Φ x1 Q) [(.bool false)] H2) (
 False)
noncomputable def ae1:bm:=bI Go.Proofs.YtbjhdakiiedmcaaGreatDoor.rb.C ⟨61,[],[[3,4],[3,5]],none,[],[]⟩
theorem asO(Φ:aj)(a0:AV)(H:AH)(Q:ae):bM Φ ae1 [a0] H Q=f61 Φ a0 H Q:=by kernel_rfl
def f62(Φ:aj)(a0:AV)(H:AH)(Q:ae):Prop:=
 aJ (bB H false 2 a0) fun x1 H2=>
 Do (ab 0 x1) fun x3=>
 Do (J H2 1 false x3) fun x4=>
 Do (ai .eql x4 (.str [])) fun x5=>
 aL x5 true (
 Do (ab 1 x1) fun x6=>
 Do (J H2 1 false x6) fun x7=>
 Do (br false x7) fun x8=>
 Do (ai .eql x8 (.int .i64 0)) fun x9=>
 Q x9 H2) (
 Q (.bool false) H2) (
 False)
noncomputable def ae2:bm:=bI Go.Proofs.YtbjhdakiiedmcaaGreatDoor.rb.C ⟨62,[],[],none,[],[]⟩
theorem asP(Φ:aj)(a0:AV)(H:AH)(Q:ae):bM Φ ae2 [a0] H Q=f62 Φ a0 H Q:=by kernel_rfl
def Ph(Φ:aj)(s9:List AV×AH)(pG:(List AV×AH)→Prop)(Q:ae):List AV→AH→Prop:=fun Bg de=>
 Do (ai .sub (sl s9.1 1) (.int .i64 1)) fun cm=>
 pG ([(sl Bg 0),cm],de)
def BW(Φ:aj)(h_:List AV×AH)(jo:(List AV×AH)→Prop)(Q:ae):List AV→AH→Prop:=fun Lh mf=>
 Do (ai .add (sl h_.1 1) (.int .i64 1)) fun jP=>
 jo ([(sl Lh 0),jP],mf)
def Pj(Φ:aj)(oR:List AV×AH)(yV:(List AV×AH)→Prop)(Q:ae):List AV→AH→Prop:=fun axw av8=>
 Do (ai .add (sl oR.1 1) (.int .i64 1)) fun tz=>
 yV ([(sl axw 0),tz],av8)
def ad5(Φ:aj)(bA bW km:AV)(oR:List AV×AH)(yV:(List AV×AH)→Prop)(Q:ae):List AV→AH→Prop:=fun aCX yQ=>
 Do (ab 3 bA) fun vT=>
 Do (J yQ 1 false vT) fun mU=>
 Do (bj none 9 mU (sl oR.1 1)) fun xH=>
 Do (ab 0 xH) fun sf=>
 Do (J yQ 1 false sf) fun tw=>
 Do (ab 0 bW) fun rz=>
 Do (J yQ 1 false rz) fun vU=>
 Do (ai .eql tw vU) fun xI=>
 Gd xI true (
 Do (ab 3 bA) fun vV=>
 Do (J yQ 1 false vV) fun tx=>
 Do (bj none 9 tx (sl oR.1 1)) fun y_=>
 Do (ab 1 y_) fun xJ=>
 Do (J yQ 6 true xJ) fun xK=>
 Do (aH yQ 6 km xK) fun Ju=>
 ak (Pj Φ oR yV Q) [(.int .i64 0)] Ju) (
 ak (Pj Φ oR yV Q) [(sl oR.1 0)] yQ)
def Pk(Φ:aj)(bA km:AV)(h_:List AV×AH)(jo:(List AV×AH)→Prop)(Q:ae):List AV→AH→Prop:=fun YL AP=>
 Do (J AP 6 true km) fun vW=>
 Do (aH AP 6 bA vW) fun awa=>
 ak (BW Φ h_ jo Q) [(sl YL 0)] awa
def EE(Φ:aj)(bA bW km:AV)(h_:List AV×AH)(jo:(List AV×AH)→Prop)(oR:List AV×AH)(yV:(List AV×AH)→Prop)(Q:ae):List AV→AH→Prop:=fun axu yR=>
 Gd (sl axu 0) true (
 ak (ad5 Φ bA bW km oR yV Q) [] yR) (
 ak (Pk Φ bA km h_ jo Q) [(sl oR.1 0)] yR)
def Iw(Φ:aj)(bA bW km:AV)(h_:List AV×AH)(jo:(List AV×AH)→Prop)(Q:ae):(List AV×AH)→((List AV×AH)→Prop)→Prop:=fun oR yV=>
 Do (ab 3 bA) fun vQ=>
 Do (J oR.2 1 false vQ) fun se=>
 Do (br false se) fun ry=>
 Do (ai .lss (sl oR.1 1) ry) fun tt=>
 aL tt true (
 Do (ai .neq (sl oR.1 0) (.int .i64 0)) fun pE=>
 ak (EE Φ bA bW km h_ jo oR yV Q) [pE] oR.2) (
 ak (EE Φ bA bW km h_ jo oR yV Q) [(.bool false)] oR.2) (
 False)
def Iv(Φ:aj)(bA bW:AV)(h_:List AV×AH)(jo:(List AV×AH)→Prop)(Q:ae):List AV→AH→Prop:=fun j76 F6=>
 Gd (sl j76 0) true (
 Do (bJ [.int .i64 0,.int .i64 0,.bool false,.aq .nil 0 [],.int .i64 0,.aq .nil 0 []] []) fun uj=>
 aJ (some (be F6 true [.int .i64 0,.int .i64 0,.bool false,.aq .nil 0 [],.int .i64 0,.aq .nil 0 []])) fun km zl=>
 Do (aH zl 6 km uj) fun wa=>
 aB (Iw Φ bA bW km h_ jo Q) ([(.int .i64 6),(.int .i64 0)],wa)) (
 ak (BW Φ h_ jo Q) [(.int .i64 8)] F6)
def Pl(Φ:aj)(bA bW:AV)(h_:List AV×AH)(jo:(List AV×AH)→Prop)(Q:ae):List AV→AH→Prop:=fun j78 sk=>
 aL (sl j78 0) true (
 Do (ab 0 bA) fun uh=>
 Do (J sk 1 false uh) fun oo=>
 Do (ai .eql oo (.int .i64 3)) fun ve=>
 aL ve false (
 Do (ab 0 bA) fun cJ=>
 Do (J sk 1 false cJ) fun ui=>
 Do (ai .eql ui (.int .i64 4)) fun oT=>
 ak (Iv Φ bA bW h_ jo Q) [oT] sk) (
 ak (Iv Φ bA bW h_ jo Q) [(.bool true)] sk) (
 False)) (
 ak (Iv Φ bA bW h_ jo Q) [(.bool false)] sk) (
 False)
def Nx(Φ:aj)(bA bW:AV)(h_:List AV×AH)(jo:(List AV×AH)→Prop)(Q:ae):List AV→AH→Prop:=fun YI jK=>
 Gd (sl YI 0) true (
 Do (ab 5 bA) fun jO=>
 Do (J jK 1 false jO) fun jh=>
 Do (bj none 6 jh (.int .i64 0)) fun jE=>
 Do (J jK 6 true jE) fun ji=>
 Do (aH jK 6 bA ji) fun Q6=>
 ak (BW Φ h_ jo Q) [(sl h_.1 0)] Q6) (
 Do (ab 1 bW) fun mJ=>
 Do (J jK 1 false mJ) fun gx=>
 Do (br false gx) fun wN=>
 Do (ai .eql wN (.int .i64 0)) fun oS=>
 aL oS true (
 Do (ab 0 bW) fun nJ=>
 Do (J jK 1 false nJ) fun nK=>
 Do (ai .neq nK (.str [])) fun rN=>
 ak (Pl Φ bA bW h_ jo Q) [rN] jK) (
 ak (Pl Φ bA bW h_ jo Q) [(.bool false)] jK) (
 False))
def Ny(Φ:aj)(bA bW:AV)(h_:List AV×AH)(jo:(List AV×AH)→Prop)(Q:ae):List AV→AH→Prop:=fun Lj nT=>
 aL (sl Lj 0) true (
 Do (ab 0 bA) fun iG=>
 Do (J nT 1 false iG) fun ja=>
 Do (ai .eql ja (.int .i64 5)) fun jD=>
 ak (Nx Φ bA bW h_ jo Q) [jD] nT) (
 ak (Nx Φ bA bW h_ jo Q) [(.bool false)] nT) (
 False)
def ab8(Φ:aj)(x1 bA:AV)(h_:List AV×AH)(jo:(List AV×AH)→Prop)(Q:ae):List AV→AH→Prop:=fun j38 gT=>
 Do (ab 1 x1) fun e_=>
 Do (J gT 1 false e_) fun gE=>
 Do (bj none 2 gE (sl h_.1 1)) fun dZ=>
 Do (J gT 2 true dZ) fun fa=>
 aJ (some (be gT true [.str [],.aq .nil 0 []])) fun bW mD=>
 Do (aH mD 2 bW fa) fun nA=>
 Do (ab 1 bW) fun jB=>
 Do (J nA 1 false jB) fun gF=>
 Do (br false gF) fun iV=>
 Do (ai .eql iV (.int .i64 1)) fun iv=>
 aL iv true (
 Do (ab 0 bW) fun iM=>
 Do (J nA 1 false iM) fun kl=>
 Do (ai .eql kl (.str [])) fun jC=>
 ak (Ny Φ bA bW h_ jo Q) [jC] nA) (
 ak (Ny Φ bA bW h_ jo Q) [(.bool false)] nA) (
 False)
def HO(Φ:aj)(x3 bA:AV)(Q:ae):List AV→AH→Prop:=fun rH eO=>
 Do (ai .neq (sl rH 0) (.int .i64 0)) fun xL=>
 Gd xL true (
 Do (bJ [.int .i64 0,.int .i64 0,.bool false,.aq .nil 0 [],.int .i64 0,.aq .nil 0 []] []) fun fK=>
 Do (aH eO 6 x3 fK) fun AA=>
 Do (J AA 6 true x3) fun xM=>
 Q (.aM [xM,(sl rH 0)]) AA) (
 Do (J eO 6 true bA) fun zd=>
 Do (aH eO 6 x3 zd) fun Cr=>
 Do (J Cr 6 true x3) fun AN=>
 Q (.aM [AN,(.int .i64 0)]) Cr)
def Eb(Φ:aj)(x1 x3 bA:AV)(h_:List AV×AH)(jo:(List AV×AH)→Prop)(Q:ae):List AV→AH→Prop:=fun Bi gA=>
 Gd (sl Bi 0) true (
 ak (ab8 Φ x1 bA h_ jo Q) [] gA) (
 ak (HO Φ x3 bA Q) [(sl h_.1 0)] gA)
def BL(Φ:aj)(x1 x3 bA:AV)(Q:ae):(List AV×AH)→((List AV×AH)→Prop)→Prop:=fun h_ jo=>
 Do (ab 1 x1) fun dH=>
 Do (J h_.2 1 false dH) fun dR=>
 Do (br false dR) fun dY=>
 Do (ai .lss (sl h_.1 1) dY) fun dJ=>
 aL dJ true (
 Do (ai .eql (sl h_.1 0) (.int .i64 0)) fun dN=>
 ak (Eb Φ x1 x3 bA h_ jo Q) [dN] h_.2) (
 ak (Eb Φ x1 x3 bA h_ jo Q) [(.bool false)] h_.2) (
 False)
def TL(Φ:aj)(a0 x1 x3:AV)(Q:ae):List AV→AH→Prop:=fun j5 H6=>
 Do (ai .lss (sl j5 0) (.int .i64 0)) fun bO=>
 Gd bO true (
 Do (bJ [.int .i64 0,.int .i64 0,.bool false,.aq .nil 0 [],.int .i64 0,.aq .nil 0 []] []) fun aW=>
 Do (aH H6 6 x3 aW) fun gq=>
 Do (J gq 6 true x3) fun cw=>
 Q (.aM [cw,(.int .i64 6)]) gq) (
 Do (bj none 7 a0 (sl j5 0)) fun cB=>
 Do (ab 1 cB) fun b_=>
 Do (J H6 6 true b_) fun bS=>
 aJ (some (be H6 true [.int .i64 0,.int .i64 0,.bool false,.aq .nil 0 [],.int .i64 0,.aq .nil 0 []])) fun bA fy=>
 Do (aH fy 6 bA bS) fun kA=>
 Do (J kA 6 true bA) fun cK=>
Φ K.f32 [cK] kA fun dL jd=>
 aB (BL Φ x1 x3 bA Q) ([dL,(.int .i64 0)],jd))
def HP(Φ:aj)(a0 x1 x3:AV)(Q:ae):(List AV×AH)→((List AV×AH)→Prop)→Prop:=fun s9 pG=>
 Do (ai .geq (sl s9.1 1) (.int .i64 0)) fun bH=>
 Gd bH true (
 Do (bj none 7 a0 (sl s9.1 1)) fun bN=>
 Do (ab 0 bN) fun bG=>
 Do (J s9.2 1 false bG) fun bg=>
 Do (ab 0 x1) fun bV=>
 Do (J s9.2 1 false bV) fun bE=>
 Do (ai .eql bg bE) fun cI=>
 Gd cI true (
 ak (Ph Φ s9 pG Q) [(sl s9.1 1)] s9.2) (
 ak (Ph Φ s9 pG Q) [(sl s9.1 0)] s9.2)) (
 ak (TL Φ a0 x1 x3 Q) [(sl s9.1 0)] s9.2)
def f63(Φ:aj)(a0 a1:AV)(H:AH)(Q:ae):Prop:=
 aJ (bB H false 2 a1) fun x1 H2=>
 aJ (some (be H2 true [.int .i64 0,.int .i64 0,.bool false,.aq .nil 0 [],.int .i64 0,.aq .nil 0 []])) fun x3 H4=>
 Do (br false a0) fun x7=>
 Do (ai .sub x7 (.int .i64 1)) fun x8=>
 aB (HP Φ a0 x1 x3 Q) ([(.int .i64 (-1)),x8],H4)
noncomputable def ae3:bm:=bI Go.Proofs.YtbjhdakiiedmcaaGreatDoor.rb.C ⟨63,[4,8,11,12],[[6,7],[9,10],[9,13]],none,[],[]⟩
theorem asQ(Φ:aj)(a0 a1:AV)(H:AH)(Q:ae):bM Φ ae3 [a0,a1] H Q=f63 Φ a0 a1 H Q:=by kernel_rfl
def Pm(Φ:aj)(x1:AV)(Q:ae):List AV→AH→Prop:=fun j53 mD=>
 aL (sl j53 0) true (
 Do (ab 0 x1) fun iu=>
 Do (J mD 1 false iu) fun ia=>
 Do (ai .geq ia (.int .i64 4)) fun jB=>
 aL jB false (
 Do (ab 5 x1) fun gF=>
 Do (J mD 2 true gF) fun iV=>
Φ K.f62 [iV] mD fun iv qC=>
 Q iv qC) (
 Q (.bool true) mD) (
 False)) (
 Q (.bool false) mD) (
 False)
def Pn(Φ:aj)(x1:AV)(Q:ae):List AV→AH→Prop:=fun j48 si=>
 aL (sl j48 0) true (
 Do (ab 3 x1) fun fZ=>
 Do (J si 1 false fZ) fun gX=>
 Do (ai .leq gX (.int .i64 11)) fun c_=>
 ak (Pm Φ x1 Q) [c_] si) (
 ak (Pm Φ x1 Q) [(.bool false)] si) (
 False)
def Po(Φ:aj)(x1:AV)(Q:ae):List AV→AH→Prop:=fun j39 jY=>
 aL (sl j39 0) true (
 Do (ab 3 x1) fun gE=>
 Do (J jY 1 false gE) fun dZ=>
 Do (ai .geq dZ (.int .i64 0)) fun fa=>
 ak (Pn Φ x1 Q) [fa] jY) (
 ak (Pn Φ x1 Q) [(.bool false)] jY) (
 False)
def Ix(Φ:aj)(x1:AV)(Q:ae):List AV→AH→Prop:=fun ua dW=>
 aL (sl ua 0) true (
 Do (ab 0 x1) fun ey=>
 Do (J dW 1 false ey) fun dH=>
 Do (ai .eql dH (.int .i64 3)) fun dR=>
 Do (ab 3 x1) fun dY=>
 Do (J dW 1 false dY) fun dJ=>
 Do (ai .neq dJ (.int .i64 0)) fun dN=>
 Do (uF false dR dN) fun dS=>
 ak (Po Φ x1 Q) [dS] dW) (
 ak (Po Φ x1 Q) [(.bool false)] dW) (
 False)
def Pp(Φ:aj)(x1:AV)(Q:ae):List AV→AH→Prop:=fun sI hZ=>
 aL (sl sI 0) true (
 Do (ab 2 x1) fun cO=>
 Do (J hZ 1 false cO) fun dM=>
 Do (ai .eql dM (.str [])) fun eW=>
 aL eW false (
 Do (ab 0 x1) fun dP=>
 Do (J hZ 1 false dP) fun cq=>
 Do (ai .eql cq (.int .i64 2)) fun df=>
 ak (Ix Φ x1 Q) [df] hZ) (
 ak (Ix Φ x1 Q) [(.bool true)] hZ) (
 False)) (
 ak (Ix Φ x1 Q) [(.bool false)] hZ) (
 False)
def US(Φ:aj)(x1:AV)(Q:ae):List AV→AH→Prop:=fun j5 H6=>
 Do (ab 1 x1) fun cB=>
 Do (J H6 1 false cB) fun b_=>
 Do (ai .eql b_ (.int .u64 0)) fun bS=>
 aL bS false (
 Do (ab 0 x1) fun bA=>
 Do (J H6 1 false bA) fun dx=>
 Do (ai .eql dx (.int .i64 1)) fun cb=>
 ak (Pp Φ x1 Q) [cb] H6) (
 ak (Pp Φ x1 Q) [(.bool true)] H6) (
 False)
def Iy(Φ:aj)(x1:AV)(Q:ae):List AV→AH→Prop:=fun j7 H8=>
 Gd (sl j7 0) true (
 Q (.bool false) H8) (
 ak (US Φ x1 Q) [] H8)
def f64(Φ:aj)(a0:AV)(H:AH)(Q:ae):Prop:=
 aJ (bB H false 8 a0) fun x1 H2=>
 aJ (fb H2 false 1 9 [.int .i64 0] [(0,1,(.int .i64 (-1))),(1,1,(.int .i64 0)),(2,1,(.int .i64 0)),(3,1,(.int .i64 2)),(4,1,(.int .i64 0)),(5,1,(.int .i64 0)),(6,1,(.int .i64 1)),(7,1,(.int .i64 1)),(8,1,(.int .i64 2))]) fun x3 H4=>
 Do (ab 0 x1) fun x9=>
 Do (J H4 1 false x9) fun bQ=>
 Do (ai .lss bQ (.int .i64 1)) fun bH=>
 aL bH false (
 Do (ab 0 x1) fun bc=>
 Do (J H4 1 false bc) fun bu=>
 Do (ai .gtr bu (.int .i64 8)) fun bN=>
 aL bN false (
 Do (ab 7 x1) fun bG=>
 Do (J H4 1 false bG) fun bg=>
 Do (br false bg) fun bV=>
 Do (ab 0 x1) fun bE=>
 Do (J H4 1 false bE) fun cI=>
 Do (bj none 1 x3 cI) fun cm=>
 Do (J H4 1 false cm) fun bO=>
 Do (ai .neq bV bO) fun aW=>
 ak (Iy Φ x1 Q) [aW] H4) (
 ak (Iy Φ x1 Q) [(.bool true)] H4) (
 False)) (
 ak (Iy Φ x1 Q) [(.bool true)] H4) (
 False)
noncomputable def ae4:bm:=bI Go.Proofs.YtbjhdakiiedmcaaGreatDoor.rb.C ⟨64,[],[],none,[],[]⟩
theorem asR(Φ:aj)(a0:AV)(H:AH)(Q:ae):bM Φ ae4 [a0] H Q=f64 Φ a0 H Q:=by kernel_rfl
def f65(Φ:aj)(a0:AV)(H:AH)(Q:ae):Prop:=
 Do (ai .geq a0 (.int .i32 97)) fun x1=>
 aL x1 true (
 Do (ai .leq a0 (.int .i32 122)) fun x2=>
 Q x2 H) (
 Q (.bool false) H) (
 False)
noncomputable def ae5:bm:=bI Go.Proofs.YtbjhdakiiedmcaaGreatDoor.rb.C ⟨65,[],[],none,[],[]⟩
theorem asS(Φ:aj)(a0:AV)(H:AH)(Q:ae):bM Φ ae5 [a0] H Q=f65 Φ a0 H Q:=by kernel_rfl
def f66(Φ:aj)(a0 a1:AV)(H:AH)(Q:ae):Prop:=
Φ K.f94 [a0,a1] H fun x1 H2=>
 Do (ai .geq x1 (.int .i64 0)) fun x3=>
 Q x3 H2
noncomputable def ae6:bm:=bI Go.Proofs.YtbjhdakiiedmcaaGreatDoor.rb.C ⟨66,[],[],none,[],[]⟩
theorem asT(Φ:aj)(a0 a1:AV)(H:AH)(Q:ae):bM Φ ae6 [a0,a1] H Q=f66 Φ a0 a1 H Q:=by kernel_rfl
def ato(Φ:aj)(a0 a1 x1:AV)(Q:ae):(List AV×AH)→((List AV×AH)→Prop)→Prop:=fun s2 L3=>
 Do (ai .lss (sl s2.1 0) x1) fun x4=>
 Gd x4 true (
 Do (bj none 7 a0 (sl s2.1 0)) fun x5=>
 Do (J s2.2 7 true x5) fun x6=>
∃k9 su,a1 = .fn k9 su∧Φ (uI k9) (uA k9 [x6] su) s2.2 fun x7 H8=>
 Gd x7 true (
 Q (sl s2.1 0) H8) (
 Do (ai .add (sl s2.1 0) (.int .i64 1)) fun bH=>
 L3 ([bH],H8))) (
 Q (.int .i64 (-1)) s2.2)
def f68(Φ:aj)(a0 a1:AV)(H:AH)(Q:ae):Prop:=
 Do (br false a0) fun x1=>
 aB (ato Φ a0 a1 x1 Q) ([(.int .i64 0)],H)
noncomputable def ae7:bm:=bI Go.Proofs.YtbjhdakiiedmcaaGreatDoor.rb.C ⟨68,[],[[8]],none,[],[]⟩
theorem asU(Φ:aj)(a0 a1:AV)(H:AH)(Q:ae):bM Φ ae7 [a0,a1] H Q=f68 Φ a0 a1 H Q:=by kernel_rfl
def Pq(Φ:aj)(a0 a2:AV)(Q:ae):List AV→AH→Prop:=fun j1 H2=>
 Gd (sl j1 0) true (
 Do (bR a0) fun x7=>
 Do (ab 3 x7) fun x8=>
 Do (J H2 1 false x8) fun x9=>
 Do (bJ [.int .i64 0,.int .i64 0] [(0,1,x9),(1,1,a2)]) fun bQ=>
 Do (bR a0) fun bH=>
 Do (ab 4 bH) fun bc=>
 Do (aH H2 2 bc bQ) fun de=>
 Q (.aM []) de) (
 Q (.aM []) H2)
def f69(Φ:aj)(a0 a1 a2:AV)(H:AH)(Q:ae):Prop:=
 Do (eB .not a1) fun x3=>
 aL x3 true (
Φ K.f28 [a0] H fun x4 H5=>
 Do (eB .not x4) fun x6=>
 ak (Pq Φ a0 a2 Q) [x6] H5) (
 ak (Pq Φ a0 a2 Q) [(.bool false)] H) (
 False)
noncomputable def ae8:bm:=bI Go.Proofs.YtbjhdakiiedmcaaGreatDoor.rb.C ⟨69,[],[],none,[],[]⟩
theorem asV(Φ:aj)(a0 a1 a2:AV)(H:AH)(Q:ae):bM Φ ae8 [a0,a1,a2] H Q=f69 Φ a0 a1 a2 H Q:=by kernel_rfl
def EF(Φ:aj)(x1 x9:AV)(Q:ae):List AV→AH→Prop:=fun DA ie=>
 aL (sl DA 0) true (
 Do (ab 5 x9) fun gE=>
 Do (J ie 1 false gE) fun dZ=>
 aL dZ false (
 Do (ab 9 x1) fun fa=>
 Do (J ie 1 false fa) fun bW=>
 Do (br false bW) fun fY=>
 Do (ai .eql fY (.int .i64 0)) fun fZ=>
 Q fZ ie) (
 Q (.bool true) ie) (
 False)) (
 Q (.bool false) ie) (
 False)
def Iz(Φ:aj)(x1 x9:AV)(Q:ae):List AV→AH→Prop:=fun rH eO=>
 aL (sl rH 0) true (
 Do (ab 4 x9) fun dY=>
 Do (J eO 1 false dY) fun dJ=>
 aL dJ false (
 Do (ab 8 x1) fun dN=>
 Do (J eO 1 false dN) fun dS=>
 Do (br false dS) fun eE=>
 Do (ai .eql eE (.int .i64 0)) fun e_=>
 ak (EF Φ x1 x9 Q) [e_] eO) (
 ak (EF Φ x1 x9 Q) [(.bool true)] eO) (
 False)) (
 ak (EF Φ x1 x9 Q) [(.bool false)] eO) (
 False)
def EG(Φ:aj)(x1 x9:AV)(Q:ae):List AV→AH→Prop:=fun wI eT=>
 aL (sl wI 0) true (
 Do (ab 7 x1) fun dP=>
 Do (J eT 1 false dP) fun cq=>
 Do (br false cq) fun df=>
 Do (ab 3 x9) fun dG=>
 Do (J eT 1 false dG) fun dC=>
 Do (ai .eql df dC) fun ey=>
 ak (Iz Φ x1 x9 Q) [ey] eT) (
 ak (Iz Φ x1 x9 Q) [(.bool false)] eT) (
 False)
def EH(Φ:aj)(x1 x9:AV)(Q:ae):List AV→AH→Prop:=fun zO fH=>
 aL (sl zO 0) true (
 Do (ab 2 x9) fun bA=>
 Do (J fH 1 false bA) fun dx=>
 aL dx false (
 Do (ab 5 x1) fun cb=>
 Do (J fH 2 true cb) fun cK=>
Φ K.f98 [cK] fH fun dL jd=>
 ak (EG Φ x1 x9 Q) [dL] jd) (
 ak (EG Φ x1 x9 Q) [(.bool true)] fH) (
 False)) (
 ak (EG Φ x1 x9 Q) [(.bool false)] fH) (
 False)
def EI(Φ:aj)(x1 x9:AV)(Q:ae):List AV→AH→Prop:=fun Bg de=>
 aL (sl Bg 0) true (
 Do (ab 1 x9) fun bO=>
 Do (J de 1 false bO) fun aW=>
 aL aW false (
 Do (ab 3 x1) fun cf=>
 Do (J de 1 false cf) fun cw=>
 Do (ai .eql cw (.str [])) fun cB=>
 ak (EH Φ x1 x9 Q) [cB] de) (
 ak (EH Φ x1 x9 Q) [(.bool true)] de) (
 False)) (
 ak (EH Φ x1 x9 Q) [(.bool false)] de) (
 False)
def f70(Φ:aj)(a0:AV)(H:AH)(Q:ae):Prop:=
 aJ (bB H false 10 a0) fun x1 H2=>
 Do (ab 0 x1) fun x3=>
 Do (J H2 1 false x3) fun x4=>
Φ K.f97 [x4] H2 fun x5 H6=>
 Do (db 0 x5) fun x7=>
 Do (db 1 x5) fun x8=>
 aJ (some (be H6 true [.bool false,.bool false,.bool false,.int .i64 0,.bool false,.bool false])) fun x9 bZ=>
 Do (aH bZ 6 x9 x7) fun cy=>
 aL x8 true (
 Do (ab 0 x9) fun bN=>
 Do (J cy 1 false bN) fun bG=>
 aL bG false (
 Do (ab 2 x1) fun bg=>
 Do (J cy 1 false bg) fun bV=>
 Do (ai .eql bV (.str [])) fun bE=>
 ak (EI Φ x1 x9 Q) [bE] cy) (
 ak (EI Φ x1 x9 Q) [(.bool true)] cy) (
 False)) (
 ak (EI Φ x1 x9 Q) [(.bool false)] cy) (
 False)
noncomputable def ae9:bm:=bI Go.Proofs.YtbjhdakiiedmcaaGreatDoor.rb.C ⟨70,[3],[],none,[],[]⟩
theorem asW(Φ:aj)(a0:AV)(H:AH)(Q:ae):bM Φ ae9 [a0] H Q=f70 Φ a0 H Q:=by kernel_rfl
def UT(Φ:aj)(a1:AV)(Q:ae):List AV→AH→Prop:=fun j6 H7=>
 aL (sl j6 0) false (
 Do (ai .eql a1 (.int .i64 4)) fun bQ=>
 Q bQ H7) (
 Q (.bool true) H7) (
 False)
def UU(Φ:aj)(a1:AV)(Q:ae):List AV→AH→Prop:=fun zM eD=>
 aL (sl zM 0) false (
 Do (ai .eql a1 (.int .i64 4)) fun bE=>
 Q bE eD) (
 Q (.bool true) eD) (
 False)
def ad6(Φ:aj)(a1:AV)(Q:ae):List AV→AH→Prop:=fun j1 H2=>
 Do (ai .eql a1 (.int .i64 0)) fun bS=>
 Q bS H2
def Pr(Φ:aj)(a0 a1:AV)(Q:ae):List AV→AH→Prop:=fun zO fH=>
 Gd (sl zO 0) true (
 Do (ai .geq a1 (.int .i64 1)) fun aW=>
 aL aW true (
 Do (ai .leq a1 (.int .i64 4)) fun cf=>
 Q cf fH) (
 Q (.bool false) fH) (
 False)) (
 Do (ai .eql a0 (.int .i64 7)) fun cw=>
 Gd cw true (
 Do (ai .geq a1 (.int .i64 2)) fun cB=>
 aL cB true (
 Do (ai .leq a1 (.int .i64 4)) fun b_=>
 Q b_ fH) (
 Q (.bool false) fH) (
 False)) (
 ak (ad6 Φ a1 Q) [] fH))
def UW(Φ:aj)(a0 a1:AV)(Q:ae):List AV→AH→Prop:=fun lh dQ=>
 Gd (sl lh 0) true (
 Do (ai .eql a1 (.int .i64 1)) fun bg=>
 aL bg false (
 Do (ai .eql a1 (.int .i64 2)) fun bV=>
 ak (UU Φ a1 Q) [bV] dQ) (
 ak (UU Φ a1 Q) [(.bool true)] dQ) (
 False)) (
 Do (ai .eql a0 (.int .i64 16)) fun bO=>
 Gd bO true (
 ak (Pr Φ a0 a1 Q) [bO] dQ) (
 Do (ai .eql a0 (.int .i64 17)) fun bA=>
 Gd bA true (
 ak (Pr Φ a0 a1 Q) [bA] dQ) (
 Do (ai .eql a0 (.int .i64 18)) fun dx=>
 ak (Pr Φ a0 a1 Q) [dx] dQ)))
def UX(Φ:aj)(a0 a1:AV)(Q:ae):List AV→AH→Prop:=fun j3 H4=>
 Gd (sl j3 0) true (
 Do (ai .eql a1 (.int .i64 1)) fun x8=>
 aL x8 false (
 Do (ai .eql a1 (.int .i64 3)) fun x9=>
 ak (UT Φ a1 Q) [x9] H4) (
 ak (UT Φ a1 Q) [(.bool true)] H4) (
 False)) (
 Do (ai .eql a0 (.int .i64 5)) fun bu=>
 Gd bu true (
 ak (UW Φ a0 a1 Q) [bu] H4) (
 Do (ai .eql a0 (.int .i64 15)) fun cb=>
 ak (UW Φ a0 a1 Q) [cb] H4))
def f71(Φ:aj)(a0 a1:AV)(H:AH)(Q:ae):Prop:=
 Do (ai .eql a0 (.int .i64 4)) fun x5=>
 Gd x5 true (
 ak (UX Φ a0 a1 Q) [x5] H) (
 Do (ai .eql a0 (.int .i64 6)) fun cK=>
 ak (UX Φ a0 a1 Q) [cK] H)
noncomputable def ae_:bm:=bI Go.Proofs.YtbjhdakiiedmcaaGreatDoor.rb.C ⟨71,[],[],none,[],[]⟩
theorem asX(Φ:aj)(a0 a1:AV)(H:AH)(Q:ae):bM Φ ae_ [a0,a1] H Q=f71 Φ a0 a1 H Q:=by kernel_rfl
def f72(Φ:aj)(a0 a1:AV)(H:AH)(Q:ae):Prop:=
 Do (bR a0) fun x1=>
 Do (ab 1 x1) fun x2=>
 Do (J H 1 false x2) fun x3=>
Φ K.f66 [x3,a1] H fun x4 H5=>
 Q x4 H5
noncomputable def afa:bm:=bI Go.Proofs.YtbjhdakiiedmcaaGreatDoor.rb.C ⟨72,[],[],none,[],[]⟩
theorem asY(Φ:aj)(a0 a1:AV)(H:AH)(Q:ae):bM Φ afa [a0,a1] H Q=f72 Φ a0 a1 H Q:=by kernel_rfl
def ad7(Φ:aj)(yr:List AV×AH)(Ko:(List AV×AH)→Prop)(Q:ae):List AV→AH→Prop:=fun rH eO=>
 Do (ai .add (sl yr.1 0) (.int .i64 1)) fun c_=>
 Ko ([c_],eO)
def Pt(Φ:aj)(a0 a3 dH dR:AV)(yr:List AV×AH)(Ko:(List AV×AH)→Prop)(Q:ae):(List AV×AH)→((List AV×AH)→Prop)→Prop:=fun GZ L45=>
 Do (ai .lss (sl GZ.1 0) dR) fun dN=>
 Gd dN true (
 Do (bj none 8 dH (sl GZ.1 0)) fun dS=>
 Do (J GZ.2 8 true dS) fun eE=>
 aJ (some (be GZ.2 true [.int .i64 0,.int .u64 0,.str [],.int .i64 0,.int .i64 0,.str [],.aq .nil 0 [],.aq .nil 0 []])) fun e_ gB=>
 Do (aH gB 8 e_ eE) fun vX=>
 Do (J vX 8 true e_) fun fa=>
 Do (ai .add a3 (.int .i64 1)) fun bW=>
Φ K.f101 [a0,fa,bW] vX fun fY nA=>
 Do (ai .add (sl GZ.1 0) (.int .i64 1)) fun gX=>
 L45 ([gX],nA)) (
 ak (ad7 Φ yr Ko Q) [] GZ.2)
def IA(Φ:aj)(a0 a3 dx cb:AV)(Q:ae):(List AV×AH)→((List AV×AH)→Prop)→Prop:=fun yr Ko=>
 Do (ai .lss (sl yr.1 0) cb) fun cO=>
 Gd cO true (
 Do (bj none 2 dx (sl yr.1 0)) fun dP=>
 Do (J yr.2 2 true dP) fun cq=>
 aJ (some (be yr.2 true [.str [],.aq .nil 0 []])) fun df gT=>
 Do (aH gT 2 df cq) fun jY=>
 Do (ab 1 df) fun ey=>
 Do (J jY 1 false ey) fun dH=>
 Do (br false dH) fun dR=>
 aB (Pt Φ a0 a3 dH dR yr Ko Q) ([(.int .i64 0)],jY)) (
 Q (.aM []) yr.2)
def Ps(Φ:aj)(a0 a3 x1:AV)(Q:ae):List AV→AH→Prop:=fun zO fH=>
 Do (ab 1 x1) fun bA=>
 Do (J fH 1 false bA) fun dx=>
 Do (br false dx) fun cb=>
 aB (IA Φ a0 a3 dx cb Q) ([(.int .i64 0)],fH)
def f73(Φ:aj)(a0 a1 a2 a3:AV)(H:AH)(Q:ae):Prop:=
 aJ (bB H false 2 a2) fun x1 H2=>
Φ K.f28 [a0] H2 fun x3 H4=>
 Gd x3 true (
 Q (.aM []) H4) (
 Do (bR a0) fun x5=>
 Do (ab 0 x5) fun x6=>
 Do (J H4 1 false x6) fun x7=>
 Do (J H4 2 true x1) fun x8=>
Φ K.f99 [x7,x8] H4 fun x9 bZ=>
 Do (db 0 x9) fun bH=>
 Do (db 1 x9) fun bc=>
 aJ (some (be bZ true [.int .i64 0,.int .i64 0,.bool false,.aq .nil 0 [],.int .i64 0,.aq .nil 0 []])) fun bu eN=>
(J eN 1 false x6=some x7) ∧
(J eN 2 true x1=some x8) ∧
(Do (aH eN 6 bu bH) fun eD=>
 Do (ai .eql bc (.int .i64 0)) fun bg=>
Φ K.f69 [a0,bg,bc] eD fun bV fx=>
Φ K.f28 [a0] fx fun bO fM=>
 aL bO false (
 Do (J fM 6 true bu) fun cf=>
Φ K.f100 [a1,cf] fM fun cw fN=>
Φ K.f69 [a0,cw,(.int .i64 8)] fN fun b_ eT=>
 ak (Ps Φ a0 a3 x1 Q) [] eT) (
Φ K.f69 [a0,(.bool true),(.int .i64 8)] fM fun iu nT=>
 ak (Ps Φ a0 a3 x1 Q) [] nT) (
 False)))
noncomputable def afb:bm:=bI Go.Proofs.YtbjhdakiiedmcaaGreatDoor.rb.C ⟨73,[8,11,13],[[42],[49]],none,[],[]⟩
theorem asZ(Φ:aj)(a0 a1 a2 a3:AV)(H:AH)(Q:ae):bM Φ afb [a0,a1,a2,a3] H Q=f73 Φ a0 a1 a2 a3 H Q:=by kernel_rfl
def Pu(Φ:aj)(s2:List AV×AH)(L3:(List AV×AH)→Prop)(Q:ae):List AV→AH→Prop:=fun j5 H6=>
 Do (ai .add (sl s2.1 0) (.int .i64 1)) fun cI=>
 L3 ([cI],H6)
def IB(Φ:aj)(a0 a1 a2 x1:AV)(Q:ae):(List AV×AH)→((List AV×AH)→Prop)→Prop:=fun s2 L3=>
 Do (ai .lss (sl s2.1 0) x1) fun x4=>
 Gd x4 true (
 Do (bj none 8 a1 (sl s2.1 0)) fun x7=>
 Do (J s2.2 8 true x7) fun x8=>
 aJ (some (be s2.2 true [.int .i64 0,.int .u64 0,.str [],.int .i64 0,.int .i64 0,.str [],.aq .nil 0 [],.aq .nil 0 []])) fun x9 bZ=>
 Do (aH bZ 8 x9 x8) fun cy=>
Φ K.f28 [a0] cy fun bc de=>
 Do (eB .not bc) fun bN=>
 Gd bN true (
 Do (J de 8 true x9) fun bG=>
 Do (ai .add a2 (.int .i64 1)) fun bg=>
Φ K.f101 [a0,bG,bg] de fun bV fx=>
 ak (Pu Φ s2 L3 Q) [] fx) (
 ak (Pu Φ s2 L3 Q) [] de)) (
 Q (.aM []) s2.2)
def f74(Φ:aj)(a0 a1 a2:AV)(H:AH)(Q:ae):Prop:=
 Do (br false a1) fun x1=>
 aB (IB Φ a0 a1 a2 x1 Q) ([(.int .i64 0)],H)
noncomputable def afc:bm:=bI Go.Proofs.YtbjhdakiiedmcaaGreatDoor.rb.C ⟨74,[7],[[10]],none,[],[]⟩
theorem as0(Φ:aj)(a0 a1 a2:AV)(H:AH)(Q:ae):bM Φ afc [a0,a1,a2] H Q=f74 Φ a0 a1 a2 H Q:=by kernel_rfl
def f75(Φ:aj)(a0:AV)(H:AH)(Q:ae):Prop:=
 aJ (bB H false 6 a0) fun x1 H2=>
 Do (J H2 6 true x1) fun x3=>
Φ K.f102 [x3] H2 fun x4 H5=>
 Do (ai .gtr x4 (.int .i64 64)) fun x6=>
 Gd x6 true (
 Q (.int .i64 5) H5) (
 Do (J H5 6 true x1) fun x7=>
Φ K.f103 [x7] H5 fun x8 H9=>
 Q x8 H9)
noncomputable def afd:bm:=bI Go.Proofs.YtbjhdakiiedmcaaGreatDoor.rb.C ⟨75,[],[],none,[],[]⟩
theorem as1(Φ:aj)(a0:AV)(H:AH)(Q:ae):bM Φ afd [a0] H Q=f75 Φ a0 H Q:=by kernel_rfl
def Pv(Φ:aj)(x1:AV)(Q:ae):List AV→AH→Prop:=fun rG cy=>
 aL (sl rG 0) false (
 Do (ab 3 x1) fun bg=>
 Do (J cy 1 false bg) fun bV=>
Φ K.f106 [bV,(.fn K.f107 [])] cy fun bE di=>
 Q bE di) (
 Q (.bool true) cy) (
 False)
def Pw(Φ:aj)(x1:AV)(Q:ae):List AV→AH→Prop:=fun j3 H4=>
 aL (sl j3 0) false (
 Do (ab 5 x1) fun bc=>
 Do (J H4 1 false bc) fun bu=>
Φ K.f105 [bu,(.fn K.f76 [])] H4 fun bN eD=>
 ak (Pv Φ x1 Q) [bN] eD) (
 ak (Pv Φ x1 Q) [(.bool true)] H4) (
 False)
def f76(Φ:aj)(a0:AV)(H:AH)(Q:ae):Prop:=
 aJ (bB H false 6 a0) fun x1 H2=>
 Do (ab 2 x1) fun x5=>
 Do (J H2 1 false x5) fun x6=>
 aL x6 true (
 Do (J H2 6 true x1) fun x7=>
Φ K.f104 [x7] H2 fun x8 H9=>
 ak (Pw Φ x1 Q) [x8] H9) (
 ak (Pw Φ x1 Q) [(.bool false)] H2) (
 False)
noncomputable def afe:bm:=bI Go.Proofs.YtbjhdakiiedmcaaGreatDoor.rb.C ⟨76,[],[],none,[],[]⟩
theorem as2(Φ:aj)(a0:AV)(H:AH)(Q:ae):bM Φ afe [a0] H Q=f76 Φ a0 H Q:=by kernel_rfl
def ad8(Φ:aj)(x1 x3:AV)(Q:ae):List AV→AH→Prop:=fun j5 H6=>
 Do (J H6 6 true x1) fun dN=>
Φ K.f108 [dN] H6 fun dS mf=>
 Do (db 0 dS) fun e_=>
 Do (db 1 dS) fun gE=>
 aJ (some (be mf true [.int .i64 0,.int .i64 0,.aq .nil 0 [],.int .i64 0])) fun dZ iQ=>
 Do (aH iQ 4 dZ e_) fun kX=>
 Do (ab 0 dZ) fun fY=>
 Do (J kX 2 true fY) fun fZ=>
 Do (aH kX 2 x3 fZ) fun qB=>
 Do (J qB 2 true x3) fun c_=>
 Q (.aM [c_,gE]) qB
def Px(Φ:aj)(x1 x3 x8:AV)(Q:ae):List AV→AH→Prop:=fun j9 bZ=>
 Gd (sl j9 0) true (
 Do (ab 1 x1) fun bc=>
 Do (J bZ 1 false bc) fun bu=>
 Do (ab 1 x1) fun bN=>
 Do (J bZ 1 false bN) fun bG=>
 Do (bJ [.int .i64 0,.int .i64 0] [(0,1,bu),(1,1,bG)]) fun bg=>
 Do (aH bZ 2 x3 bg) fun dv=>
 Do (J dv 2 true x3) fun bE=>
 Q (.aM [bE,(.bool true)]) dv) (
 Do (ai .eql x8 (.int .i64 5)) fun cI=>
 Gd cI true (
 Do (ab 5 x1) fun cm=>
 Do (J bZ 1 false cm) fun bO=>
 Do (bj none 6 bO (.int .i64 0)) fun aW=>
 Do (J bZ 6 true aW) fun cf=>
Φ K.f77 [cf] bZ fun cw fN=>
 Do (db 0 cw) fun b_=>
 Do (db 1 cw) fun bS=>
 aJ (some (be fN true [.int .i64 0,.int .i64 0])) fun bA fy=>
 Do (aH fy 2 bA b_) fun kA=>
 Do (ab 0 bA) fun cK=>
 Do (J kA 1 false cK) fun dL=>
 Do (ab 4 x1) fun cO=>
 Do (J kA 1 false cO) fun dM=>
 Do (ai .mul dL dM) fun eW=>
 Do (ab 0 bA) fun dP=>
 Do (aH kA 1 dP eW) fun qA=>
 Do (J qA 2 true bA) fun df=>
 aL bS true (
 Do (ab 0 bA) fun dG=>
 Do (J qA 1 false dG) fun dC=>
 Do (ai .leq dC (.int .i64 65536)) fun ey=>
 Do (aH qA 2 x3 df) fun jJ=>
(((.bool true):AV) = .bool true→J jJ 1 false dG=some dC) ∧
(Do (J jJ 2 true x3) fun dR=>
 Q (.aM [dR,ey]) jJ)) (
 Do (aH qA 2 x3 df) fun me=>
(((.bool false):AV) = .bool true→J me 1 false (.aM [])=some (.aM [])) ∧
(Do (J me 2 true x3) fun dJ=>
 Q (.aM [dJ,(.bool false)]) me)) (
 False)) (
 ak (ad8 Φ x1 x3 Q) [] bZ))
def f77(Φ:aj)(a0:AV)(H:AH)(Q:ae):Prop:=
 aJ (bB H false 6 a0) fun x1 H2=>
 aJ (some (be H2 true [.int .i64 0,.int .i64 0])) fun x3 H4=>
 Do (ab 0 x1) fun x7=>
 Do (J H4 1 false x7) fun x8=>
 Do (ai .eql x8 (.int .i64 1)) fun bH=>
 Gd bH true (
 ak (Px Φ x1 x3 x8 Q) [bH] H4) (
 Do (ai .eql x8 (.int .i64 2)) fun iu=>
 ak (Px Φ x1 x3 x8 Q) [iu] H4)
noncomputable def afg:bm:=bI Go.Proofs.YtbjhdakiiedmcaaGreatDoor.rb.C ⟨77,[2,4,6],[],none,[],[]⟩
theorem as3(Φ:aj)(a0:AV)(H:AH)(Q:ae):bM Φ afg [a0] H Q=f77 Φ a0 H Q:=by kernel_rfl
def f78(Φ:aj)(a0 a1:AV)(H:AH)(Q:ae):Prop:=
Φ K.f54 [(.int .i64 1)] H fun x1 H2=>
 aJ (some (be H2 true [.int .i64 0,.int .i64 0,.int .i64 0,.int .i64 0,.int .i64 0,.int .i64 0,.int .u64 0,.int .i64 0,.int .i64 0,.int .i64 0,.int .i64 0,.int .i64 0,.int .i64 0])) fun x3 H4=>
 Do (aH H4 13 x3 x1) fun H5=>
Φ K.f48 [a0] H5 fun x6 H7=>
 Do (ab 1 x3) fun x8=>
 Do (aH H7 1 x8 x6) fun H9=>
 Do (ab 6 x3) fun bQ=>
 Do (aH H9 1 bQ a1) fun cy=>
 Do (J cy 13 true x3) fun bc=>
Φ K.f56 [a0,bc] cy fun bu eN=>
 Do (ab 1 x3) fun bG=>
 Do (J eN 1 false bG) fun bg=>
 Q bg eN
noncomputable def afh:bm:=bI Go.Proofs.YtbjhdakiiedmcaaGreatDoor.rb.C ⟨78,[5],[],none,[],[]⟩
theorem as4(Φ:aj)(a0 a1:AV)(H:AH)(Q:ae):bM Φ afh [a0,a1] H Q=f78 Φ a0 a1 H Q:=by kernel_rfl
def f79(Φ:aj)(a0 a1 a2 a3:AV)(H:AH)(Q:ae):Prop:=
Φ K.f54 [(.int .i64 3)] H fun x1 H2=>
 aJ (some (be H2 true [.int .i64 0,.int .i64 0,.int .i64 0,.int .i64 0,.int .i64 0,.int .i64 0,.int .u64 0,.int .i64 0,.int .i64 0,.int .i64 0,.int .i64 0,.int .i64 0,.int .i64 0])) fun x3 H4=>
 Do (aH H4 13 x3 x1) fun H5=>
Φ K.f48 [a0] H5 fun x6 H7=>
 Do (ab 1 x3) fun x8=>
 Do (aH H7 1 x8 x6) fun H9=>
 Do (ab 7 x3) fun bQ=>
 Do (aH H9 1 bQ a1) fun cy=>
 Do (ab 3 x3) fun bc=>
 Do (aH cy 1 bc a2) fun de=>
 Do (ab 4 x3) fun bN=>
 Do (aH de 1 bN a3) fun eD=>
 Do (J eD 13 true x3) fun bg=>
Φ K.f56 [a0,bg] eD fun bV fx=>
 Do (ab 1 x3) fun cI=>
 Do (J fx 1 false cI) fun cm=>
 Q cm fx
noncomputable def afi:bm:=bI Go.Proofs.YtbjhdakiiedmcaaGreatDoor.rb.C ⟨79,[9],[],none,[],[]⟩
theorem as5(Φ:aj)(a0 a1 a2 a3:AV)(H:AH)(Q:ae):bM Φ afi [a0,a1,a2,a3] H Q=f79 Φ a0 a1 a2 a3 H Q:=by kernel_rfl
def f80(Φ:aj)(a0 a1:AV)(H:AH)(Q:ae):Prop:=
 aJ (bB H false 2 a1) fun x1 H2=>
 Do (J H2 2 true x1) fun x3=>
Φ K.f84 [a0,x3] H2 fun x4 H5=>
 aJ (some (be H5 true [.int .i64 0,.int .i64 0,.int .i64 0,.bool false,.int .i64 0,.int .i64 0,.int .i64 0,.int .i64 0])) fun x6 H7=>
 Do (aH H7 8 x6 x4) fun H8=>
 Do (J H8 8 true x6) fun x9=>
Φ K.f85 [a0,x9] H8 fun bQ cy=>
 Do (J cy 8 true x6) fun bc=>
 Do (J cy 2 true x1) fun bu=>
Φ K.f55 [a0,(.int .i64 14),(.int .i64 0),bu] cy fun bN eD=>
(J eD 8 true x6=some bc) ∧
(Φ K.f86 [a0,bc,bQ,bN] eD fun bg dv=>
 Do (ab 0 x6) fun bE=>
 Do (ab 3 bE) fun cI=>
 Do (J dv 1 false cI) fun cm=>
 Gd cm true (
 Do (ab 0 x6) fun bO=>
 Do (ab 4 bO) fun aW=>
 Do (J dv 1 false aW) fun cf=>
 Do (my .u64 cf) fun cw=>
 Do (ab 0 x6) fun cB=>
 Do (ab 5 cB) fun b_=>
 Do (J dv 1 false b_) fun bS=>
Φ K.f87 [a0,(.int .i64 8),bg,cw] dv fun bA fy=>
(J fy 1 false b_=some bS) ∧
(Φ K.f88 [bS] fy fun cb gj=>
Φ K.f87 [a0,(.int .i64 4),bA,cb] gj fun dL jd=>
 Q dL jd)) (
 Q bg dv))
noncomputable def afj:bm:=bI Go.Proofs.YtbjhdakiiedmcaaGreatDoor.rb.C ⟨80,[5],[],none,[],[]⟩
theorem as6(Φ:aj)(a0 a1:AV)(H:AH)(Q:ae):bM Φ afj [a0,a1] H Q=f80 Φ a0 a1 H Q:=by kernel_rfl
def Py(Φ:aj)(a0 x1 x7 cq:AV)(Q:ae):List AV→AH→Prop:=fun j55 qB=>
 Do (J qB 8 true x7) fun iM=>
Φ K.f85 [a0,iM] qB fun kl xO=>
 Do (ab 3 cq) fun iG=>
 Do (aH xO 1 iG kl) fun F5=>
 Do (ab 0 x7) fun jD=>
 Do (ab 0 jD) fun jO=>
 Do (ab 1 jO) fun jh=>
 Do (J F5 1 false jh) fun jE=>
 Do (ab 4 x1) fun ji=>
 Do (J F5 1 false ji) fun eJ=>
 Do (ab 0 x1) fun jP=>
 Do (J F5 1 false jP) fun mZ=>
 Do (ai .add (.int .i64 10) mZ) fun m5=>
 Do (ab 4 x1) fun kF=>
 Do (J F5 1 false kF) fun m6=>
 Do (ab 5 x1) fun mJ=>
 Do (J F5 2 true mJ) fun gx=>
Φ K.f48 [a0] F5 fun wN uR=>
(J uR 1 false jh=some jE) ∧
(J uR 1 false ji=some eJ) ∧
(J uR 1 false jP=some mZ) ∧
(J uR 1 false kF=some m6) ∧
(J uR 2 true mJ=some gx) ∧
(Do (ab 1 cq) fun nJ=>
Φ K.f55 [a0,m5,m6,gx] uR fun nK C1=>
(J C1 1 false jh=some jE) ∧
(J C1 1 false ji=some eJ) ∧
(Do (aH C1 1 nJ wN) fun tD=>
(J tD 1 false jh=some jE) ∧
(J tD 1 false ji=some eJ) ∧
(Do (ab 8 cq) fun oo=>
 Do (aH tD 1 oo jE) fun v_=>
(J v_ 1 false ji=some eJ) ∧
(Do (ab 9 cq) fun cJ=>
 Do (aH v_ 1 cJ eJ) fun rA=>
 Do (ab 11 cq) fun oT=>
 Do (aH rA 1 oT nK) fun zk=>
 Do (J zk 13 true cq) fun km=>
Φ K.f56 [a0,km] zk fun uk wa=>
 Do (ab 1 cq) fun um=>
 Do (J wa 1 false um) fun sP=>
 Q sP wa))))
def Pz(Φ:aj)(a0 x1 x7 cq:AV)(rG:List AV)(Q:ae):List AV→AH→Prop:=fun Bi gA=>
 Do (ab 0 x1) fun c_=>
 Do (J gA 1 false c_) fun iu=>
 Do (ai .eql iu (.int .i64 8)) fun ia=>
 Gd ia true (
 Do (bj none 1 (sl rG 0) (.int .i64 1)) fun jB=>
 Do (J gA 1 false jB) fun gF=>
 Do (ab 5 cq) fun iV=>
 Do (aH gA 1 iV gF) fun CZ=>
 ak (Py Φ a0 x1 x7 cq Q) [] CZ) (
 ak (Py Φ a0 x1 x7 cq Q) [] gA)
def UY(Φ:aj)(a0 x1 x7:AV)(Q:ae):List AV→AH→Prop:=fun rG cy=>
 Do (ab 0 x1) fun cK=>
 Do (J cy 1 false cK) fun dL=>
 Do (ai .sub dL (.int .i64 5)) fun cO=>
 Do (ai .add cO (.int .i64 6)) fun dM=>
Φ K.f54 [dM] cy fun eW je=>
 aJ (some (be je true [.int .i64 0,.int .i64 0,.int .i64 0,.int .i64 0,.int .i64 0,.int .i64 0,.int .u64 0,.int .i64 0,.int .i64 0,.int .i64 0,.int .i64 0,.int .i64 0,.int .i64 0])) fun cq kB=>
 Do (aH kB 13 cq eW) fun gT=>
 Do (ab 0 x1) fun dH=>
 Do (J gT 1 false dH) fun dR=>
 Do (ai .neq dR (.int .i64 5)) fun dY=>
 Gd dY true (
 Do (ab 0 x1) fun dJ=>
 Do (J gT 1 false dJ) fun dN=>
 Do (ai .sub dN (.int .i64 6)) fun dS=>
 Do (ai .add dS (.int .i64 8)) fun eE=>
 Do (ab 0 cq) fun e_=>
 Do (aH gT 1 e_ eE) fun gB=>
 Do (bj none 1 (sl rG 0) (.int .i64 0)) fun dZ=>
 Do (J gB 1 false dZ) fun fa=>
 Do (ab 4 cq) fun bW=>
 Do (aH gB 1 bW fa) fun mD=>
 ak (Pz Φ a0 x1 x7 cq rG Q) [] mD) (
 ak (Pz Φ a0 x1 x7 cq rG Q) [] gT)
def PA(Φ:aj)(a0 x1 x7 bu bN:AV)(Q:ae):(List AV×AH)→((List AV×AH)→Prop)→Prop:=fun mq wb=>
 Do (ai .lss (sl mq.1 1) bN) fun bV=>
 Gd bV true (
 Do (bj none 8 bu (sl mq.1 1)) fun bE=>
 Do (J mq.2 8 true bE) fun cI=>
 aJ (some (be mq.2 true [.int .i64 0,.int .u64 0,.str [],.int .i64 0,.int .i64 0,.str [],.aq .nil 0 [],.aq .nil 0 []])) fun cm fc=>
 Do (aH fc 8 cm cI) fun fM=>
 Do (J fM 8 true cm) fun cf=>
Φ K.f47 [a0,cf] fM fun cw fN=>
 aJ (fb fN false 1 1 [.int .i64 0] [(0,1,cw)]) fun b_ eT=>
 aJ (eF eT true 1 8 (sl mq.1 0) b_) fun bA fy=>
 Do (ai .add (sl mq.1 1) (.int .i64 1)) fun cb=>
 wb ([bA,cb],fy)) (
 ak (UY Φ a0 x1 x7 Q) [(sl mq.1 0)] mq.2)
def f81(Φ:aj)(a0 a1:AV)(H:AH)(Q:ae):Prop:=
 aJ (bB H false 8 a1) fun x1 H2=>
 Do (ab 5 x1) fun x3=>
 Do (J H2 2 true x3) fun x4=>
Φ K.f84 [a0,x4] H2 fun x5 H6=>
 aJ (some (be H6 true [.int .i64 0,.int .i64 0,.int .i64 0,.bool false,.int .i64 0,.int .i64 0,.int .i64 0,.int .i64 0])) fun x7 H8=>
 Do (aH H8 8 x7 x5) fun H9=>
 Do (ab 7 x1) fun bc=>
 Do (J H9 1 false bc) fun bu=>
 Do (br false bu) fun bN=>
 aB (PA Φ a0 x1 x7 bu bN Q) ([(.aq .nil 0 []),(.int .i64 0)],H9)
noncomputable def afk:bm:=bI Go.Proofs.YtbjhdakiiedmcaaGreatDoor.rb.C ⟨81,[5,8,9,26],[[6,17]],none,[],[]⟩
theorem as7(Φ:aj)(a0 a1:AV)(H:AH)(Q:ae):bM Φ afk [a0,a1] H Q=f81 Φ a0 a1 H Q:=by kernel_rfl
def UZ(Φ:aj)(a0 a1 x1:AV)(Q:ae):(List AV×AH)→((List AV×AH)→Prop)→Prop:=fun s2 L3=>
 Do (ai .lss (sl s2.1 0) x1) fun x4=>
 Gd x4 true (
 Do (bj none 2 a0 (sl s2.1 0)) fun x5=>
 Do (J s2.2 2 true x5) fun x6=>
∃k9 su,a1 = .fn k9 su∧Φ (uI k9) (uA k9 [x6] su) s2.2 fun x7 H8=>
 Gd x7 true (
 Q (sl s2.1 0) H8) (
 Do (ai .add (sl s2.1 0) (.int .i64 1)) fun bH=>
 L3 ([bH],H8))) (
 Q (.int .i64 (-1)) s2.2)
def f82(Φ:aj)(a0 a1:AV)(H:AH)(Q:ae):Prop:=
 Do (br false a0) fun x1=>
 aB (UZ Φ a0 a1 x1 Q) ([(.int .i64 0)],H)
noncomputable def afl:bm:=bI Go.Proofs.YtbjhdakiiedmcaaGreatDoor.rb.C ⟨82,[],[[8]],none,[],[]⟩
theorem as8(Φ:aj)(a0 a1:AV)(H:AH)(Q:ae):bM Φ afl [a0,a1] H Q=f82 Φ a0 a1 H Q:=by kernel_rfl
def f83(Φ:aj)(a0 a1:AV)(H:AH)(Q:ae):Prop:=
 aJ (bB H false 2 a0) fun x1 H2=>
 Do (ab 0 x1) fun x3=>
 Do (J H2 1 false x3) fun x4=>
 Do (J H2 1 false a1) fun x5=>
 Do (ai .eql x4 x5) fun x6=>
 Q x6 H2
noncomputable def afm:bm:=bI Go.Proofs.YtbjhdakiiedmcaaGreatDoor.rb.C ⟨83,[],[],none,[],[]⟩
theorem as9(Φ:aj)(a0 a1:AV)(H:AH)(Q:ae):bM Φ afm [a0,a1] H Q=f83 Φ a0 a1 H Q:=by kernel_rfl
def PB(Φ:aj)(kj:List AV×AH)(tG:(List AV×AH)→Prop)(Q:ae):List AV→AH→Prop:=fun j38 gT=>
 Do (ai .add (sl kj.1 0) (.int .i64 1)) fun oS=>
 tG ([oS],gT)
def PC(Φ:aj)(bS mU:AV)(kj:List AV×AH)(tG:(List AV×AH)→Prop)(Q:ae):List AV→AH→Prop:=fun ahs Jr=>
 Do (ab 0 bS) fun tz=>
 Do (ab 0 tz) fun vW=>
 Do (ab 1 vW) fun tA=>
 Do (aH Jr 1 tA mU) fun agJ=>
 Do (ab 7 bS) fun fK=>
 Do (J agJ 1 false fK) fun CL=>
Φ K.f113 [mU,(.int .i64 16)] agJ fun xM agK=>
(J agK 1 false fK=some CL) ∧
(Do (oY false [CL,xM]) fun J1=>
 Do (ab 7 bS) fun AN=>
 Do (aH agK 1 AN J1) fun yS=>
 ak (PB Φ kj tG Q) [] yS)
def ad9(Φ:aj)(x3 bS:AV)(Q:ae):List AV→AH→Prop:=fun RP gj=>
 Do (ab 7 bS) fun mC=>
 Do (J gj 1 false mC) fun F0=>
 Do (ab 0 bS) fun CO=>
 Do (ab 0 CO) fun CP=>
 Do (ab 0 CP) fun CQ=>
 Do (J gj 1 false CQ) fun zf=>
Φ K.f113 [zf,(.int .i64 16)] gj fun W2 Ft=>
(J Ft 1 false mC=some F0) ∧
(Do (oY false [F0,W2]) fun ayh=>
 Do (ab 7 bS) fun F1=>
 Do (aH Ft 1 F1 ayh) fun QG=>
 Do (J QG 8 true bS) fun J4=>
 Do (aH QG 8 x3 J4) fun Ct=>
 Do (J Ct 8 true x3) fun CS=>
 Q CS Ct)
def BX(Φ:aj)(a0 x3 bg bS cO dM:AV)(Q:ae):(List AV×AH)→((List AV×AH)→Prop)→Prop:=fun kj tG=>
 Do (ai .lss (sl kj.1 0) dM) fun cq=>
 Gd cq true (
 Do (bj none 2 cO (sl kj.1 0)) fun dC=>
 Do (J kj.2 2 true dC) fun ey=>
 aJ (some (be kj.2 true [.str [],.aq .nil 0 []])) fun dH ie=>
 Do (aH ie 2 dH ey) fun me=>
 Do (ab 1 dH) fun dJ=>
 Do (J me 1 false dJ) fun dN=>
 Do (br false dN) fun dS=>
 Do (ai .eql dS (.int .i64 0)) fun eE=>
 Gd eE true (
 Do (ab 3 bg) fun e_=>
 Do (J me 1 false e_) fun gE=>
Φ K.f110 [gE,(.fn K.f111 [dH])] me fun dZ iQ=>
 Do (J iQ 6 true bg) fun bW=>
Φ K.f112 [bW] iQ fun fY nA=>
 Do (db 0 fY) fun gX=>
 Do (db 1 fY) fun c_=>
 Do (bj none 6 gX dZ) fun iu=>
 Do (J nA 6 true iu) fun ia=>
 aJ (some (be nA true [.int .i64 0,.int .i64 0,.int .i64 0,.bool false,.int .i64 0,.int .i64 0])) fun jB sj=>
 Do (aH sj 6 jB ia) fun oI=>
 Do (ab 0 jB) fun iv=>
 Do (ab 0 iv) fun iM=>
 Do (J oI 1 false iM) fun kl=>
 Do (ab 0 bS) fun jC=>
 Do (ab 0 jC) fun iG=>
 Do (ab 0 iG) fun ja=>
 Do (J oI 1 false ja) fun jD=>
 Do (ai .add kl jD) fun jO=>
 Do (ab 0 jB) fun jh=>
 Do (ab 0 jh) fun jE=>
 Do (aH oI 1 jE jO) fun zi=>
 Do (J zi 6 true jB) fun eJ=>
 Do (ab 3 bg) fun jP=>
 Do (J zi 1 false jP) fun mZ=>
 Do (bj none 9 mZ dZ) fun m5=>
 Do (ab 1 m5) fun kF=>
 Do (J zi 6 true kF) fun m6=>
 Do (ab 0 bS) fun mJ=>
 Do (aH zi 6 mJ eJ) fun C0=>
(J C0 1 false jP=some mZ) ∧
(J C0 6 true kF=some m6) ∧
(Do (aH C0 6 bg m6) fun vZ=>
 ak (PB Φ kj tG Q) [] vZ)) (
 Do (ab 1 dH) fun nJ=>
 Do (J me 1 false nJ) fun nK=>
 Do (bj none 8 nK (.int .i64 0)) fun rN=>
 Do (J me 8 true rN) fun uh=>
Φ K.f47 [a0,uh] me fun oo v_=>
Φ K.f54 [(.int .i64 17)] v_ fun cJ rA=>
 aJ (some (be rA true [.int .i64 0,.int .i64 0,.int .i64 0,.int .i64 0,.int .i64 0,.int .i64 0,.int .u64 0,.int .i64 0,.int .i64 0,.int .i64 0,.int .i64 0,.int .i64 0,.int .i64 0])) fun oT zk=>
 Do (aH zk 13 oT cJ) fun xQ=>
 Do (ab 4 bg) fun uk=>
 Do (J xQ 1 false uk) fun sO=>
 Do (my .u64 sO) fun um=>
 Do (ab 3 oT) fun sP=>
 Do (aH xQ 1 sP oo) fun AQ=>
(J AQ 1 false uk=some sO) ∧
(Do (ab 6 oT) fun ru=>
 Do (aH AQ 1 ru um) fun vz=>
 Do (J vz 13 true oT) fun rv=>
Φ K.f56 [a0,rv] vz fun sd yR=>
 Do (ab 5 bg) fun vQ=>
 Do (J yR 1 false vQ) fun se=>
 Do (bj none 6 se (.int .i64 0)) fun ry=>
 Do (J yR 6 true ry) fun tt=>
 Do (aH yR 6 bg tt) fun Az=>
 Do (J Az 6 true bg) fun tv=>
Φ K.f29 [tv] Az fun qz VZ=>
 Do (db 0 qz) fun mU=>
 Do (db 1 qz) fun xH=>
 Do (db 2 qz) fun sf=>
 Do (my .u64 mU) fun tw=>
Φ K.f87 [a0,(.int .i64 3),oo,tw] VZ fun rz Co=>
 Do (ab 6 bS) fun tx=>
 Do (J Co 1 false tx) fun y_=>
 Do (ai .eql y_ (.int .i64 (-1))) fun xJ=>
 Gd xJ true (
 Do (ab 6 bS) fun xK=>
 Do (aH Co 1 xK rz) fun Ju=>
 ak (PC Φ bS mU kj tG Q) [] Ju) (
 Do (ab 6 bS) fun ze=>
 Do (J Co 1 false ze) fun J2=>
Φ K.f79 [a0,(.int .i64 1),J2,rz] Co fun CM yT=>
 Do (ab 6 bS) fun CN=>
 Do (aH yT 1 CN CM) fun QE=>
 ak (PC Φ bS mU kj tG Q) [] QE)))) (
 ak (ad9 Φ x3 bS Q) [] kj.2)
def f84(Φ:aj)(a0 a1:AV)(H:AH)(Q:ae):Prop:=
 aJ (bB H false 2 a1) fun x1 H2=>
 aJ (some (be H2 true [.int .i64 0,.int .i64 0,.int .i64 0,.bool false,.int .i64 0,.int .i64 0,.int .i64 0,.int .i64 0])) fun x3 H4=>
 Do (bR a0) fun x5=>
 Do (ab 0 x5) fun x6=>
 Do (J H4 1 false x6) fun x7=>
Φ K.f68 [x7,(.fn K.f109 [x1])] H4 fun x8 H9=>
 Do (bR a0) fun bQ=>
 Do (ab 0 bQ) fun bH=>
 Do (J H9 1 false bH) fun bc=>
 Do (bj none 7 bc x8) fun bu=>
 Do (ab 1 bu) fun bN=>
 Do (J H9 6 true bN) fun bG=>
 aJ (some (be H9 true [.int .i64 0,.int .i64 0,.bool false,.aq .nil 0 [],.int .i64 0,.aq .nil 0 []])) fun bg dv=>
 Do (aH dv 6 bg bG) fun fx=>
 Do (bR a0) fun cI=>
 Do (ab 1 cI) fun cm=>
 Do (J fx 1 false cm) fun bO=>
 Do (bj none 3 bO x8) fun aW=>
 Do (ab 1 aW) fun cf=>
 Do (J fx 2 true cf) fun cw=>
 Do (bJ [.int .i64 0,.int .i64 0,.int .i64 0,.bool false,.int .i64 0,.int .i64 0] [(0,2,cw)]) fun cB=>
 Do (bJ [.int .i64 0,.int .i64 0,.int .i64 0,.bool false,.int .i64 0,.int .i64 0,.int .i64 0,.int .i64 0] [(0,6,cB),(6,1,(.int .i64 (-1))),(7,1,(.int .i64 16))]) fun b_=>
 aJ (some (be fx true [.int .i64 0,.int .i64 0,.int .i64 0,.bool false,.int .i64 0,.int .i64 0,.int .i64 0,.int .i64 0])) fun bS iA=>
 Do (aH iA 8 bS b_) fun fy=>
 Do (ab 1 x1) fun dL=>
 Do (J fy 1 false dL) fun cO=>
 Do (br false cO) fun dM=>
 aB (BX Φ a0 x3 bg bS cO dM Q) ([(.int .i64 0)],fy)
noncomputable def afn:bm:=bI Go.Proofs.YtbjhdakiiedmcaaGreatDoor.rb.C ⟨84,[4,6,7,9,13,15],[[46]],none,[],[]⟩
theorem as_(Φ:aj)(a0 a1:AV)(H:AH)(Q:ae):bM Φ afn [a0,a1] H Q=f84 Φ a0 a1 H Q:=by kernel_rfl
def f85(Φ:aj)(a0 a1:AV)(H:AH)(Q:ae):Prop:=
 aJ (bB H false 8 a1) fun x1 H2=>
 Do (ab 6 x1) fun x3=>
 Do (J H2 1 false x3) fun x4=>
 Do (ai .eql x4 (.int .i64 (-1))) fun x5=>
 Gd x5 true (
 Do (ab 0 x1) fun x6=>
 Do (ab 0 x6) fun x7=>
 Do (ab 0 x7) fun x8=>
 Do (J H2 1 false x8) fun x9=>
 Do (my .u64 x9) fun bQ=>
Φ K.f78 [a0,bQ] H2 fun bH dQ=>
 Q bH dQ) (
 Do (ab 6 x1) fun bu=>
 Do (J H2 1 false bu) fun bN=>
 Do (ab 0 x1) fun bG=>
 Do (ab 0 bG) fun bg=>
 Do (ab 0 bg) fun bV=>
 Do (J H2 1 false bV) fun bE=>
 Do (my .u64 bE) fun cI=>
Φ K.f87 [a0,(.int .i64 1),bN,cI] H2 fun cm fc=>
 Q cm fc)
noncomputable def afo:bm:=bI Go.Proofs.YtbjhdakiiedmcaaGreatDoor.rb.C ⟨85,[],[],none,[],[]⟩
theorem ata(Φ:aj)(a0 a1:AV)(H:AH)(Q:ae):bM Φ afo [a0,a1] H Q=f85 Φ a0 a1 H Q:=by kernel_rfl
def PD(Φ:aj)(s7:List AV×AH)(L8:(List AV×AH)→Prop)(Q:ae):List AV→AH→Prop:=fun rG cy=>
 Do (ai .add (sl s7.1 1) (.int .i64 1)) fun dZ=>
 L8 ([(sl rG 0),dZ],cy)
def PE(Φ:aj)(a0 a2 a3 x4 x6:AV)(Q:ae):(List AV×AH)→((List AV×AH)→Prop)→Prop:=fun s7 L8=>
 Do (ai .lss (sl s7.1 1) x6) fun x9=>
 Gd x9 true (
 Do (bj none 2 x4 (sl s7.1 1)) fun bc=>
 Do (J s7.2 2 true bc) fun bu=>
 aJ (some (be s7.2 true [.int .i64 0,.int .i64 0])) fun bN eD=>
 Do (aH eD 2 bN bu) fun iP=>
Φ K.f54 [(.int .i64 4)] iP fun bV fx=>
 aJ (some (be fx true [.int .i64 0,.int .i64 0,.int .i64 0,.int .i64 0,.int .i64 0,.int .i64 0,.int .u64 0,.int .i64 0,.int .i64 0,.int .i64 0,.int .i64 0,.int .i64 0,.int .i64 0])) fun cI fH=>
 Do (aH fH 13 cI bV) fun fc=>
 Do (ab 0 bN) fun aW=>
 Do (J fc 1 false aW) fun cf=>
 Do (my .u64 cf) fun cw=>
 Do (ab 1 bN) fun cB=>
 Do (J fc 1 false cB) fun b_=>
Φ K.f48 [a0] fc fun bS iA=>
(J iA 1 false aW=some cf) ∧
(J iA 1 false cB=some b_) ∧
(Do (ab 1 cI) fun dx=>
 Do (aH iA 1 dx bS) fun kA=>
(J kA 1 false aW=some cf) ∧
(J kA 1 false cB=some b_) ∧
(Do (ab 3 cI) fun cK=>
 Do (aH kA 1 cK a2) fun dW=>
(J dW 1 false aW=some cf) ∧
(J dW 1 false cB=some b_) ∧
(Do (ab 6 cI) fun cO=>
 Do (aH dW 1 cO cw) fun lI=>
(J lI 1 false cB=some b_) ∧
(Do (ab 8 cI) fun eW=>
 Do (aH lI 1 eW b_) fun je=>
 Do (ab 11 cI) fun cq=>
 Do (aH je 1 cq a3) fun kB=>
 Do (J kB 13 true cI) fun dG=>
Φ K.f56 [a0,dG] kB fun dC gA=>
 Do (ab 1 cI) fun dH=>
 Do (J gA 1 false dH) fun dR=>
 Do (ab 0 bN) fun dY=>
 Do (J gA 1 false dY) fun dJ=>
 Do (ai .mul (.int .i64 8) dJ) fun dN=>
 Do (my .u64 dN) fun dS=>
Φ K.f87 [a0,(.int .i64 7),dR,dS] gA fun eE si=>
 Do (ai .eql (sl s7.1 0) (.int .i64 (-1))) fun gE=>
 Gd gE true (
 ak (PD Φ s7 L8 Q) [eE] si) (
Φ K.f79 [a0,(.int .i64 5),(sl s7.1 0),eE] si fun fa kX=>
 ak (PD Φ s7 L8 Q) [fa] kX)))))) (
 Q (sl s7.1 0) s7.2)
def f86(Φ:aj)(a0 a1 a2 a3:AV)(H:AH)(Q:ae):Prop:=
 aJ (bB H false 8 a1) fun x1 H2=>
 Do (J H2 8 true x1) fun x3=>
Φ K.f114 [x3] H2 fun x4 H5=>
 Do (br false x4) fun x6=>
 aB (PE Φ a0 a2 a3 x4 x6 Q) ([(.int .i64 (-1)),(.int .i64 0)],H5)
noncomputable def afq:bm:=bI Go.Proofs.YtbjhdakiiedmcaaGreatDoor.rb.C ⟨86,[11,12],[[9,17]],none,[],[]⟩
theorem atb(Φ:aj)(a0 a1 a2 a3:AV)(H:AH)(Q:ae):bM Φ afq [a0,a1,a2,a3] H Q=f86 Φ a0 a1 a2 a3 H Q:=by kernel_rfl
def U0(Φ:aj)(a0 a1 a2 a3:AV)(Q:ae):List AV→AH→Prop:=fun j1 H2=>
Φ K.f78 [a0,a3] H2 fun bQ cy=>
Φ K.f79 [a0,a1,a2,bQ] cy fun bc de=>
 Q bc de
def BZ(Φ:aj)(a0 a1 a2 a3:AV)(Q:ae):List AV→AH→Prop:=fun j3 H4=>
 Gd (sl j3 0) true (
 Q a2 H4) (
 ak (U0 Φ a0 a1 a2 a3 Q) [] H4)
def f87(Φ:aj)(a0 a1 a2 a3:AV)(H:AH)(Q:ae):Prop:=
 Do (ai .eql a3 (.int .u64 0)) fun x5=>
 aL x5 true (
 Do (ai .eql a1 (.int .i64 1)) fun x6=>
 aL x6 false (
 Do (ai .eql a1 (.int .i64 7)) fun x7=>
 aL x7 false (
 Do (ai .eql a1 (.int .i64 8)) fun x8=>
 aL x8 false (
 Do (ai .eql a1 (.int .i64 5)) fun x9=>
 ak (BZ Φ a0 a1 a2 a3 Q) [x9] H) (
 ak (BZ Φ a0 a1 a2 a3 Q) [(.bool true)] H) (
 False)) (
 ak (BZ Φ a0 a1 a2 a3 Q) [(.bool true)] H) (
 False)) (
 ak (BZ Φ a0 a1 a2 a3 Q) [(.bool true)] H) (
 False)) (
 ak (BZ Φ a0 a1 a2 a3 Q) [(.bool false)] H) (
 False)
noncomputable def afr:bm:=bI Go.Proofs.YtbjhdakiiedmcaaGreatDoor.rb.C ⟨87,[],[],none,[],[]⟩
theorem atc(Φ:aj)(a0 a1 a2 a3:AV)(H:AH)(Q:ae):bM Φ afr [a0,a1,a2,a3] H Q=f87 Φ a0 a1 a2 a3 H Q:=by kernel_rfl
def f88(Φ:aj)(a0:AV)(H:AH)(Q:ae):Prop:=
 Do (ai .geq a0 (.int .i64 64)) fun x1=>
 Gd x1 true (
 Q (.int .u64 18446744073709551615) H) (
 Do (ai .shl (.int .u64 1) a0) fun x2=>
 Do (ai .sub x2 (.int .u64 1)) fun x3=>
 Q x3 H)
noncomputable def afs:bm:=bI Go.Proofs.YtbjhdakiiedmcaaGreatDoor.rb.C ⟨88,[],[],none,[],[]⟩
theorem atd(Φ:aj)(a0:AV)(H:AH)(Q:ae):bM Φ afs [a0] H Q=f88 Φ a0 H Q:=by kernel_rfl
def PF(Φ:aj)(a0 a2 a3 a4 x4 x6:AV)(Q:ae):(List AV×AH)→((List AV×AH)→Prop)→Prop:=fun s7 L8=>
 Do (ai .lss (sl s7.1 0) x6) fun x9=>
 Gd x9 true (
 Do (bj none 2 x4 (sl s7.1 0)) fun bQ=>
 Do (J s7.2 2 true bQ) fun bH=>
 aJ (some (be s7.2 true [.int .i64 0,.int .i64 0])) fun bc de=>
 Do (aH de 2 bc bH) fun eN=>
Φ K.f54 [(.int .i64 5)] eN fun bG iP=>
 aJ (some (be iP true [.int .i64 0,.int .i64 0,.int .i64 0,.int .i64 0,.int .i64 0,.int .i64 0,.int .u64 0,.int .i64 0,.int .i64 0,.int .i64 0,.int .i64 0,.int .i64 0,.int .i64 0])) fun bV fx=>
 Do (aH fx 13 bV bG) fun di=>
 Do (ab 0 bc) fun cm=>
 Do (J di 1 false cm) fun bO=>
 Do (my .u64 bO) fun aW=>
 Do (ab 1 bc) fun cf=>
 Do (J di 1 false cf) fun cw=>
 Do (ab 3 bV) fun cB=>
 Do (aH di 1 cB a2) fun nR=>
(J nR 1 false cm=some bO) ∧
(J nR 1 false cf=some cw) ∧
(Do (ab 6 bV) fun bS=>
 Do (aH nR 1 bS aW) fun iA=>
(J iA 1 false cf=some cw) ∧
(Do (ab 8 bV) fun dx=>
 Do (aH iA 1 dx cw) fun kA=>
 Do (ab 11 bV) fun cK=>
 Do (aH kA 1 cK a4) fun dW=>
 Do (ab 0 bc) fun cO=>
 Do (J dW 1 false cO) fun dM=>
 Do (ai .mul (.int .i64 8) dM) fun eW=>
 Do (my .u64 eW) fun dP=>
Φ K.f87 [a0,(.int .i64 8),a3,dP] dW fun cq kB=>
 Do (ab 4 bV) fun dG=>
 Do (aH kB 1 dG cq) fun jY=>
 Do (J jY 13 true bV) fun ey=>
Φ K.f56 [a0,ey] jY fun dH ie=>
 Do (ai .add (sl s7.1 0) (.int .i64 1)) fun dY=>
 L8 ([dY],ie)))) (
 Q (.aM []) s7.2)
def f89(Φ:aj)(a0 a1 a2 a3 a4:AV)(H:AH)(Q:ae):Prop:=
 aJ (bB H false 8 a1) fun x1 H2=>
 Do (J H2 8 true x1) fun x3=>
Φ K.f114 [x3] H2 fun x4 H5=>
 Do (br false x4) fun x6=>
 aB (PF Φ a0 a2 a3 a4 x4 x6 Q) ([(.int .i64 0)],H5)
noncomputable def aft:bm:=bI Go.Proofs.YtbjhdakiiedmcaaGreatDoor.rb.C ⟨89,[11,12],[[16]],none,[],[]⟩
theorem ate(Φ:aj)(a0 a1 a2 a3 a4:AV)(H:AH)(Q:ae):bM Φ aft [a0,a1,a2,a3,a4] H Q=f89 Φ a0 a1 a2 a3 a4 H Q:=by kernel_rfl
def f90(Φ:aj)(a0:AV)(H:AH)(Q:ae):Prop:=
 Do (bR a0) fun x1=>
 Do (ab 4 x1) fun x2=>
 Do (J H 1 false x2) fun x3=>
 Do (ai .add x3 (.int .i64 1)) fun x4=>
 Do (bR a0) fun x5=>
 Do (ab 4 x5) fun x6=>
 Do (aH H 1 x6 x4) fun H7=>
 Do (bR a0) fun x8=>
 Do (ab 4 x8) fun x9=>
 Do (J H7 1 false x9) fun bQ=>
 Q bQ H7
noncomputable def afu:bm:=bI Go.Proofs.YtbjhdakiiedmcaaGreatDoor.rb.C ⟨90,[],[],none,[],[]⟩
theorem atf(Φ:aj)(a0:AV)(H:AH)(Q:ae):bM Φ afu [a0] H Q=f90 Φ a0 H Q:=by kernel_rfl
def PG(Φ:aj)(a0 a1 x3:AV)(Q:ae):List AV→AH→Prop:=fun j6 H7=>
 Do (ab 10 x3) fun bu=>
 Do (aH H7 1 bu a1) fun eN=>
 Do (J eN 13 true x3) fun bG=>
Φ K.f56 [a0,bG] eN fun bg dv=>
 Q (.aM []) dv
def f91(Φ:aj)(a0 a1 a2:AV)(H:AH)(Q:ae):Prop:=
Φ K.f54 [(.int .i64 15)] H fun x1 H2=>
 aJ (some (be H2 true [.int .i64 0,.int .i64 0,.int .i64 0,.int .i64 0,.int .i64 0,.int .i64 0,.int .u64 0,.int .i64 0,.int .i64 0,.int .i64 0,.int .i64 0,.int .i64 0,.int .i64 0])) fun x3 H4=>
 Do (aH H4 13 x3 x1) fun H5=>
 Do (ai .neq a2 (.int .i64 (-1))) fun x8=>
 Gd x8 true (
 Do (ab 0 x3) fun x9=>
 Do (aH H5 1 x9 (.int .i64 16)) fun bZ=>
 Do (ab 3 x3) fun bH=>
 Do (aH bZ 1 bH a2) fun dQ=>
 ak (PG Φ a0 a1 x3 Q) [] dQ) (
 ak (PG Φ a0 a1 x3 Q) [] H5)
noncomputable def afv:bm:=bI Go.Proofs.YtbjhdakiiedmcaaGreatDoor.rb.C ⟨91,[6],[],none,[],[]⟩
theorem atg(Φ:aj)(a0 a1 a2:AV)(H:AH)(Q:ae):bM Φ afv [a0,a1,a2] H Q=f91 Φ a0 a1 a2 H Q:=by kernel_rfl
def f92(Φ:aj)(a0 a1:AV)(H:AH)(Q:ae):Prop:=
Φ K.f54 [(.int .i64 14)] H fun x1 H2=>
 aJ (some (be H2 true [.int .i64 0,.int .i64 0,.int .i64 0,.int .i64 0,.int .i64 0,.int .i64 0,.int .u64 0,.int .i64 0,.int .i64 0,.int .i64 0,.int .i64 0,.int .i64 0,.int .i64 0])) fun x3 H4=>
 Do (aH H4 13 x3 x1) fun H5=>
 Do (ab 10 x3) fun x6=>
 Do (aH H5 1 x6 a1) fun H7=>
 Do (J H7 13 true x3) fun x8=>
Φ K.f56 [a0,x8] H7 fun x9 bZ=>
 Q (.aM []) bZ
noncomputable def afw:bm:=bI Go.Proofs.YtbjhdakiiedmcaaGreatDoor.rb.C ⟨92,[4],[],none,[],[]⟩
theorem ath(Φ:aj)(a0 a1:AV)(H:AH)(Q:ae):bM Φ afw [a0,a1] H Q=f92 Φ a0 a1 H Q:=by kernel_rfl
def EJ(Φ:aj)(a0 a1:AV)(Q:ae):(List AV×AH)→((List AV×AH)→Prop)→Prop:=fun s1 L2=>
 Do (ai .leq (sl s1.1 0) a1) fun x3=>
 Gd x3 true (
 Do (ai .eql a0 (sl s1.1 0)) fun x4=>
 Gd x4 true (
 Q (.bool true) s1.2) (
 Do (ai .mul (.int .i64 2) (sl s1.1 0)) fun x5=>
 L2 ([x5],s1.2))) (
 Q (.bool false) s1.2)
def f93(Φ:aj)(a0 a1:AV)(H:AH)(Q:ae):Prop:=
 aB (EJ Φ a0 a1 Q) ([(.int .i64 1)],H)
noncomputable def afx:bm:=bI Go.Proofs.YtbjhdakiiedmcaaGreatDoor.rb.C ⟨93,[],[[5]],none,[],[]⟩
theorem ati(Φ:aj)(a0 a1:AV)(H:AH)(Q:ae):bM Φ afx [a0,a1] H Q=f93 Φ a0 a1 H Q:=by kernel_rfl
def PH(Φ:aj)(a0 a1 x1:AV)(Q:ae):(List AV×AH)→((List AV×AH)→Prop)→Prop:=fun s2 L3=>
 Do (ai .lss (sl s2.1 0) x1) fun x4=>
 Gd x4 true (
 Do (bj none 1 a0 (sl s2.1 0)) fun x5=>
 Do (J s2.2 1 false x5) fun x6=>
 Do (ai .eql a1 x6) fun x7=>
 Gd x7 true (
 Q (sl s2.1 0) s2.2) (
 Do (ai .add (sl s2.1 0) (.int .i64 1)) fun x8=>
 L3 ([x8],s2.2))) (
 Q (.int .i64 (-1)) s2.2)
def f94(Φ:aj)(a0 a1:AV)(H:AH)(Q:ae):Prop:=
 Do (br false a0) fun x1=>
 aB (PH Φ a0 a1 x1 Q) ([(.int .i64 0)],H)
noncomputable def afy:bm:=bI Go.Proofs.YtbjhdakiiedmcaaGreatDoor.rb.C ⟨94,[],[[8]],none,[],[]⟩
theorem atj(Φ:aj)(a0 a1:AV)(H:AH)(Q:ae):bM Φ afy [a0,a1] H Q=f94 Φ a0 a1 H Q:=by kernel_rfl
def ad_(Φ:aj)(x1:AV)(Q:ae):List AV→AH→Prop:=fun j3 H4=>
 Do (bJ [.bool false,.bool false,.bool false,.int .i64 0,.bool false,.bool false] []) fun ey=>
 Do (aH H4 6 x1 ey) fun jJ=>
 Do (J jJ 6 true x1) fun dR=>
 Q (.aM [dR,(.bool false)]) jJ
def U1(Φ:aj)(a0 x1:AV)(Q:ae):List AV→AH→Prop:=fun lh dQ=>
 Gd (sl lh 0) true (
 Do (bJ [.bool false,.bool false,.bool false,.int .i64 0,.bool false,.bool false] [(2,1,(.bool true)),(3,1,(.int .i64 1))]) fun bN=>
 Do (aH dQ 6 x1 bN) fun eD=>
 Do (J eD 6 true x1) fun bg=>
 Q (.aM [bg,(.bool true)]) eD) (
 Do (ai .eql a0 (.int .i64 5)) fun bV=>
 Gd bV true (
 Do (bJ [.bool false,.bool false,.bool false,.int .i64 0,.bool false,.bool false] [(0,1,(.bool true)),(1,1,(.bool true)),(2,1,(.bool true))]) fun bE=>
 Do (aH dQ 6 x1 bE) fun di=>
 Do (J di 6 true x1) fun cm=>
 Q (.aM [cm,(.bool true)]) di) (
 Do (ai .eql a0 (.int .i64 6)) fun bO=>
 Gd bO true (
 Do (bJ [.bool false,.bool false,.bool false,.int .i64 0,.bool false,.bool false] [(2,1,(.bool true)),(3,1,(.int .i64 2))]) fun aW=>
 Do (aH dQ 6 x1 aW) fun gq=>
 Do (J gq 6 true x1) fun cw=>
 Q (.aM [cw,(.bool true)]) gq) (
 Do (ai .eql a0 (.int .i64 7)) fun cB=>
 Gd cB true (
 Do (bJ [.bool false,.bool false,.bool false,.int .i64 0,.bool false,.bool false] []) fun b_=>
 Do (aH dQ 6 x1 b_) fun eT=>
 Do (J eT 6 true x1) fun bA=>
 Q (.aM [bA,(.bool true)]) eT) (
 Do (ai .eql a0 (.int .i64 8)) fun dx=>
 Gd dx true (
 Do (bJ [.bool false,.bool false,.bool false,.int .i64 0,.bool false,.bool false] [(3,1,(.int .i64 1)),(4,1,(.bool true)),(5,1,(.bool true))]) fun cb=>
 Do (aH dQ 6 x1 cb) fun gj=>
 Do (J gj 6 true x1) fun dL=>
 Q (.aM [dL,(.bool true)]) gj) (
 Do (ai .eql a0 (.int .i64 9)) fun cO=>
 Gd cO true (
 Do (bJ [.bool false,.bool false,.bool false,.int .i64 0,.bool false,.bool false] [(3,1,(.int .i64 1)),(4,1,(.bool true))]) fun dM=>
 Do (aH dQ 6 x1 dM) fun eO=>
 Do (J eO 6 true x1) fun dP=>
 Q (.aM [dP,(.bool true)]) eO) (
 Do (ai .eql a0 (.int .i64 10)) fun cq=>
 Gd cq true (
 Do (bJ [.bool false,.bool false,.bool false,.int .i64 0,.bool false,.bool false] [(3,1,(.int .i64 1))]) fun df=>
 Do (aH dQ 6 x1 df) fun gT=>
 Do (J gT 6 true x1) fun dC=>
 Q (.aM [dC,(.bool true)]) gT) (
 ak (ad_ Φ x1 Q) [] dQ)))))))
def U2(Φ:aj)(a0 x1:AV)(Q:ae):List AV→AH→Prop:=fun j5 H6=>
 Gd (sl j5 0) true (
 Do (bJ [.bool false,.bool false,.bool false,.int .i64 0,.bool false,.bool false] [(0,1,(.bool true)),(3,1,(.int .i64 1))]) fun x8=>
 Do (aH H6 6 x1 x8) fun H9=>
 Do (J H9 6 true x1) fun bQ=>
 Q (.aM [bQ,(.bool true)]) H9) (
 Do (ai .eql a0 (.int .i64 3)) fun bu=>
 Gd bu true (
 ak (U1 Φ a0 x1 Q) [bu] H6) (
 Do (ai .eql a0 (.int .i64 4)) fun dY=>
 ak (U1 Φ a0 x1 Q) [dY] H6))
def f97(Φ:aj)(a0:AV)(H:AH)(Q:ae):Prop:=
 aJ (some (be H true [.bool false,.bool false,.bool false,.int .i64 0,.bool false,.bool false])) fun x1 H2=>
 Do (ai .eql a0 (.int .i64 1)) fun x7=>
 Gd x7 true (
 ak (U2 Φ a0 x1 Q) [x7] H2) (
 Do (ai .eql a0 (.int .i64 2)) fun dJ=>
 ak (U2 Φ a0 x1 Q) [dJ] H2)
noncomputable def afz:bm:=bI Go.Proofs.YtbjhdakiiedmcaaGreatDoor.rb.C ⟨97,[2],[],none,[],[]⟩
theorem atk(Φ:aj)(a0:AV)(H:AH)(Q:ae):bM Φ afz [a0] H Q=f97 Φ a0 H Q:=by kernel_rfl
def f98(Φ:aj)(a0:AV)(H:AH)(Q:ae):Prop:=
 aJ (bB H false 2 a0) fun x1 H2=>
 Do (ab 0 x1) fun x3=>
 Do (J H2 1 false x3) fun x4=>
 Do (ai .eql x4 (.str [])) fun x5=>
 aL x5 true (
 Do (ab 1 x1) fun x6=>
 Do (J H2 1 false x6) fun x7=>
 Do (br false x7) fun x8=>
 Do (ai .eql x8 (.int .i64 0)) fun x9=>
 Q x9 H2) (
 Q (.bool false) H2) (
 False)
noncomputable def afA:bm:=bI Go.Proofs.YtbjhdakiiedmcaaGreatDoor.rb.C ⟨98,[],[],none,[],[]⟩
theorem atl(Φ:aj)(a0:AV)(H:AH)(Q:ae):bM Φ afA [a0] H Q=f98 Φ a0 H Q:=by kernel_rfl
def aea(Φ:aj)(x3 bN:AV)(Q:ae):List AV→AH→Prop:=fun zP fN=>
 Do (J fN 6 true bN) fun bW=>
 Do (aH fN 6 x3 bW) fun mD=>
 Do (J mD 6 true x3) fun fZ=>
 Q (.aM [fZ,(.int .i64 0)]) mD
def PI(Φ:aj)(x3 bN bS bA:AV)(Q:ae):(List AV×AH)→((List AV×AH)→Prop)→Prop:=fun jN xU=>
 Do (ai .lss (sl jN.1 0) bA) fun cK=>
 Gd cK true (
 Do (bj none 2 bS (sl jN.1 0)) fun dL=>
 Do (J jN.2 2 true dL) fun cO=>
 aJ (some (be jN.2 true [.str [],.aq .nil 0 []])) fun dM eO=>
 Do (aH eO 2 dM cO) fun je=>
 Do (J je 6 true bN) fun cq=>
 Do (J je 2 true dM) fun df=>
Φ K.f117 [cq,df] je fun dG jY=>
 Do (db 0 dG) fun ey=>
 Do (db 1 dG) fun dH=>
 aJ (some (be jY true [.int .i64 0,.int .i64 0,.bool false,.aq .nil 0 [],.int .i64 0,.aq .nil 0 []])) fun dR me=>
 Do (aH me 6 dR ey) fun tC=>
 Do (ai .neq dH (.int .i64 0)) fun dN=>
 Gd dN true (
 Do (bJ [.int .i64 0,.int .i64 0,.bool false,.aq .nil 0 [],.int .i64 0,.aq .nil 0 []] []) fun dS=>
 Do (aH tC 6 x3 dS) fun mf=>
 Do (J mf 6 true x3) fun e_=>
 Q (.aM [e_,dH]) mf) (
 Do (J tC 6 true dR) fun gE=>
 Do (aH tC 6 bN gE) fun vX=>
 Do (ai .add (sl jN.1 0) (.int .i64 1)) fun fa=>
 xU ([fa],vX))) (
 ak (aea Φ x3 bN Q) [] jN.2)
def f99(Φ:aj)(a0 a1:AV)(H:AH)(Q:ae):Prop:=
 aJ (bB H false 2 a1) fun x1 H2=>
 aJ (some (be H2 true [.int .i64 0,.int .i64 0,.bool false,.aq .nil 0 [],.int .i64 0,.aq .nil 0 []])) fun x3 H4=>
Φ K.f68 [a0,(.fn K.f116 [x1])] H4 fun x5 H6=>
 Do (ai .lss x5 (.int .i64 0)) fun x7=>
 Gd x7 true (
 Do (bJ [.int .i64 0,.int .i64 0,.bool false,.aq .nil 0 [],.int .i64 0,.aq .nil 0 []] []) fun x8=>
 Do (aH H6 6 x3 x8) fun H9=>
 Do (J H9 6 true x3) fun bQ=>
 Q (.aM [bQ,(.int .i64 6)]) H9) (
 Do (bj none 7 a0 x5) fun bH=>
 Do (ab 1 bH) fun bc=>
 Do (J H6 6 true bc) fun bu=>
 aJ (some (be H6 true [.int .i64 0,.int .i64 0,.bool false,.aq .nil 0 [],.int .i64 0,.aq .nil 0 []])) fun bN eD=>
 Do (aH eD 6 bN bu) fun iP=>
 Do (J iP 6 true bN) fun bV=>
Φ K.f75 [bV] iP fun bE di=>
 Do (ai .neq bE (.int .i64 0)) fun cm=>
 Gd cm true (
 Do (bJ [.int .i64 0,.int .i64 0,.bool false,.aq .nil 0 [],.int .i64 0,.aq .nil 0 []] []) fun bO=>
 Do (aH di 6 x3 bO) fun fM=>
 Do (J fM 6 true x3) fun cf=>
 Q (.aM [cf,bE]) fM) (
 Do (ab 1 x1) fun b_=>
 Do (J di 1 false b_) fun bS=>
 Do (br false bS) fun bA=>
 aB (PI Φ x3 bN bS bA Q) ([(.int .i64 0)],di)))
noncomputable def afB:bm:=bI Go.Proofs.YtbjhdakiiedmcaaGreatDoor.rb.C ⟨99,[4,7,10,11],[[33]],none,[],[]⟩
theorem atm(Φ:aj)(a0 a1:AV)(H:AH)(Q:ae):bM Φ afB [a0,a1] H Q=f99 Φ a0 a1 H Q:=by kernel_rfl
def abQ(Φ:aj)(x1:AV)(Q:ae):List AV→AH→Prop:=fun j3 H4=>
 Do (ab 0 x1) fun cm=>
 Do (J H4 1 false cm) fun bO=>
 Do (ai .eql bO (.int .i64 2)) fun aW=>
 aL aW true (
 Do (ab 1 x1) fun cf=>
 Do (J H4 1 false cf) fun cw=>
 Do (ai .leq cw (.int .i64 8)) fun cB=>
 Q cB H4) (
 Q (.bool false) H4) (
 False)
def Tq(Φ:aj)(x1:AV)(Q:ae):List AV→AH→Prop:=fun lh dQ=>
 Gd (sl lh 0) true (
 Do (ab 0 x1) fun bN=>
 Do (J dQ 1 false bN) fun bG=>
 Do (ai .eql bG (.int .i64 2)) fun bg=>
 aL bg true (
 Do (ab 1 x1) fun bV=>
 Do (J dQ 1 false bV) fun bE=>
 Do (ai .eql bE (.int .i64 16)) fun cI=>
 Q cI dQ) (
 Q (.bool false) dQ) (
 False)) (
 ak (abQ Φ x1 Q) [] dQ)
def Tr(Φ:aj)(a0 x1:AV)(Q:ae):List AV→AH→Prop:=fun j5 H6=>
 Gd (sl j5 0) true (
 Do (ab 0 x1) fun x8=>
 Do (J H6 1 false x8) fun x9=>
 Do (ai .eql x9 (.int .i64 1)) fun bQ=>
 Q bQ H6) (
 Do (ai .eql a0 (.int .i64 5)) fun bu=>
 Gd bu true (
 ak (Tq Φ x1 Q) [bu] H6) (
 Do (ai .eql a0 (.int .i64 6)) fun b_=>
 ak (Tq Φ x1 Q) [b_] H6))
def f100(Φ:aj)(a0 a1:AV)(H:AH)(Q:ae):Prop:=
 aJ (bB H false 6 a1) fun x1 H2=>
 Do (ai .eql a0 (.int .i64 3)) fun x7=>
 Gd x7 true (
 ak (Tr Φ a0 x1 Q) [x7] H2) (
 Do (ai .eql a0 (.int .i64 14)) fun bS=>
 ak (Tr Φ a0 x1 Q) [bS] H2)
noncomputable def acg:bm:=bI Go.Proofs.YtbjhdakiiedmcaaGreatDoor.rb.C ⟨100,[],[],none,[],[]⟩
theorem ao6(Φ:aj)(a0 a1:AV)(H:AH)(Q:ae):bM Φ acg [a0,a1] H Q=f100 Φ a0 a1 H Q:=by kernel_rfl
def MN(Φ:aj)(a0 a2 x1:AV)(Q:ae):List AV→AH→Prop:=fun GD lI=>
 Do (ab 7 x1) fun dJ=>
 Do (J lI 1 false dJ) fun dN=>
Φ K.f74 [a0,dN,a2] lI fun dS mf=>
 Q (.aM []) mf
def MO(Φ:aj)(a0 a2 x1:AV)(Q:ae):List AV→AH→Prop:=fun YF gq=>
 Do (ab 0 x1) fun eW=>
 Do (J gq 1 false eW) fun dP=>
 Do (ai .geq dP (.int .i64 4)) fun cq=>
 Gd cq true (
 Do (ab 0 x1) fun df=>
 Do (J gq 1 false df) fun dG=>
 Do (ai .add (.int .i64 10) dG) fun dC=>
 Do (ab 5 x1) fun ey=>
 Do (J gq 2 true ey) fun dH=>
Φ K.f73 [a0,dC,dH,a2] gq fun dR me=>
 ak (MN Φ a0 a2 x1 Q) [] me) (
 ak (MN Φ a0 a2 x1 Q) [] gq)
def f101(Φ:aj)(a0 a1 a2:AV)(H:AH)(Q:ae):Prop:=
 aJ (bB H false 8 a1) fun x1 H2=>
 Do (ai .leq a2 (.int .i64 64)) fun x3=>
Φ K.f69 [a0,x3,(.int .i64 5)] H2 fun x4 H5=>
 Do (J H5 8 true x1) fun x6=>
Φ K.f118 [x6] H5 fun x7 H8=>
Φ K.f69 [a0,x7,(.int .i64 4)] H8 fun x9 bZ=>
 Do (ab 0 x1) fun bH=>
 Do (J bZ 1 false bH) fun bc=>
 Do (ai .add (.int .i64 10) bc) fun bu=>
 Do (ab 4 x1) fun bN=>
 Do (J bZ 1 false bN) fun bG=>
Φ K.f71 [bu,bG] bZ fun bg dv=>
Φ K.f69 [a0,bg,(.int .i64 11)] dv fun bE di=>
Φ K.f28 [a0] di fun cm fc=>
 Gd cm true (
 Q (.aM []) fc) (
 Do (ab 0 x1) fun cw=>
 Do (J fc 1 false cw) fun cB=>
 Do (ai .eql cB (.int .i64 2)) fun b_=>
 Gd b_ true (
 Do (ab 2 x1) fun bS=>
 Do (J fc 1 false bS) fun bA=>
Φ K.f72 [a0,bA] fc fun dx kA=>
Φ K.f69 [a0,dx,(.int .i64 6)] kA fun cK dW=>
 ak (MO Φ a0 a2 x1 Q) [] dW) (
 ak (MO Φ a0 a2 x1 Q) [] fc))
noncomputable def ach:bm:=bI Go.Proofs.YtbjhdakiiedmcaaGreatDoor.rb.C ⟨101,[],[],none,[],[]⟩
theorem ao7(Φ:aj)(a0 a1 a2:AV)(H:AH)(Q:ae):bM Φ ach [a0,a1,a2] H Q=f101 Φ a0 a1 a2 H Q:=by kernel_rfl
def f102(Φ:aj)(a0:AV)(H:AH)(Q:ae):Prop:=
 aJ (bB H false 6 a0) fun x1 H2=>
 Do (J H2 6 true x1) fun x3=>
Φ K.f119 [x3,(.int .i64 65)] H2 fun x4 H5=>
 Q x4 H5
noncomputable def aci:bm:=bI Go.Proofs.YtbjhdakiiedmcaaGreatDoor.rb.C ⟨102,[],[],none,[],[]⟩
theorem ao8(Φ:aj)(a0:AV)(H:AH)(Q:ae):bM Φ aci [a0] H Q=f102 Φ a0 H Q:=by kernel_rfl
def abR(Φ:aj)(x1:AV)(Q:ae):List AV→AH→Prop:=fun YF gq=>
 Do (ab 5 x1) fun dL=>
 Do (J gq 1 false dL) fun cO=>
 Do (bj none 6 cO (.int .i64 0)) fun dM=>
 Do (J gq 6 true dM) fun eW=>
Φ K.f103 [eW] gq fun dP qA=>
 Q dP qA
def MP(Φ:aj)(x1:AV)(Q:ae):List AV→AH→Prop:=fun zP fN=>
 Gd (sl zP 0) true (
 Q (.int .i64 9) fN) (
 ak (abR Φ x1 Q) [] fN)
def f103(Φ:aj)(a0:AV)(H:AH)(Q:ae):Prop:=
 aJ (bB H false 6 a0) fun x1 H2=>
 Do (J H2 6 true x1) fun x3=>
Φ K.f120 [x3] H2 fun x4 H5=>
 Do (eB .not x4) fun x6=>
 Gd x6 true (
 Q (.int .i64 8) H5) (
 Do (ab 0 x1) fun x7=>
 Do (J H5 1 false x7) fun x8=>
 Do (ai .eql x8 (.int .i64 1)) fun x9=>
 Gd x9 true (
 Do (ab 1 x1) fun bQ=>
 Do (J H5 1 false bQ) fun bH=>
Φ K.f121 [bH,(.int .i64 8)] H5 fun bc de=>
 Do (eB .not bc) fun bN=>
 Gd bN true (
 Q (.int .i64 9) de) (
 Q (.int .i64 0) de)) (
 Do (ai .eql x8 (.int .i64 2)) fun bG=>
 Gd bG true (
 Do (ab 1 x1) fun bg=>
 Do (J H5 1 false bg) fun bV=>
Φ K.f121 [bV,(.int .i64 16)] H5 fun bE di=>
 Do (eB .not bE) fun cm=>
 Gd cm true (
 Q (.int .i64 9) di) (
 Q (.int .i64 0) di)) (
 Do (ai .eql x8 (.int .i64 5)) fun bO=>
 Gd bO true (
 Do (ab 4 x1) fun b_=>
 Do (J H5 1 false b_) fun bS=>
 Do (ai .lss bS (.int .i64 1)) fun bA=>
 aL bA false (
 Do (ab 4 x1) fun dx=>
 Do (J H5 1 false dx) fun cb=>
 Do (ai .gtr cb (.int .i64 65536)) fun cK=>
 ak (MP Φ x1 Q) [cK] H5) (
 ak (MP Φ x1 Q) [(.bool true)] H5) (
 False)) (
 Do (J H5 6 true x1) fun df=>
Φ K.f122 [df] H5 fun dG jY=>
 Q dG jY))))
noncomputable def acj:bm:=bI Go.Proofs.YtbjhdakiiedmcaaGreatDoor.rb.C ⟨103,[],[],none,[],[]⟩
theorem ao9(Φ:aj)(a0:AV)(H:AH)(Q:ae):bM Φ acj [a0] H Q=f103 Φ a0 H Q:=by kernel_rfl
def MQ(Φ:aj)(x1:AV)(Q:ae):List AV→AH→Prop:=fun lh dQ=>
 aL (sl lh 0) false (
 Do (ab 3 x1) fun bV=>
 Do (J dQ 1 false bV) fun bE=>
Φ K.f106 [bE,(.fn K.f123 [])] dQ fun cI fH=>
 Q cI fH) (
 Q (.bool true) dQ) (
 False)
def MR(Φ:aj)(x1:AV)(Q:ae):List AV→AH→Prop:=fun j3 H4=>
 aL (sl j3 0) false (
 Do (ab 5 x1) fun bu=>
 Do (J H4 1 false bu) fun bN=>
Φ K.f105 [bN,(.fn K.f104 [])] H4 fun bG iP=>
 ak (MQ Φ x1 Q) [bG] iP) (
 ak (MQ Φ x1 Q) [(.bool true)] H4) (
 False)
def f104(Φ:aj)(a0:AV)(H:AH)(Q:ae):Prop:=
 aJ (bB H false 6 a0) fun x1 H2=>
 Do (ab 0 x1) fun x5=>
 Do (J H2 1 false x5) fun x6=>
 Do (ai .eql x6 (.int .i64 2)) fun x7=>
 aL x7 true (
 Do (ab 1 x1) fun x8=>
 Do (J H2 1 false x8) fun x9=>
 Do (ai .gtr x9 (.int .i64 1)) fun bQ=>
 ak (MR Φ x1 Q) [bQ] H2) (
 ak (MR Φ x1 Q) [(.bool false)] H2) (
 False)
noncomputable def ack:bm:=bI Go.Proofs.YtbjhdakiiedmcaaGreatDoor.rb.C ⟨104,[],[],none,[],[]⟩
theorem ao_(Φ:aj)(a0:AV)(H:AH)(Q:ae):bM Φ ack [a0] H Q=f104 Φ a0 H Q:=by kernel_rfl
def f105(Φ:aj)(a0 a1:AV)(H:AH)(Q:ae):Prop:=
Φ K.f124 [a0,a1] H fun x1 H2=>
 Do (ai .geq x1 (.int .i64 0)) fun x3=>
 Q x3 H2
noncomputable def acm:bm:=bI Go.Proofs.YtbjhdakiiedmcaaGreatDoor.rb.C ⟨105,[],[],none,[],[]⟩
theorem apa(Φ:aj)(a0 a1:AV)(H:AH)(Q:ae):bM Φ acm [a0,a1] H Q=f105 Φ a0 a1 H Q:=by kernel_rfl
def f106(Φ:aj)(a0 a1:AV)(H:AH)(Q:ae):Prop:=
Φ K.f110 [a0,a1] H fun x1 H2=>
 Do (ai .geq x1 (.int .i64 0)) fun x3=>
 Q x3 H2
noncomputable def acn:bm:=bI Go.Proofs.YtbjhdakiiedmcaaGreatDoor.rb.C ⟨106,[],[],none,[],[]⟩
theorem apb(Φ:aj)(a0 a1:AV)(H:AH)(Q:ae):bM Φ acn [a0,a1] H Q=f106 Φ a0 a1 H Q:=by kernel_rfl
def f107(Φ:aj)(a0:AV)(H:AH)(Q:ae):Prop:=
 aJ (bB H false 9 a0) fun x1 H2=>
 Do (ab 1 x1) fun x3=>
 Do (J H2 6 true x3) fun x4=>
Φ K.f76 [x4] H2 fun x5 H6=>
 Q x5 H6
noncomputable def aco:bm:=bI Go.Proofs.YtbjhdakiiedmcaaGreatDoor.rb.C ⟨107,[],[],none,[],[]⟩
theorem apc(Φ:aj)(a0:AV)(H:AH)(Q:ae):bM Φ aco [a0] H Q=f107 Φ a0 H Q:=by kernel_rfl
def abS(Φ:aj)(mq:List AV×AH)(wb:(List AV×AH)→Prop)(Q:ae):List AV→AH→Prop:=fun zN di=>
 Do (ai .add (sl mq.1 0) (.int .i64 1)) fun m5=>
 wb ([m5],di)
def MS(Φ:aj)(x7:AV)(mq:List AV×AH)(wb:(List AV×AH)→Prop)(Q:ae):List AV→AH→Prop:=fun Lj nT=>
 Do (ab 0 x7) fun kl=>
 Do (ab 0 kl) fun jC=>
 Do (J nT 1 false jC) fun iG=>
 Do (ab 3 x7) fun ja=>
 Do (J nT 1 false ja) fun jD=>
Φ K.f127 [jD,(.int .i64 8)] nT fun jO H71=>
(J H71 1 false jC=some iG) ∧
(Do (ai .quo jO (.int .i64 8)) fun jE=>
 Do (oY true [iG,jE]) fun ji=>
 Do (ab 0 x7) fun eJ=>
 Do (ab 0 eJ) fun jP=>
 Do (aH H71 1 jP ji) fun zj=>
 ak (abS Φ mq wb Q) [] zj)
def MT(Φ:aj)(x7 aW cK dH:AV)(mq:List AV×AH)(wb:(List AV×AH)→Prop)(Q:ae):List AV→AH→Prop:=fun j51 iQ=>
 Do (ab 7 aW) fun jB=>
 Do (J iQ 1 false jB) fun gF=>
 Gd gF true (
 Do (J iQ 9 true aW) fun iV=>
Φ K.f126 [x7,iV] iQ fun iv qC=>
 ak (MS Φ x7 mq wb Q) [] qC) (
 Do (ab 3 x7) fun kF=>
 Do (J iQ 1 false kF) fun m6=>
Φ K.f127 [m6,(.int .i64 8)] iQ fun mJ C0=>
 Do (ai .quo mJ (.int .i64 8)) fun wN=>
Φ K.f127 [wN,dH] C0 fun oS Q7=>
 Do (ab 2 x7) fun nK=>
 Do (J Q7 1 false nK) fun rN=>
 Do (ab 0 cK) fun uh=>
 Do (J Q7 1 false uh) fun oo=>
 Do (bJ [.int .i64 0,.int .i64 0] [(0,1,oS),(1,1,oo)]) fun ve=>
 Do (ab 1 aW) fun cJ=>
 Do (ab 0 cJ) fun ui=>
 Do (J Q7 1 false ui) fun oT=>
 Do (bJ [.int .i64 0,.int .i64 0,.int .i64 0,.bool false,.int .i64 0,.int .i64 0] [(0,2,ve),(2,1,oT)]) fun uj=>
 aJ (fb Q7 false 6 1 [.int .i64 0,.int .i64 0,.int .i64 0,.bool false,.int .i64 0,.int .i64 0] [(0,6,uj)]) fun km zl=>
 aJ (eF zl false 6 48 rN km) fun sO Kn=>
 Do (ab 2 x7) fun sP=>
 Do (aH Kn 1 sP sO) fun AQ=>
 Do (ab 0 cK) fun ru=>
 Do (J AQ 1 false ru) fun tr=>
 Do (ai .add oS tr) fun rv=>
 Do (ai .mul (.int .i64 8) rv) fun sd=>
 Do (ab 3 x7) fun xG=>
 Do (aH AQ 1 xG sd) fun Cn=>
 ak (MS Φ x7 mq wb Q) [] Cn)
def abT(Φ:aj)(x3 x7:AV)(Q:ae):List AV→AH→Prop:=fun rG cy=>
 Do (ab 0 x7) fun se=>
 Do (ab 0 se) fun ry=>
 Do (J cy 1 false ry) fun tt=>
 Do (ab 0 x7) fun pE=>
 Do (ab 1 pE) fun tv=>
 Do (J cy 1 false tv) fun qz=>
Φ K.f127 [tt,qz] cy fun vT Jo=>
 Do (ab 0 x7) fun xH=>
 Do (ab 0 xH) fun sf=>
 Do (aH Jo 1 sf vT) fun Jq=>
 Do (J Jq 4 true x7) fun rz=>
 Do (ab 0 x7) fun vU=>
 Do (ab 0 vU) fun xI=>
 Do (J Jq 1 false xI) fun vV=>
 Do (ai .leq vV (.int .i64 65536)) fun tx=>
 Do (aH Jq 4 x3 rz) fun Js=>
(J Js 1 false xI=some vV) ∧
(Do (J Js 4 true x3) fun xJ=>
 Q (.aM [xJ,tx]) Js)
def BI(Φ:aj)(x1 x3 x7 bu bN:AV)(Q:ae):(List AV×AH)→((List AV×AH)→Prop)→Prop:=fun mq wb=>
 Do (ai .lss (sl mq.1 0) bN) fun bV=>
 Gd bV true (
 Do (bj none 9 bu (sl mq.1 0)) fun cm=>
 Do (J mq.2 9 true cm) fun bO=>
 aJ (some (be mq.2 true [.str [],.int .i64 0,.int .i64 0,.bool false,.aq .nil 0 [],.int .i64 0,.aq .nil 0 [],.bool false,.int .i64 0])) fun aW gq=>
 Do (aH gq 9 aW bO) fun hZ=>
 Do (ab 1 aW) fun cB=>
 Do (J hZ 6 true cB) fun b_=>
Φ K.f77 [b_] hZ fun bS iA=>
 Do (db 0 bS) fun dx=>
 Do (db 1 bS) fun cb=>
 aJ (some (be iA true [.int .i64 0,.int .i64 0])) fun cK dW=>
 Do (aH dW 2 cK dx) fun jd=>
 Do (eB .not cb) fun dM=>
 Gd dM true (
 Do (bJ [.int .i64 0,.int .i64 0,.aq .nil 0 [],.int .i64 0] []) fun eW=>
 Do (aH jd 4 x3 eW) fun je=>
 Do (J je 4 true x3) fun cq=>
 Q (.aM [cq,(.bool false)]) je) (
 Do (J jd 6 true x1) fun df=>
 Do (J jd 9 true aW) fun dG=>
 Do (ab 1 cK) fun dC=>
 Do (J jd 1 false dC) fun ey=>
Φ K.f125 [df,dG,ey] jd fun dH ie=>
 Do (ab 0 x7) fun dY=>
 Do (ab 1 dY) fun dJ=>
 Do (J ie 1 false dJ) fun dN=>
 Do (oY true [dN,dH]) fun dS=>
 Do (ab 0 x7) fun eE=>
 Do (ab 1 eE) fun e_=>
 Do (aH ie 1 e_ dS) fun gB=>
 Do (ab 0 x1) fun bW=>
 Do (J gB 1 false bW) fun fY=>
 Do (ai .eql fY (.int .i64 4)) fun fZ=>
 Gd fZ true (
 Do (ab 3 x7) fun gX=>
 Do (aH gB 1 gX (.int .i64 0)) fun jK=>
 ak (MT Φ x7 aW cK dH mq wb Q) [] jK) (
 ak (MT Φ x7 aW cK dH mq wb Q) [] gB))) (
 ak (abT Φ x3 x7 Q) [] mq.2)
def f108(Φ:aj)(a0:AV)(H:AH)(Q:ae):Prop:=
 aJ (bB H false 6 a0) fun x1 H2=>
 aJ (some (be H2 true [.int .i64 0,.int .i64 0,.aq .nil 0 [],.int .i64 0])) fun x3 H4=>
 Do (bJ [.int .i64 0,.int .i64 0] [(0,1,(.int .i64 0)),(1,1,(.int .i64 1))]) fun x5=>
 Do (bJ [.int .i64 0,.int .i64 0,.aq .nil 0 [],.int .i64 0] [(0,2,x5)]) fun x6=>
 aJ (some (be H4 true [.int .i64 0,.int .i64 0,.aq .nil 0 [],.int .i64 0])) fun x7 H8=>
 Do (aH H8 4 x7 x6) fun H9=>
 Do (ab 3 x1) fun bc=>
 Do (J H9 1 false bc) fun bu=>
 Do (br false bu) fun bN=>
 aB (BI Φ x1 x3 x7 bu bN Q) ([(.int .i64 0)],H9)
noncomputable def acp:bm:=bI Go.Proofs.YtbjhdakiiedmcaaGreatDoor.rb.C ⟨108,[2,4,6,7],[[16]],none,[],[]⟩
theorem apd(Φ:aj)(a0:AV)(H:AH)(Q:ae):bM Φ acp [a0] H Q=f108 Φ a0 H Q:=by kernel_rfl
def f109(Φ:aj)(a0 a1:AV)(H:AH)(Q:ae):Prop:=
 aJ (bB H false 7 a0) fun x1 H2=>
 Do (ab 0 x1) fun x3=>
 Do (J H2 1 false x3) fun x4=>
 Do (ab 0 a1) fun x5=>
 Do (J H2 1 false x5) fun x6=>
 Do (ai .eql x4 x6) fun x7=>
 Q x7 H2
noncomputable def acq:bm:=bI Go.Proofs.YtbjhdakiiedmcaaGreatDoor.rb.C ⟨109,[],[],none,[],[]⟩
theorem ape(Φ:aj)(a0 a1:AV)(H:AH)(Q:ae):bM Φ acq [a0,a1] H Q=f109 Φ a0 a1 H Q:=by kernel_rfl
def apD(Φ:aj)(a0 a1 x1:AV)(Q:ae):(List AV×AH)→((List AV×AH)→Prop)→Prop:=fun s2 L3=>
 Do (ai .lss (sl s2.1 0) x1) fun x4=>
 Gd x4 true (
 Do (bj none 9 a0 (sl s2.1 0)) fun x5=>
 Do (J s2.2 9 true x5) fun x6=>
∃k9 su,a1 = .fn k9 su∧Φ (uI k9) (uA k9 [x6] su) s2.2 fun x7 H8=>
 Gd x7 true (
 Q (sl s2.1 0) H8) (
 Do (ai .add (sl s2.1 0) (.int .i64 1)) fun bH=>
 L3 ([bH],H8))) (
 Q (.int .i64 (-1)) s2.2)
def f110(Φ:aj)(a0 a1:AV)(H:AH)(Q:ae):Prop:=
 Do (br false a0) fun x1=>
 aB (apD Φ a0 a1 x1 Q) ([(.int .i64 0)],H)
noncomputable def acr:bm:=bI Go.Proofs.YtbjhdakiiedmcaaGreatDoor.rb.C ⟨110,[],[[8]],none,[],[]⟩
theorem apf(Φ:aj)(a0 a1:AV)(H:AH)(Q:ae):bM Φ acr [a0,a1] H Q=f110 Φ a0 a1 H Q:=by kernel_rfl
def f111(Φ:aj)(a0 a1:AV)(H:AH)(Q:ae):Prop:=
 aJ (bB H false 9 a0) fun x1 H2=>
 Do (ab 0 x1) fun x3=>
 Do (J H2 1 false x3) fun x4=>
 Do (ab 0 a1) fun x5=>
 Do (J H2 1 false x5) fun x6=>
 Do (ai .eql x4 x6) fun x7=>
 Q x7 H2
noncomputable def acs:bm:=bI Go.Proofs.YtbjhdakiiedmcaaGreatDoor.rb.C ⟨111,[],[],none,[],[]⟩
theorem apg(Φ:aj)(a0 a1:AV)(H:AH)(Q:ae):bM Φ acs [a0,a1] H Q=f111 Φ a0 a1 H Q:=by kernel_rfl
def abU(Φ:aj)(x1:AV)(Q:ae):List AV→AH→Prop:=fun Bg de=>
 Do (J de 6 true x1) fun aW=>
Φ K.f108 [aW] de fun cf hZ=>
 Do (db 0 cf) fun cB=>
 Do (db 1 cf) fun b_=>
 aJ (some (be hZ true [.int .i64 0,.int .i64 0,.aq .nil 0 [],.int .i64 0])) fun bS iA=>
 Do (aH iA 4 bS cB) fun fy=>
 Do (ab 2 bS) fun cb=>
 Do (J fy 1 false cb) fun cK=>
 Q (.aM [cK,(.int .i64 0)]) fy
def MU(Φ:aj)(x1:AV)(Q:ae):List AV→AH→Prop:=fun zM eD=>
 Gd (sl zM 0) true (
 Q (.aM [(.aq .nil 0 []),(.int .i64 8)]) eD) (
 ak (abU Φ x1 Q) [] eD)
def f112(Φ:aj)(a0:AV)(H:AH)(Q:ae):Prop:=
 aJ (bB H false 6 a0) fun x1 H2=>
 Do (J H2 6 true x1) fun x3=>
Φ K.f46 [x3] H2 fun x4 H5=>
 Do (db 0 x4) fun x6=>
 Do (db 1 x4) fun x7=>
 aJ (some (be H5 true [.int .i64 0,.int .i64 0])) fun x8 H9=>
 Do (aH H9 2 x8 x6) fun bZ=>
 Do (ai .neq x7 (.int .i64 0)) fun bH=>
 Gd bH true (
 Q (.aM [(.aq .nil 0 []),x7]) bZ) (
 Do (ab 0 x1) fun bg=>
 Do (J bZ 1 false bg) fun bV=>
 Do (ai .neq bV (.int .i64 3)) fun bE=>
 aL bE true (
 Do (ab 0 x1) fun cI=>
 Do (J bZ 1 false cI) fun cm=>
 Do (ai .neq cm (.int .i64 4)) fun bO=>
 ak (MU Φ x1 Q) [bO] bZ) (
 ak (MU Φ x1 Q) [(.bool false)] bZ) (
 False))
noncomputable def acu:bm:=bI Go.Proofs.YtbjhdakiiedmcaaGreatDoor.rb.C ⟨112,[4,6],[],none,[],[]⟩
theorem aph(Φ:aj)(a0:AV)(H:AH)(Q:ae):bM Φ acu [a0] H Q=f112 Φ a0 H Q:=by kernel_rfl
def abV(Φ:aj)(s1:List AV×AH)(L2:(List AV×AH)→Prop)(Q:ae):List AV→AH→Prop:=fun j3 H4=>
 Do (ai .quo (sl s1.1 0) (.int .i64 2)) fun bQ=>
 L2 ([bQ],H4)
def MV(Φ:aj)(s1:List AV×AH)(L2:(List AV×AH)→Prop)(Q:ae):List AV→AH→Prop:=fun j5 H6=>
 Gd (sl j5 0) true (
 ak (abV Φ s1 L2 Q) [] H6) (
 Q (sl s1.1 0) H6)
def MW(Φ:aj)(a0:AV)(Q:ae):(List AV×AH)→((List AV×AH)→Prop)→Prop:=fun s1 L2=>
 Do (ai .gtr (sl s1.1 0) (.int .i64 1)) fun x7=>
 aL x7 true (
 Do (ai .rem a0 (sl s1.1 0)) fun x8=>
 Do (ai .neq x8 (.int .i64 0)) fun x9=>
 ak (MV Φ s1 L2 Q) [x9] s1.2) (
 ak (MV Φ s1 L2 Q) [(.bool false)] s1.2) (
 False)
def f113(Φ:aj)(a0 a1:AV)(H:AH)(Q:ae):Prop:=
 aB (MW Φ a0 Q) ([a1],H)
noncomputable def acv:bm:=bI Go.Proofs.YtbjhdakiiedmcaaGreatDoor.rb.C ⟨113,[],[[1]],none,[],[]⟩
theorem api(Φ:aj)(a0 a1:AV)(H:AH)(Q:ae):bM Φ acv [a0,a1] H Q=f113 Φ a0 a1 H Q:=by kernel_rfl
def MX(Φ:aj)(x1 x9 bH:AV)(Q:ae):(List AV×AH)→((List AV×AH)→Prop)→Prop:=fun mo xR=>
 Do (ai .lss (sl mo.1 1) bH) fun bN=>
 Gd bN true (
 Do (bj none 2 x9 (sl mo.1 1)) fun bG=>
 Do (J mo.2 2 true bG) fun bg=>
 aJ (some (be mo.2 true [.int .i64 0,.int .i64 0])) fun bV fx=>
 Do (aH fx 2 bV bg) fun di=>
 Do (ab 0 bV) fun cm=>
 Do (J di 1 false cm) fun bO=>
 Do (ab 0 x1) fun aW=>
 Do (ab 0 aW) fun cf=>
 Do (ab 0 cf) fun cw=>
 Do (J di 1 false cw) fun cB=>
 Do (ai .sub bO cB) fun b_=>
 Do (ab 1 bV) fun bS=>
 Do (J di 1 false bS) fun bA=>
 Do (bJ [.int .i64 0,.int .i64 0] [(0,1,b_),(1,1,bA)]) fun dx=>
 aJ (fb di false 2 1 [.int .i64 0,.int .i64 0] [(0,2,dx)]) fun cb gj=>
 aJ (eF gj false 2 16 (sl mo.1 0) cb) fun dL jd=>
 Do (ai .add (sl mo.1 1) (.int .i64 1)) fun dM=>
 xR ([dL,dM],jd)) (
 Q (sl mo.1 0) mo.2)
def abW(Φ:aj)(kj:List AV×AH)(tG:(List AV×AH)→Prop)(Q:ae):List AV→AH→Prop:=fun Lh mf=>
 Do (bJ [.int .i64 0,.int .i64 0] [(0,1,(sl kj.1 1)),(1,1,(sl Lh 0))]) fun iu=>
 aJ (fb mf false 2 1 [.int .i64 0,.int .i64 0] [(0,2,iu)]) fun ia mV=>
 aJ (eF mV false 2 16 (sl kj.1 0) ia) fun gF oI=>
 Do (ai .add (sl kj.1 1) (sl Lh 0)) fun iv=>
 tG ([gF,iv],oI)
def Ts(Φ:aj)(x1:AV)(kj:List AV×AH)(tG:(List AV×AH)→Prop)(Q:ae):(List AV×AH)→((List AV×AH)→Prop)→Prop:=fun G6 L50=>
 Do (ab 0 x1) fun dZ=>
 Do (ab 0 dZ) fun fa=>
 Do (ab 1 fa) fun bW=>
 Do (J G6.2 1 false bW) fun fY=>
 Do (ai .sub fY (sl kj.1 1)) fun fZ=>
 Do (ai .gtr (sl G6.1 0) fZ) fun gX=>
 Gd gX true (
 Do (ai .quo (sl G6.1 0) (.int .i64 2)) fun c_=>
 L50 ([c_],G6.2)) (
 ak (abW Φ kj tG Q) [(sl G6.1 0)] G6.2)
def MY(Φ:aj)(x1:AV)(Q:ae):(List AV×AH)→((List AV×AH)→Prop)→Prop:=fun kj tG=>
 Do (ab 0 x1) fun cq=>
 Do (ab 0 cq) fun df=>
 Do (ab 1 df) fun dG=>
 Do (J kj.2 1 false dG) fun dC=>
 Do (ai .lss (sl kj.1 1) dC) fun ey=>
 Gd ey true (
 Do (ab 7 x1) fun dH=>
 Do (J kj.2 1 false dH) fun dR=>
 Do (oY false [dR,(.int .i64 8)]) fun dY=>
Φ K.f113 [(sl kj.1 1),dY] kj.2 fun dJ sg=>
 aB (Ts Φ x1 kj tG Q) ([dJ],sg)) (
 Q (sl kj.1 0) kj.2)
def f114(Φ:aj)(a0:AV)(H:AH)(Q:ae):Prop:=
 aJ (bB H false 8 a0) fun x1 H2=>
 Do (ab 6 x1) fun x3=>
 Do (J H2 1 false x3) fun x4=>
 Do (ai .eql x4 (.int .i64 (-1))) fun x5=>
 Gd x5 true (
 Do (ab 0 x1) fun x6=>
 Do (ab 0 x6) fun x7=>
 Do (J H2 2 true x7) fun x8=>
Φ K.f128 [x8] H2 fun x9 bZ=>
 Do (br false x9) fun bH=>
 aB (MX Φ x1 x9 bH Q) ([(.aq .nil 0 []),(.int .i64 0)],bZ)) (
 aB (MY Φ x1 Q) ([(.aq .nil 0 []),(.int .i64 0)],H2))
noncomputable def acw:bm:=bI Go.Proofs.YtbjhdakiiedmcaaGreatDoor.rb.C ⟨114,[5],[[3,16],[3,6],[7]],none,[],[]⟩
theorem apj(Φ:aj)(a0:AV)(H:AH)(Q:ae):bM Φ acw [a0] H Q=f114 Φ a0 H Q:=by kernel_rfl
def f116(Φ:aj)(a0 a1:AV)(H:AH)(Q:ae):Prop:=
 aJ (bB H false 7 a0) fun x1 H2=>
 Do (ab 0 x1) fun x3=>
 Do (J H2 1 false x3) fun x4=>
 Do (ab 0 a1) fun x5=>
 Do (J H2 1 false x5) fun x6=>
 Do (ai .eql x4 x6) fun x7=>
 Q x7 H2
noncomputable def acx:bm:=bI Go.Proofs.YtbjhdakiiedmcaaGreatDoor.rb.C ⟨116,[],[],none,[],[]⟩
theorem apk(Φ:aj)(a0 a1:AV)(H:AH)(Q:ae):bM Φ acx [a0,a1] H Q=f116 Φ a0 a1 H Q:=by kernel_rfl
def abX(Φ:aj)(x1 x3 x5:AV)(Q:ae):List AV→AH→Prop:=fun j15 iP=>
 Do (ab 3 x1) fun ia=>
 Do (J iP 1 false ia) fun jB=>
Φ K.f110 [jB,(.fn K.f131 [x3])] iP fun gF oI=>
 Do (ai .lss gF (.int .i64 0)) fun iv=>
 Gd iv true (
 Do (bJ [.int .i64 0,.int .i64 0,.bool false,.aq .nil 0 [],.int .i64 0,.aq .nil 0 []] []) fun iM=>
 Do (aH oI 6 x5 iM) fun pF=>
 Do (J pF 6 true x5) fun jC=>
 Q (.aM [jC,(.int .i64 6)]) pF) (
 Do (ab 3 x1) fun iG=>
 Do (J oI 1 false iG) fun ja=>
 Do (bj none 9 ja gF) fun jD=>
 Do (ab 1 jD) fun jO=>
 Do (J oI 6 true jO) fun jh=>
 Do (aH oI 6 x5 jh) fun vY=>
 Do (J vY 6 true x5) fun ji=>
 Q (.aM [ji,(.int .i64 0)]) vY)
def MZ(Φ:aj)(x1 x3 x5:AV)(Q:ae):List AV→AH→Prop:=fun Li gB=>
 Gd (sl Li 0) true (
 Do (bJ [.int .i64 0,.int .i64 0,.bool false,.aq .nil 0 [],.int .i64 0,.aq .nil 0 []] []) fun gX=>
 Do (aH gB 6 x5 gX) fun jK=>
 Do (J jK 6 true x5) fun iu=>
 Q (.aM [iu,(.int .i64 8)]) jK) (
 ak (abX Φ x1 x3 x5 Q) [] gB)
def M0(Φ:aj)(x1 x3 x5:AV)(j7:List AV)(Q:ae):List AV→AH→Prop:=fun rH eO=>
 Gd (sl rH 0) true (
 Do (ab 5 x1) fun dR=>
 Do (J eO 1 false dR) fun dY=>
 Do (bj none 6 dY (.int .i64 0)) fun dJ=>
 Do (J eO 6 true dJ) fun dN=>
 Do (aH eO 6 x5 dN) fun zh=>
 Do (J zh 6 true x5) fun eE=>
 Q (.aM [eE,(.int .i64 0)]) zh) (
 Do (ab 1 x3) fun dZ=>
 Do (J eO 1 false dZ) fun fa=>
 Do (br false fa) fun bW=>
 Do (ai .eql bW (.int .i64 1)) fun fY=>
 aL fY false (
 Do (eB .not (sl j7 0)) fun fZ=>
 ak (MZ Φ x1 x3 x5 Q) [fZ] eO) (
 ak (MZ Φ x1 x3 x5 Q) [(.bool true)] eO) (
 False))
def M1(Φ:aj)(x1 x3 x5:AV)(j7:List AV)(Q:ae):List AV→AH→Prop:=fun j17 fx=>
 Gd (sl j17 0) true (
 Do (bJ [.int .i64 0,.int .i64 0,.bool false,.aq .nil 0 [],.int .i64 0,.aq .nil 0 []] []) fun cK=>
 Do (aH fx 6 x5 cK) fun dW=>
 Do (J dW 6 true x5) fun cO=>
 Q (.aM [cO,(.int .i64 8)]) dW) (
 Do (ab 1 x3) fun dP=>
 Do (J fx 1 false dP) fun cq=>
 Do (br false cq) fun df=>
 Do (ai .eql df (.int .i64 1)) fun dG=>
 aL dG true (
 Do (ab 0 x1) fun dC=>
 Do (J fx 1 false dC) fun ey=>
 Do (ai .eql ey (.int .i64 5)) fun dH=>
 ak (M0 Φ x1 x3 x5 j7 Q) [dH] fx) (
 ak (M0 Φ x1 x3 x5 j7 Q) [(.bool false)] fx) (
 False))
def M2(Φ:aj)(x1 x3 x5:AV)(Q:ae):List AV→AH→Prop:=fun j7 H8=>
 Do (ab 1 x3) fun cI=>
 Do (J H8 1 false cI) fun cm=>
 Do (br false cm) fun bO=>
 Do (ai .gtr bO (.int .i64 1)) fun aW=>
 aL aW false (
 Do (ab 1 x3) fun cf=>
 Do (J H8 1 false cf) fun cw=>
 Do (br false cw) fun cB=>
 Do (ai .eql cB (.int .i64 1)) fun b_=>
 Do (ab 0 x3) fun bS=>
 Do (J H8 1 false bS) fun bA=>
 Do (ai .neq bA (.str [])) fun dx=>
 Do (uF false b_ dx) fun cb=>
 ak (M1 Φ x1 x3 x5 j7 Q) [cb] H8) (
 ak (M1 Φ x1 x3 x5 j7 Q) [(.bool true)] H8) (
 False)
def f117(Φ:aj)(a0 a1:AV)(H:AH)(Q:ae):Prop:=
 aJ (bB H false 6 a0) fun x1 H2=>
 aJ (bB H2 false 2 a1) fun x3 H4=>
 aJ (some (be H4 true [.int .i64 0,.int .i64 0,.bool false,.aq .nil 0 [],.int .i64 0,.aq .nil 0 []])) fun x5 H6=>
 Do (ab 0 x1) fun x9=>
 Do (J H6 1 false x9) fun bQ=>
 Do (ai .eql bQ (.int .i64 3)) fun bH=>
 aL bH false (
 Do (ab 0 x1) fun bc=>
 Do (J H6 1 false bc) fun bu=>
 Do (ai .eql bu (.int .i64 4)) fun bN=>
 ak (M2 Φ x1 x3 x5 Q) [bN] H6) (
 ak (M2 Φ x1 x3 x5 Q) [(.bool true)] H6) (
 False)
noncomputable def acy:bm:=bI Go.Proofs.YtbjhdakiiedmcaaGreatDoor.rb.C ⟨117,[4],[],none,[],[]⟩
theorem apl(Φ:aj)(a0 a1:AV)(H:AH)(Q:ae):bM Φ acy [a0,a1] H Q=f117 Φ a0 a1 H Q:=by kernel_rfl
def HF(Φ:aj)(x1:AV)(j3:List AV)(Q:ae):List AV→AH→Prop:=fun Lg jJ=>
 aL (sl Lg 0) true (
 Do (ab 7 x1) fun dS=>
 Do (J jJ 1 false dS) fun eE=>
 Do (br false eE) fun e_=>
 Do (ai .eql e_ (sl j3 0)) fun gE=>
 Q gE jJ) (
 Q (.bool false) jJ) (
 False)
def wV(Φ:aj)(x1:AV)(j3:List AV)(Q:ae):List AV→AH→Prop:=fun RO kA=>
 aL (sl RO 0) true (
 aL (sl j3 1) false (
 Do (ab 5 x1) fun dR=>
 Do (J kA 2 true dR) fun dY=>
Φ K.f98 [dY] kA fun dJ sg=>
 ak (HF Φ x1 j3 Q) [dJ] sg) (
 ak (HF Φ x1 j3 Q) [(.bool true)] kA) (
 False)) (
 ak (HF Φ x1 j3 Q) [(.bool false)] kA) (
 False)
def HG(Φ:aj)(x1 bc:AV)(j3:List AV)(Q:ae):List AV→AH→Prop:=fun j21 fM=>
 aL (sl j21 0) true (
 aL bc true (
 Do (ab 3 x1) fun cK=>
 Do (J fM 1 false cK) fun dL=>
 Do (ai .geq dL (.int .i64 1)) fun cO=>
 aL cO true (
 Do (ab 3 x1) fun dM=>
 Do (J fM 1 false dM) fun eW=>
 Do (ai .leq eW (.int .i64 11)) fun dP=>
 aL dP false (
 Do (eB .not bc) fun cq=>
 aL cq true (
 Do (ab 3 x1) fun df=>
 Do (J fM 1 false df) fun dG=>
 Do (ai .eql dG (.int .i64 0)) fun dC=>
 ak (wV Φ x1 j3 Q) [dC] fM) (
 ak (wV Φ x1 j3 Q) [(.bool false)] fM) (
 False)) (
 ak (wV Φ x1 j3 Q) [(.bool true)] fM) (
 False)) (
 Do (eB .not bc) fun dZ=>
 aL dZ true (
 Do (ab 3 x1) fun fa=>
 Do (J fM 1 false fa) fun bW=>
 Do (ai .eql bW (.int .i64 0)) fun fY=>
 ak (wV Φ x1 j3 Q) [fY] fM) (
 ak (wV Φ x1 j3 Q) [(.bool false)] fM) (
 False)) (
 False)) (
 Do (eB .not bc) fun fZ=>
 aL fZ true (
 Do (ab 3 x1) fun gX=>
 Do (J fM 1 false gX) fun c_=>
 Do (ai .eql c_ (.int .i64 0)) fun iu=>
 ak (wV Φ x1 j3 Q) [iu] fM) (
 ak (wV Φ x1 j3 Q) [(.bool false)] fM) (
 False)) (
 False)) (
 ak (wV Φ x1 j3 Q) [(.bool false)] fM) (
 False)
def M3(Φ:aj)(x1 bc:AV)(j3:List AV)(Q:ae):List AV→AH→Prop:=fun j13 eN=>
 aL (sl j13 0) true (
 Do (ab 0 x1) fun cf=>
 Do (J eN 1 false cf) fun cw=>
 Do (ai .eql cw (.int .i64 2)) fun cB=>
 aL cB false (
 Do (ab 2 x1) fun b_=>
 Do (J eN 1 false b_) fun bS=>
 Do (ai .eql bS (.str [])) fun bA=>
 ak (HG Φ x1 bc j3 Q) [bA] eN) (
 ak (HG Φ x1 bc j3 Q) [(.bool true)] eN) (
 False)) (
 ak (HG Φ x1 bc j3 Q) [(.bool false)] eN) (
 False)
def Aa(Φ:aj)(x1:AV)(Q:ae):List AV→AH→Prop:=fun j3 H4=>
 Do (ab 0 x1) fun bQ=>
 Do (J H4 1 false bQ) fun bH=>
 Do (ai .eql bH (.int .i64 3)) fun bc=>
 Do (ab 0 x1) fun bG=>
 Do (J H4 1 false bG) fun bg=>
 Do (ai .eql bg (.int .i64 1)) fun bV=>
 aL bV false (
 Do (ab 1 x1) fun bE=>
 Do (J H4 1 false bE) fun cI=>
 Do (ai .eql cI (.int .u64 0)) fun cm=>
 ak (M3 Φ x1 bc j3 Q) [cm] H4) (
 ak (M3 Φ x1 bc j3 Q) [(.bool true)] H4) (
 False)
def Tt(Φ:aj)(x1 x6:AV)(Q:ae):List AV→AH→Prop:=fun YK qC=>
 Gd (sl YK 0) true (
 ak (Aa Φ x1 Q) [(.int .i64 1),(.bool true)] qC) (
 Do (ai .eql x6 (.int .i64 8)) fun jC=>
 Gd jC true (
 ak (Aa Φ x1 Q) [(.int .i64 2),(.bool true)] qC) (
 Q (.bool false) qC))
def Tu(Φ:aj)(x1 x6:AV)(Q:ae):List AV→AH→Prop:=fun GF sj=>
 Gd (sl GF 0) true (
 ak (Aa Φ x1 Q) [(.int .i64 0),(.bool true)] sj) (
 Do (ai .eql x6 (.int .i64 6)) fun kl=>
 Gd kl true (
 ak (Tt Φ x1 x6 Q) [kl] sj) (
 Do (ai .eql x6 (.int .i64 7)) fun iG=>
 ak (Tt Φ x1 x6 Q) [iG] sj))
def Tv(Φ:aj)(x1 x6:AV)(Q:ae):List AV→AH→Prop:=fun j7 H8=>
 Gd (sl j7 0) true (
 ak (Aa Φ x1 Q) [(.int .i64 0),(.bool false)] H8) (
 Do (ai .eql x6 (.int .i64 3)) fun ia=>
 Gd ia true (
 ak (Aa Φ x1 Q) [(.int .i64 2),(.bool false)] H8) (
 Do (ai .eql x6 (.int .i64 4)) fun iV=>
 Gd iV true (
 ak (Tu Φ x1 x6 Q) [iV] H8) (
 Do (ai .eql x6 (.int .i64 5)) fun ja=>
 ak (Tu Φ x1 x6 Q) [ja] H8)))
def f118(Φ:aj)(a0:AV)(H:AH)(Q:ae):Prop:=
 aJ (bB H false 8 a0) fun x1 H2=>
 Do (ab 0 x1) fun x5=>
 Do (J H2 1 false x5) fun x6=>
 Do (ai .eql x6 (.int .i64 1)) fun x9=>
 Gd x9 true (
 ak (Tv Φ x1 x6 Q) [x9] H2) (
 Do (ai .eql x6 (.int .i64 2)) fun jD=>
 ak (Tv Φ x1 x6 Q) [jD] H2)
noncomputable def acz:bm:=bI Go.Proofs.YtbjhdakiiedmcaaGreatDoor.rb.C ⟨118,[],[],none,[],[]⟩
theorem apm(Φ:aj)(a0:AV)(H:AH)(Q:ae):bM Φ acz [a0] H Q=f118 Φ a0 H Q:=by kernel_rfl
def M4(Φ:aj)(Q:ae):List AV→AH→Prop:=fun j3 H4=>
 Do (ai .add (sl j3 0) (.int .i64 1)) fun dR=>
 Q dR H4
def M5(Φ:aj)(a1 bS bA:AV)(Q:ae):(List AV×AH)→((List AV×AH)→Prop)→Prop:=fun jN xU=>
 Do (ai .lss (sl jN.1 1) bA) fun cK=>
 Gd cK true (
 Do (bj none 6 bS (sl jN.1 1)) fun dL=>
 Do (J jN.2 6 true dL) fun cO=>
 aJ (some (be jN.2 true [.int .i64 0,.int .i64 0,.bool false,.aq .nil 0 [],.int .i64 0,.aq .nil 0 []])) fun dM eO=>
 Do (aH eO 6 dM cO) fun je=>
 Do (J je 6 true dM) fun cq=>
 Do (ai .sub a1 (.int .i64 1)) fun df=>
Φ K.f119 [cq,df] je fun dG jY=>
 Do (oY true [(sl jN.1 0),dG]) fun ey=>
 Do (ai .add (sl jN.1 1) (.int .i64 1)) fun dH=>
 xU ([ey,dH],jY)) (
 ak (M4 Φ Q) [(sl jN.1 0)] jN.2)
def Tw(Φ:aj)(a1 x1:AV)(Q:ae):List AV→AH→Prop:=fun j6 H7=>
 Do (ab 5 x1) fun b_=>
 Do (J H7 1 false b_) fun bS=>
 Do (br false bS) fun bA=>
 aB (M5 Φ a1 bS bA Q) ([(sl j6 0),(.int .i64 0)],H7)
def M6(Φ:aj)(a1 x1 x9 bQ:AV)(Q:ae):(List AV×AH)→((List AV×AH)→Prop)→Prop:=fun Bk L12=>
 Do (ai .lss (sl Bk.1 1) bQ) fun bu=>
 Gd bu true (
 Do (bj none 9 x9 (sl Bk.1 1)) fun bN=>
 Do (J Bk.2 9 true bN) fun bG=>
 aJ (some (be Bk.2 true [.str [],.int .i64 0,.int .i64 0,.bool false,.aq .nil 0 [],.int .i64 0,.aq .nil 0 [],.bool false,.int .i64 0])) fun bg dv=>
 Do (aH dv 9 bg bG) fun fx=>
 Do (ab 1 bg) fun cI=>
 Do (J fx 6 true cI) fun cm=>
 Do (ai .sub a1 (.int .i64 1)) fun bO=>
Φ K.f119 [cm,bO] fx fun aW gq=>
 Do (oY true [(sl Bk.1 0),aW]) fun cw=>
 Do (ai .add (sl Bk.1 1) (.int .i64 1)) fun cB=>
 L12 ([cw,cB],gq)) (
 ak (Tw Φ a1 x1 Q) [(sl Bk.1 0)] Bk.2)
def f119(Φ:aj)(a0 a1:AV)(H:AH)(Q:ae):Prop:=
 aJ (bB H false 6 a0) fun x1 H2=>
 Do (ai .gtr a1 (.int .i64 1)) fun x5=>
 Gd x5 true (
 Do (ab 3 x1) fun x8=>
 Do (J H2 1 false x8) fun x9=>
 Do (br false x9) fun bQ=>
 aB (M6 Φ a1 x1 x9 bQ Q) ([(.int .i64 0),(.int .i64 0)],H2)) (
 ak (M4 Φ Q) [(.int .i64 0)] H2)
noncomputable def acA:bm:=bI Go.Proofs.YtbjhdakiiedmcaaGreatDoor.rb.C ⟨119,[7,9],[[5,15],[5,30]],none,[],[]⟩
theorem apn(Φ:aj)(a0 a1:AV)(H:AH)(Q:ae):bM Φ acA [a0,a1] H Q=f119 Φ a0 a1 H Q:=by kernel_rfl
def HH(Φ:aj)(x1 bO:AV)(Q:ae):List AV→AH→Prop:=fun Bi gA=>
 aL (sl Bi 0) true (
 Do (eB .not bO) fun e_=>
 aL e_ false (
 Do (ab 5 x1) fun gE=>
 Do (J gA 1 false gE) fun dZ=>
 Do (br false dZ) fun fa=>
 Do (ai .eql fa (.int .i64 1)) fun bW=>
 Q bW gA) (
 Q (.bool true) gA) (
 False)) (
 Q (.bool false) gA) (
 False)
def HI(Φ:aj)(x1 bO:AV)(Q:ae):List AV→AH→Prop:=fun ua dW=>
 aL (sl ua 0) true (
 aL bO false (
 Do (ab 4 x1) fun dH=>
 Do (J dW 1 false dH) fun dR=>
 Do (ai .eql dR (.int .i64 0)) fun dY=>
 aL dY true (
 Do (ab 5 x1) fun dJ=>
 Do (J dW 1 false dJ) fun dN=>
 Do (br false dN) fun dS=>
 Do (ai .eql dS (.int .i64 0)) fun eE=>
 ak (HH Φ x1 bO Q) [eE] dW) (
 ak (HH Φ x1 bO Q) [(.bool false)] dW) (
 False)) (
 ak (HH Φ x1 bO Q) [(.bool true)] dW) (
 False)) (
 ak (HH Φ x1 bO Q) [(.bool false)] dW) (
 False)
def M7(Φ:aj)(x1 bO:AV)(lh:List AV)(Q:ae):List AV→AH→Prop:=fun wI eT=>
 aL (sl wI 0) true (
 aL (sl lh 0) false (
 Do (ab 2 x1) fun cO=>
 Do (J eT 1 false cO) fun dM=>
 Do (eB .not dM) fun eW=>
 aL eW true (
 Do (ab 3 x1) fun dP=>
 Do (J eT 1 false dP) fun cq=>
 Do (br false cq) fun df=>
 Do (ai .eql df (.int .i64 0)) fun dG=>
 ak (HI Φ x1 bO Q) [dG] eT) (
 ak (HI Φ x1 bO Q) [(.bool false)] eT) (
 False)) (
 ak (HI Φ x1 bO Q) [(.bool true)] eT) (
 False)) (
 ak (HI Φ x1 bO Q) [(.bool false)] eT) (
 False)
def Tx(Φ:aj)(x1 bO:AV)(j3:List AV)(lh:List AV)(Q:ae):List AV→AH→Prop:=fun zP fN=>
 aL (sl zP 0) true (
 aL (sl j3 0) false (
 Do (ab 1 x1) fun bA=>
 Do (J fN 1 false bA) fun dx=>
 Do (ai .eql dx (.int .i64 0)) fun cb=>
 ak (M7 Φ x1 bO lh Q) [cb] fN) (
 ak (M7 Φ x1 bO lh Q) [(.bool true)] fN) (
 False)) (
 ak (M7 Φ x1 bO lh Q) [(.bool false)] fN) (
 False)
def Ty(Φ:aj)(x1 bO:AV)(j3:List AV)(lh:List AV)(Q:ae):List AV→AH→Prop:=fun YF gq=>
 aL (sl YF 0) false (
 ak (Tx Φ x1 bO j3 lh Q) [bO] gq) (
 ak (Tx Φ x1 bO j3 lh Q) [(.bool true)] gq) (
 False)
def Tz(Φ:aj)(x1:AV)(j3:List AV)(Q:ae):List AV→AH→Prop:=fun lh dQ=>
 Do (ab 0 x1) fun cI=>
 Do (J dQ 1 false cI) fun cm=>
 Do (ai .eql cm (.int .i64 5)) fun bO=>
 aL (sl j3 0) false (
 ak (Ty Φ x1 bO j3 lh Q) [(sl lh 0)] dQ) (
 ak (Ty Φ x1 bO j3 lh Q) [(.bool true)] dQ) (
 False)
def TA(Φ:aj)(x1:AV)(Q:ae):List AV→AH→Prop:=fun j3 H4=>
 Do (ab 0 x1) fun bu=>
 Do (J H4 1 false bu) fun bN=>
 Do (ai .eql bN (.int .i64 3)) fun bG=>
 aL bG false (
 Do (ab 0 x1) fun bg=>
 Do (J H4 1 false bg) fun bV=>
 Do (ai .eql bV (.int .i64 4)) fun bE=>
 ak (Tz Φ x1 j3 Q) [bE] H4) (
 ak (Tz Φ x1 j3 Q) [(.bool true)] H4) (
 False)
def f120(Φ:aj)(a0:AV)(H:AH)(Q:ae):Prop:=
 aJ (bB H false 6 a0) fun x1 H2=>
 Do (ab 0 x1) fun x5=>
 Do (J H2 1 false x5) fun x6=>
 Do (ai .eql x6 (.int .i64 1)) fun x7=>
 aL x7 false (
 Do (ab 0 x1) fun x8=>
 Do (J H2 1 false x8) fun x9=>
 Do (ai .eql x9 (.int .i64 2)) fun bQ=>
 ak (TA Φ x1 Q) [bQ] H2) (
 ak (TA Φ x1 Q) [(.bool true)] H2) (
 False)
noncomputable def acC:bm:=bI Go.Proofs.YtbjhdakiiedmcaaGreatDoor.rb.C ⟨120,[],[],none,[],[]⟩
theorem apo(Φ:aj)(a0:AV)(H:AH)(Q:ae):bM Φ acC [a0] H Q=f120 Φ a0 H Q:=by kernel_rfl
def TB(Φ:aj)(a0:AV)(Q:ae):List AV→AH→Prop:=fun j1 H2=>
 aL (sl j1 0) true (
 Do (ai .sub a0 (.int .i64 1)) fun x5=>
 Do (ai .and a0 x5) fun x6=>
 Do (ai .eql x6 (.int .i64 0)) fun x7=>
 Q x7 H2) (
 Q (.bool false) H2) (
 False)
def f121(Φ:aj)(a0 a1:AV)(H:AH)(Q:ae):Prop:=
 Do (ai .geq a0 (.int .i64 1)) fun x3=>
 aL x3 true (
 Do (ai .leq a0 a1) fun x4=>
 ak (TB Φ a0 Q) [x4] H) (
 ak (TB Φ a0 Q) [(.bool false)] H) (
 False)
noncomputable def acD:bm:=bI Go.Proofs.YtbjhdakiiedmcaaGreatDoor.rb.C ⟨121,[],[],none,[],[]⟩
theorem apq(Φ:aj)(a0 a1:AV)(H:AH)(Q:ae):bM Φ acD [a0,a1] H Q=f121 Φ a0 a1 H Q:=by kernel_rfl
def M9(Φ:aj)(x1 bV:AV)(Q:ae):(List AV×AH)→((List AV×AH)→Prop)→Prop:=fun Bl xS=>
 Do (ai .lss (sl Bl.1 0) bV) fun cm=>
 Gd cm true (
 Do (J Bl.2 6 true x1) fun bO=>
Φ K.f132 [bO,(sl Bl.1 0)] Bl.2 fun aW gq=>
 Do (ai .neq aW (.int .i64 0)) fun cw=>
 Gd cw true (
 Q aW gq) (
 Do (ai .add (sl Bl.1 0) (.int .i64 1)) fun cB=>
 xS ([cB],gq))) (
 Q (.int .i64 0) Bl.2)
def abY(Φ:aj)(x1:AV)(Q:ae):List AV→AH→Prop:=fun j3 H4=>
 Do (ab 3 x1) fun bG=>
 Do (J H4 1 false bG) fun bg=>
 Do (br false bg) fun bV=>
 aB (M9 Φ x1 bV Q) ([(.int .i64 0)],H4)
def M8(Φ:aj)(x1:AV)(Q:ae):List AV→AH→Prop:=fun j5 H6=>
 Gd (sl j5 0) true (
 Q (.int .i64 12) H6) (
 ak (abY Φ x1 Q) [] H6)
def f122(Φ:aj)(a0:AV)(H:AH)(Q:ae):Prop:=
 aJ (bB H false 6 a0) fun x1 H2=>
 Do (ab 3 x1) fun x7=>
 Do (J H2 1 false x7) fun x8=>
 Do (br false x8) fun x9=>
 Do (ai .lss x9 (.int .i64 1)) fun bQ=>
 aL bQ false (
 Do (ab 3 x1) fun bH=>
 Do (J H2 1 false bH) fun bc=>
 Do (br false bc) fun bu=>
 Do (ai .gtr bu (.int .i64 32)) fun bN=>
 ak (M8 Φ x1 Q) [bN] H2) (
 ak (M8 Φ x1 Q) [(.bool true)] H2) (
 False)
noncomputable def acF:bm:=bI Go.Proofs.YtbjhdakiiedmcaaGreatDoor.rb.C ⟨122,[],[[18]],none,[],[]⟩
theorem apr(Φ:aj)(a0:AV)(H:AH)(Q:ae):bM Φ acF [a0] H Q=f122 Φ a0 H Q:=by kernel_rfl
def f123(Φ:aj)(a0:AV)(H:AH)(Q:ae):Prop:=
 aJ (bB H false 9 a0) fun x1 H2=>
 Do (ab 1 x1) fun x3=>
 Do (J H2 6 true x3) fun x4=>
Φ K.f104 [x4] H2 fun x5 H6=>
 Q x5 H6
noncomputable def acG:bm:=bI Go.Proofs.YtbjhdakiiedmcaaGreatDoor.rb.C ⟨123,[],[],none,[],[]⟩
theorem apt(Φ:aj)(a0:AV)(H:AH)(Q:ae):bM Φ acG [a0] H Q=f123 Φ a0 H Q:=by kernel_rfl
def apE(Φ:aj)(a0 a1 x1:AV)(Q:ae):(List AV×AH)→((List AV×AH)→Prop)→Prop:=fun s2 L3=>
 Do (ai .lss (sl s2.1 0) x1) fun x4=>
 Gd x4 true (
 Do (bj none 6 a0 (sl s2.1 0)) fun x5=>
 Do (J s2.2 6 true x5) fun x6=>
∃k9 su,a1 = .fn k9 su∧Φ (uI k9) (uA k9 [x6] su) s2.2 fun x7 H8=>
 Gd x7 true (
 Q (sl s2.1 0) H8) (
 Do (ai .add (sl s2.1 0) (.int .i64 1)) fun bH=>
 L3 ([bH],H8))) (
 Q (.int .i64 (-1)) s2.2)
def f124(Φ:aj)(a0 a1:AV)(H:AH)(Q:ae):Prop:=
 Do (br false a0) fun x1=>
 aB (apE Φ a0 a1 x1 Q) ([(.int .i64 0)],H)
noncomputable def acH:bm:=bI Go.Proofs.YtbjhdakiiedmcaaGreatDoor.rb.C ⟨124,[],[[8]],none,[],[]⟩
theorem apu(Φ:aj)(a0 a1:AV)(H:AH)(Q:ae):bM Φ acH [a0,a1] H Q=f124 Φ a0 a1 H Q:=by kernel_rfl
def M_(Φ:aj)(a2 x3:AV)(Q:ae):List AV→AH→Prop:=fun j5 H6=>
 Gd (sl j5 0) true (
 Q (.int .i64 1) H6) (
 Do (ab 7 x3) fun bN=>
 Do (J H6 1 false bN) fun bG=>
 Gd bG true (
 Do (ab 1 x3) fun bg=>
 Do (ab 1 bg) fun bV=>
 Do (J H6 1 false bV) fun bE=>
 Q bE H6) (
 Q a2 H6))
def f125(Φ:aj)(a0 a1 a2:AV)(H:AH)(Q:ae):Prop:=
 aJ (bB H false 6 a0) fun x1 H2=>
 aJ (bB H2 false 9 a1) fun x3 H4=>
 Do (ab 2 x1) fun x7=>
 Do (J H4 1 false x7) fun x8=>
 aL x8 false (
 Do (ab 7 x3) fun x9=>
 Do (J H4 1 false x9) fun bQ=>
 aL bQ true (
 Do (ab 8 x3) fun bH=>
 Do (J H4 1 false bH) fun bc=>
 Do (ai .eql bc (.int .i64 0)) fun bu=>
 ak (M_ Φ a2 x3 Q) [bu] H4) (
 ak (M_ Φ a2 x3 Q) [(.bool false)] H4) (
 False)) (
 ak (M_ Φ a2 x3 Q) [(.bool true)] H4) (
 False)
noncomputable def acI:bm:=bI Go.Proofs.YtbjhdakiiedmcaaGreatDoor.rb.C ⟨125,[],[],none,[],[]⟩
theorem apv(Φ:aj)(a0 a1 a2:AV)(H:AH)(Q:ae):bM Φ acI [a0,a1,a2] H Q=f125 Φ a0 a1 a2 H Q:=by kernel_rfl
def Na(Φ:aj)(a0 x1:AV)(Q:ae):List AV→AH→Prop:=fun j38 gT=>
 Do (bR a0) fun gF=>
 Do (ab 3 gF) fun iV=>
 Do (J gT 1 false iV) fun iv=>
 Do (ai .quo iv (.int .i64 8)) fun iM=>
 Do (bR a0) fun kl=>
 Do (ab 3 kl) fun jC=>
 Do (J gT 1 false jC) fun iG=>
 Do (ab 8 x1) fun ja=>
 Do (J gT 1 false ja) fun jD=>
 Do (ai .add iG jD) fun jO=>
 Do (ai .sub jO (.int .i64 1)) fun jh=>
 Do (ai .quo jh (.int .i64 8)) fun jE=>
 Do (bR a0) fun ji=>
 Do (ab 2 ji) fun eJ=>
 Do (J gT 1 false eJ) fun jP=>
 Do (ai .sub jE iM) fun mZ=>
 Do (ai .add mZ (.int .i64 1)) fun m5=>
 Do (bJ [.int .i64 0,.int .i64 0] [(0,1,iM),(1,1,m5)]) fun kF=>
 Do (bR a0) fun m6=>
 Do (ab 3 m6) fun mJ=>
 Do (J gT 1 false mJ) fun gx=>
 Do (ai .rem gx (.int .i64 8)) fun wN=>
 Do (ab 8 x1) fun oS=>
 Do (J gT 1 false oS) fun nJ=>
 Do (bJ [.int .i64 0,.int .i64 0,.int .i64 0,.bool false,.int .i64 0,.int .i64 0] [(0,2,kF),(2,1,(.int .i64 1)),(3,1,(.bool true)),(4,1,wN),(5,1,nJ)]) fun nK=>
 aJ (fb gT false 6 1 [.int .i64 0,.int .i64 0,.int .i64 0,.bool false,.int .i64 0,.int .i64 0] [(0,6,nK)]) fun rN tD=>
 aJ (eF tD false 6 48 jP rN) fun oo v_=>
 Do (bR a0) fun cJ=>
 Do (ab 2 cJ) fun ui=>
 Do (aH v_ 1 ui oo) fun xP=>
 Do (bR a0) fun uj=>
 Do (ab 3 uj) fun km=>
 Do (J xP 1 false km) fun uk=>
 Do (ab 8 x1) fun sO=>
 Do (J xP 1 false sO) fun um=>
 Do (ai .add uk um) fun sP=>
 Do (bR a0) fun sQ=>
 Do (ab 3 sQ) fun ru=>
 Do (aH xP 1 ru sP) fun vz=>
 Q (.aM []) vz
def f126(Φ:aj)(a0 a1:AV)(H:AH)(Q:ae):Prop:=
 aJ (bB H false 9 a1) fun x1 H2=>
 Do (ab 1 x1) fun x3=>
 Do (ab 1 x3) fun x4=>
 Do (J H2 1 false x4) fun x5=>
 Do (ai .mul (.int .i64 8) x5) fun x6=>
 Do (ab 8 x1) fun x7=>
 Do (J H2 1 false x7) fun x8=>
 Do (ai .eql x8 (.int .i64 0)) fun x9=>
 Gd x9 true (
 Do (bR a0) fun bQ=>
 Do (ab 3 bQ) fun bH=>
 Do (J H2 1 false bH) fun bc=>
Φ K.f127 [bc,x6] H2 fun bu eN=>
 Do (bR a0) fun bG=>
 Do (ab 3 bG) fun bg=>
 Do (aH eN 1 bg bu) fun dv=>
 Do (bR a0) fun bE=>
 Do (ab 2 bE) fun cI=>
 Do (J dv 1 false cI) fun cm=>
 Do (bR a0) fun bO=>
 Do (ab 3 bO) fun aW=>
 Do (J dv 1 false aW) fun cf=>
 Do (ai .quo cf (.int .i64 8)) fun cw=>
 Do (bJ [.int .i64 0,.int .i64 0] [(0,1,cw)]) fun cB=>
 Do (bR a0) fun b_=>
 Do (ab 3 b_) fun bS=>
 Do (J dv 1 false bS) fun bA=>
 Do (ai .rem bA (.int .i64 8)) fun dx=>
 Do (bJ [.int .i64 0,.int .i64 0,.int .i64 0,.bool false,.int .i64 0,.int .i64 0] [(0,2,cB),(2,1,(.int .i64 1)),(3,1,(.bool true)),(4,1,dx)]) fun cb=>
 aJ (fb dv false 6 1 [.int .i64 0,.int .i64 0,.int .i64 0,.bool false,.int .i64 0,.int .i64 0] [(0,6,cb)]) fun cK dW=>
 aJ (eF dW false 6 48 cm cK) fun cO lI=>
 Do (bR a0) fun eW=>
 Do (ab 2 eW) fun dP=>
 Do (aH lI 1 dP cO) fun qA=>
 Q (.aM []) qA) (
 Do (bR a0) fun dC=>
 Do (ab 3 dC) fun ey=>
 Do (J H2 1 false ey) fun dH=>
 Do (ai .quo dH x6) fun dR=>
 Do (bR a0) fun dY=>
 Do (ab 3 dY) fun dJ=>
 Do (J H2 1 false dJ) fun dN=>
 Do (ab 8 x1) fun dS=>
 Do (J H2 1 false dS) fun eE=>
 Do (ai .add dN eE) fun e_=>
 Do (ai .sub e_ (.int .i64 1)) fun gE=>
 Do (ai .quo gE x6) fun dZ=>
 Do (ai .neq dR dZ) fun fa=>
 Gd fa true (
 Do (bR a0) fun bW=>
 Do (ab 3 bW) fun fY=>
 Do (J H2 1 false fY) fun fZ=>
Φ K.f127 [fZ,x6] H2 fun gX jK=>
 Do (bR a0) fun iu=>
 Do (ab 3 iu) fun ia=>
 Do (aH jK 1 ia gX) fun mV=>
 ak (Na Φ a0 x1 Q) [] mV) (
 ak (Na Φ a0 x1 Q) [] H2))
noncomputable def acJ:bm:=bI Go.Proofs.YtbjhdakiiedmcaaGreatDoor.rb.C ⟨126,[],[],none,[],[]⟩
theorem apw(Φ:aj)(a0 a1:AV)(H:AH)(Q:ae):bM Φ acJ [a0,a1] H Q=f126 Φ a0 a1 H Q:=by kernel_rfl
def f127(Φ:aj)(a0 a1:AV)(H:AH)(Q:ae):Prop:=
 Do (ai .add a0 a1) fun x1=>
 Do (ai .sub x1 (.int .i64 1)) fun x2=>
 Do (ai .quo x2 a1) fun x3=>
 Do (ai .mul x3 a1) fun x4=>
 Q x4 H
noncomputable def acK:bm:=bI Go.Proofs.YtbjhdakiiedmcaaGreatDoor.rb.C ⟨127,[],[],none,[],[]⟩
theorem apx(Φ:aj)(a0 a1:AV)(H:AH)(Q:ae):bM Φ acK [a0,a1] H Q=f127 Φ a0 a1 H Q:=by kernel_rfl
def abZ(Φ:aj)(jN:List AV×AH)(xU:(List AV×AH)→Prop)(Q:ae):List AV→AH→Prop:=fun ua dW=>
 Do (ai .quo (sl jN.1 0) (.int .i64 2)) fun dH=>
 xU ([dH],dW)
def ab0(Φ:aj)(x1:AV)(vd:List AV×AH)(AR:(List AV×AH)→Prop)(Q:ae):List AV→AH→Prop:=fun YG iA=>
 Do (ab 0 x1) fun dR=>
 Do (J iA 1 false dR) fun dY=>
 Do (bJ [.int .i64 0,.int .i64 0] [(0,1,dY),(1,1,(sl YG 0))]) fun dJ=>
 aJ (fb iA false 2 1 [.int .i64 0,.int .i64 0] [(0,2,dJ)]) fun dN zh=>
 aJ (eF zh false 2 16 (sl vd.1 0) dN) fun eE si=>
 Do (ab 0 x1) fun gE=>
 Do (J si 1 false gE) fun dZ=>
 Do (ai .add dZ (sl YG 0)) fun fa=>
 Do (ab 0 x1) fun bW=>
 Do (aH si 1 bW fa) fun mD=>
 Do (ab 1 x1) fun fZ=>
 Do (J mD 1 false fZ) fun gX=>
 Do (ai .sub gX (sl YG 0)) fun c_=>
 Do (ab 1 x1) fun iu=>
 Do (aH mD 1 iu c_) fun nT=>
 AR ([eE],nT)
def Nb(Φ:aj)(x1:AV)(vd:List AV×AH)(AR:(List AV×AH)→Prop)(jN:List AV×AH)(xU:(List AV×AH)→Prop)(Q:ae):List AV→AH→Prop:=fun GD lI=>
 Gd (sl GD 0) true (
 ak (abZ Φ jN xU Q) [] lI) (
 ak (ab0 Φ x1 vd AR Q) [(sl jN.1 0)] lI)
def Nd(Φ:aj)(x1:AV)(vd:List AV×AH)(AR:(List AV×AH)→Prop)(Q:ae):(List AV×AH)→((List AV×AH)→Prop)→Prop:=fun jN xU=>
 Do (ab 1 x1) fun eW=>
 Do (J jN.2 1 false eW) fun dP=>
 Do (ai .gtr (sl jN.1 0) dP) fun cq=>
 aL cq false (
 Do (ab 0 x1) fun df=>
 Do (J jN.2 1 false df) fun dG=>
 Do (ai .rem dG (sl jN.1 0)) fun dC=>
 Do (ai .neq dC (.int .i64 0)) fun ey=>
 ak (Nb Φ x1 vd AR jN xU Q) [ey] jN.2) (
 ak (Nb Φ x1 vd AR jN xU Q) [(.bool true)] jN.2) (
 False)
def D7(Φ:aj)(x1:AV)(Q:ae):(List AV×AH)→((List AV×AH)→Prop)→Prop:=fun vd AR=>
 Do (ab 1 x1) fun cw=>
 Do (J vd.2 1 false cw) fun cB=>
 Do (ai .gtr cB (.int .i64 0)) fun b_=>
 Gd b_ true (
 aB (Nd Φ x1 vd AR Q) ([(.int .i64 8)],vd.2)) (
 Q (sl vd.1 0) vd.2)
def TC(Φ:aj)(x1:AV)(Q:ae):List AV→AH→Prop:=fun j3 H4=>
 aB (D7 Φ x1 Q) ([(.aq .nil 0 [])],H4)
def Nc(Φ:aj)(x1:AV)(Q:ae):List AV→AH→Prop:=fun j5 H6=>
 Gd (sl j5 0) true (
 Q (.aq .nil 0 []) H6) (
 ak (TC Φ x1 Q) [] H6)
def D6(Φ:aj)(x1:AV)(Q:ae):List AV→AH→Prop:=fun j7 H8=>
 aL (sl j7 0) false (
 Do (ab 0 x1) fun bg=>
 Do (J H8 1 false bg) fun bV=>
 Do (ab 1 x1) fun bE=>
 Do (J H8 1 false bE) fun cI=>
 Do (ai .add bV cI) fun cm=>
 Do (ai .gtr cm (.int .i64 1099511627776)) fun bO=>
 ak (Nc Φ x1 Q) [bO] H8) (
 ak (Nc Φ x1 Q) [(.bool true)] H8) (
 False)
def f128(Φ:aj)(a0:AV)(H:AH)(Q:ae):Prop:=
 aJ (bB H true 2 a0) fun x1 H2=>
 Do (J H2 2 true x1) fun x9=>
Φ K.f133 [x9] H2 fun bQ cy=>
 Do (eB .not bQ) fun bc=>
 aL bc false (
 Do (ab 1 x1) fun bu=>
 Do (J cy 1 false bu) fun bN=>
 Do (ai .gtr bN (.int .i64 64)) fun bG=>
 ak (D6 Φ x1 Q) [bG] cy) (
 ak (D6 Φ x1 Q) [(.bool true)] cy) (
 False)
noncomputable def acL:bm:=bI Go.Proofs.YtbjhdakiiedmcaaGreatDoor.rb.C ⟨128,[1],[[3],[4]],none,[],[]⟩
theorem apy(Φ:aj)(a0:AV)(H:AH)(Q:ae):bM Φ acL [a0] H Q=f128 Φ a0 H Q:=by kernel_rfl
def f131(Φ:aj)(a0 a1:AV)(H:AH)(Q:ae):Prop:=
 aJ (bB H false 9 a0) fun x1 H2=>
 Do (ab 0 x1) fun x3=>
 Do (J H2 1 false x3) fun x4=>
 Do (ab 0 a1) fun x5=>
 Do (J H2 1 false x5) fun x6=>
 Do (ai .eql x4 x6) fun x7=>
 Q x7 H2
noncomputable def acM:bm:=bI Go.Proofs.YtbjhdakiiedmcaaGreatDoor.rb.C ⟨131,[],[],none,[],[]⟩
theorem apz(Φ:aj)(a0 a1:AV)(H:AH)(Q:ae):bM Φ acM [a0,a1] H Q=f131 Φ a0 a1 H Q:=by kernel_rfl
end Rb.S

namespace Rb.S
open Go
def BJ(Φ:aj)(Q:ae):List AV→AH→Prop:=fun Lj nT=>
 Gd (sl Lj 0) true (
 Q (.int .i64 9) nT) (
 Q (.int .i64 0) nT)
def D8(Φ:aj)(x7:AV)(Q:ae):List AV→AH→Prop:=fun Bi gA=>
 Gd (sl Bi 0) true (
 Q (.int .i64 8) gA) (
 Do (ab 7 x7) fun jB=>
 Do (J gA 1 false jB) fun gF=>
 aL gF true (
 Do (ab 8 x7) fun iV=>
 Do (J gA 1 false iV) fun iv=>
 Do (ai .lss iv (.int .i64 0)) fun iM=>
 aL iM false (
 Do (ab 8 x7) fun kl=>
 Do (J gA 1 false kl) fun jC=>
 Do (ab 1 x7) fun iG=>
 Do (ab 1 iG) fun ja=>
 Do (J gA 1 false ja) fun jD=>
 Do (ai .mul (.int .i64 8) jD) fun jO=>
 Do (ai .gtr jC jO) fun jh=>
 aL jh false (
 Do (ab 8 x7) fun jE=>
 Do (J gA 1 false jE) fun ji=>
 Do (ai .eql ji (.int .i64 0)) fun eJ=>
 aL eJ true (
 Do (ab 0 x7) fun jP=>
 Do (J gA 1 false jP) fun mZ=>
 Do (ai .neq mZ (.str [])) fun m5=>
 ak (BJ Φ Q) [m5] gA) (
 ak (BJ Φ Q) [(.bool false)] gA) (
 False)) (
 ak (BJ Φ Q) [(.bool true)] gA) (
 False)) (
 ak (BJ Φ Q) [(.bool true)] gA) (
 False)) (
 ak (BJ Φ Q) [(.bool false)] gA) (
 False))
def Nf(Φ:aj)(x1 x7:AV)(Q:ae):List AV→AH→Prop:=fun DA ie=>
 aL (sl DA 0) false (
 Do (ab 7 x7) fun gE=>
 Do (J ie 1 false gE) fun dZ=>
 aL dZ true (
 Do (ab 1 x7) fun fa=>
 Do (ab 0 fa) fun bW=>
 Do (J ie 1 false bW) fun fY=>
 Do (ai .neq fY (.int .i64 1)) fun fZ=>
 aL fZ false (
 Do (ab 2 x1) fun gX=>
 Do (J ie 1 false gX) fun c_=>
 ak (D8 Φ x7 Q) [c_] ie) (
 ak (D8 Φ x7 Q) [(.bool true)] ie) (
 False)) (
 ak (D8 Φ x7 Q) [(.bool false)] ie) (
 False)) (
 ak (D8 Φ x7 Q) [(.bool true)] ie) (
 False)
def TD(Φ:aj)(x1 x7:AV)(Q:ae):List AV→AH→Prop:=fun rG cy=>
 Do (ab 1 x7) fun eW=>
 Do (J cy 6 true eW) fun dP=>
Φ K.f103 [dP] cy fun cq kB=>
 Do (ai .neq cq (.int .i64 0)) fun dG=>
 Gd dG true (
 Q cq kB) (
 Do (ab 7 x7) fun dY=>
 Do (J kB 1 false dY) fun dJ=>
 Do (eB .not dJ) fun dN=>
 aL dN true (
 Do (ab 8 x7) fun dS=>
 Do (J kB 1 false dS) fun eE=>
 Do (ai .neq eE (.int .i64 0)) fun e_=>
 ak (Nf Φ x1 x7 Q) [e_] kB) (
 ak (Nf Φ x1 x7 Q) [(.bool false)] kB) (
 False))
def Ng(Φ:aj)(x1 x7:AV)(Q:ae):List AV→AH→Prop:=fun Lf nR=>
 Gd (sl Lf 0) true (
 Q (.int .i64 7) nR) (
 ak (TD Φ x1 x7 Q) [] nR)
def HJ(Φ:aj)(a1 x1 x7:AV)(Q:ae):List AV→AH→Prop:=fun Bg de=>
 Gd (sl Bg 0) true (
 Q (.int .i64 6) de) (
 Do (ab 0 x7) fun bS=>
 Do (J de 1 false bS) fun bA=>
 Do (ai .neq bA (.str [])) fun dx=>
 aL dx true (
 Do (ab 3 x1) fun cb=>
 Do (J de 1 false cb) fun cK=>
 Do (kO 9 cK none (some a1) none) fun dL=>
Φ K.f106 [dL,(.fn K.f134 [x7])] de fun cO lI=>
 ak (Ng Φ x1 x7 Q) [cO] lI) (
 ak (Ng Φ x1 x7 Q) [(.bool false)] de) (
 False))
def f132(Φ:aj)(a0 a1:AV)(H:AH)(Q:ae):Prop:=
 aJ (bB H false 6 a0) fun x1 H2=>
 Do (ab 3 x1) fun x3=>
 Do (J H2 1 false x3) fun x4=>
 Do (bj none 9 x4 a1) fun x5=>
 Do (J H2 9 true x5) fun x6=>
 aJ (some (be H2 true [.str [],.int .i64 0,.int .i64 0,.bool false,.aq .nil 0 [],.int .i64 0,.aq .nil 0 [],.bool false,.int .i64 0])) fun x7 H8=>
 Do (aH H8 9 x7 x6) fun H9=>
 Do (ab 0 x7) fun bN=>
 Do (J H9 1 false bN) fun bG=>
Φ K.f41 [bG] H9 fun bg dv=>
 Do (eB .not bg) fun bE=>
 aL bE true (
 Do (ab 0 x7) fun cI=>
 Do (J dv 1 false cI) fun cm=>
 Do (ai .neq cm (.str [])) fun bO=>
 aL bO false (
 Do (ab 7 x7) fun aW=>
 Do (J dv 1 false aW) fun cf=>
 Do (eB .not cf) fun cw=>
 ak (HJ Φ a1 x1 x7 Q) [cw] dv) (
 ak (HJ Φ a1 x1 x7 Q) [(.bool true)] dv) (
 False)) (
 ak (HJ Φ a1 x1 x7 Q) [(.bool false)] dv) (
 False)
noncomputable def acN:bm:=bI Go.Proofs.YtbjhdakiiedmcaaGreatDoor.rb.C ⟨132,[5],[],none,[],[]⟩
theorem apA(Φ:aj)(a0 a1:AV)(H:AH)(Q:ae):bM Φ acN [a0,a1] H Q=f132 Φ a0 a1 H Q:=by kernel_rfl
def TE(Φ:aj)(x1:AV)(Q:ae):List AV→AH→Prop:=fun lh dQ=>
 aL (sl lh 0) true (
 Do (ab 1 x1) fun bg=>
 Do (J dQ 1 false bg) fun bV=>
 Do (ai .leq bV (.int .i64 1048576)) fun bE=>
 Q bE dQ) (
 Q (.bool false) dQ) (
 False)
def TF(Φ:aj)(x1:AV)(Q:ae):List AV→AH→Prop:=fun j3 H4=>
 aL (sl j3 0) true (
 Do (ab 1 x1) fun bu=>
 Do (J H4 1 false bu) fun bN=>
 Do (ai .geq bN (.int .i64 0)) fun bG=>
 ak (TE Φ x1 Q) [bG] H4) (
 ak (TE Φ x1 Q) [(.bool false)] H4) (
 False)
def f133(Φ:aj)(a0:AV)(H:AH)(Q:ae):Prop:=
 aJ (bB H false 2 a0) fun x1 H2=>
 Do (ab 0 x1) fun x5=>
 Do (J H2 1 false x5) fun x6=>
 Do (ai .geq x6 (.int .i64 0)) fun x7=>
 aL x7 true (
 Do (ab 0 x1) fun x8=>
 Do (J H2 1 false x8) fun x9=>
 Do (ai .leq x9 (.int .i64 1099511627776)) fun bQ=>
 ak (TF Φ x1 Q) [bQ] H2) (
 ak (TF Φ x1 Q) [(.bool false)] H2) (
 False)
noncomputable def acO:bm:=bI Go.Proofs.YtbjhdakiiedmcaaGreatDoor.rb.C ⟨133,[],[],none,[],[]⟩
theorem apB(Φ:aj)(a0:AV)(H:AH)(Q:ae):bM Φ acO [a0] H Q=f133 Φ a0 H Q:=by kernel_rfl
def f134(Φ:aj)(a0 a1:AV)(H:AH)(Q:ae):Prop:=
 aJ (bB H false 9 a0) fun x1 H2=>
 Do (ab 0 x1) fun x3=>
 Do (J H2 1 false x3) fun x4=>
 Do (ab 0 a1) fun x5=>
 Do (J H2 1 false x5) fun x6=>
 Do (ai .eql x4 x6) fun x7=>
 Q x7 H2
noncomputable def acQ:bm:=bI Go.Proofs.YtbjhdakiiedmcaaGreatDoor.rb.C ⟨134,[],[],none,[],[]⟩
theorem apC(Φ:aj)(a0 a1:AV)(H:AH)(Q:ae):bM Φ acQ [a0,a1] H Q=f134 Φ a0 a1 H Q:=by kernel_rfl
noncomputable def cH:pK:=[
  (K.f3,agq),
  (K.f4,agr),
  (K.f5,ags),
  (K.f6,avA),
  (K.f7,agt),
  (K.f8,agu),
  (K.f9,agv),
  (K.f10,aeg),
  (K.f11,aeh),
  (K.f12,aei),
  (K.f13,aej),
  (K.f14,aek),
  (K.f15,ael),
  (K.f16,aem),
  (K.f17,aen),
  (K.f22,aeo),
  (K.f23,aep),
  (K.f24,aeq),
  (K.f25,aer),
  (K.f26,aes),
  (K.f27,aet),
  (K.f28,aeu),
  (K.f29,aev),
  (K.f30,aew),
  (K.f31,aex),
  (K.f32,aey),
  (K.f33,aez),
  (K.f34,aeA),
  (K.f35,aeB),
  (K.f36,aeC),
  (K.f37,aeD),
  (K.f38,aeE),
  (K.f39,aeF),
  (K.f40,aeG),
  (K.f41,aeH),
  (K.f42,aeI),
  (K.f43,aeJ),
  (K.f44,aeK),
  (K.f45,aeL),
  (K.f46,aeM),
  (K.f47,aeN),
  (K.f48,aeO),
  (K.f49,aeP),
  (K.f50,aeQ),
  (K.f51,aeR),
  (K.f52,aeS),
  (K.f53,aeT),
  (K.f54,aeU),
  (K.f55,aeV),
  (K.f56,aeW),
  (K.f57,aeX),
  (K.f58,aeY),
  (K.f59,aeZ),
  (K.f60,ae0),
  (K.f61,ae1),
  (K.f62,ae2),
  (K.f63,ae3),
  (K.f64,ae4),
  (K.f65,ae5),
  (K.f66,ae6),
  (K.f68,ae7),
  (K.f69,ae8),
  (K.f70,ae9),
  (K.f71,ae_),
  (K.f72,afa),
  (K.f73,afb),
  (K.f74,afc),
  (K.f75,afd),
  (K.f76,afe),
  (K.f77,afg),
  (K.f78,afh),
  (K.f79,afi),
  (K.f80,afj),
  (K.f81,afk),
  (K.f82,afl),
  (K.f83,afm),
  (K.f84,afn),
  (K.f85,afo),
  (K.f86,afq),
  (K.f87,afr),
  (K.f88,afs),
  (K.f89,aft),
  (K.f90,afu),
  (K.f91,afv),
  (K.f92,afw),
  (K.f93,afx),
  (K.f94,afy),
  (K.f97,afz),
  (K.f98,afA),
  (K.f99,afB),
  (K.f100,acg),
  (K.f101,ach),
  (K.f102,aci),
  (K.f103,acj),
  (K.f104,ack),
  (K.f105,acm),
  (K.f106,acn),
  (K.f107,aco),
  (K.f108,acp),
  (K.f109,acq),
  (K.f110,acr),
  (K.f111,acs),
  (K.f112,acu),
  (K.f113,acv),
  (K.f114,acw),
  (K.f116,acx),
  (K.f117,acy),
  (K.f118,acz),
  (K.f119,acA),
  (K.f120,acC),
  (K.f121,acD),
  (K.f122,acF),
  (K.f123,acG),
  (K.f124,acH),
  (K.f125,acI),
  (K.f126,acJ),
  (K.f127,acK),
  (K.f128,acL),
  (K.f131,acM),
  (K.f132,acN),
  (K.f133,acO),
  (K.f134,acQ)]
section
variable{Φ:aj}(hT:Cl Φ cH){a0 a1 a2 a3 a4 a5 a6 a7 a8 a9 a10 a11:AV}{H:AH}{Q:ae}
include hT
theorem auE(h:f3 Φ a0 a1 H Q):Φ K.f3 [a0,a1] H Q:=hT.call (by kernel_rfl) (by kernel_rfl) (by rw[auN];exact h)
theorem auF(h:f4 Φ a0 a1 H Q):Φ K.f4 [a0,a1] H Q:=hT.call (by kernel_rfl) (by kernel_rfl) (by rw[auO];exact h)
theorem auG(h:f5 Φ a0 H Q):Φ K.f5 [a0] H Q:=hT.call (by kernel_rfl) (by kernel_rfl) (by rw[auP];exact h)
theorem auH(h:f7 Φ a0 a1 H Q):Φ K.f7 [a0,a1] H Q:=hT.call (by kernel_rfl) (by kernel_rfl) (by rw[auQ];exact h)
theorem auI(h:f8 Φ a0 H Q):Φ K.f8 [a0] H Q:=hT.call (by kernel_rfl) (by kernel_rfl) (by rw[auR];exact h)
theorem auJ(h:f9 Φ a0 a1 H Q):Φ K.f9 [a0,a1] H Q:=hT.call (by kernel_rfl) (by kernel_rfl) (by rw[auS];exact h)
theorem aqB(h:f10 Φ a0 H Q):Φ K.f10 [a0] H Q:=hT.call (by kernel_rfl) (by kernel_rfl) (by rw[ar2];exact h)
theorem aqC(h:f11 Φ a0 H Q):Φ K.f11 [a0] H Q:=hT.call (by kernel_rfl) (by kernel_rfl) (by rw[ar3];exact h)
theorem aqD(h:f12 Φ a0 a1 H Q):Φ K.f12 [a0,a1] H Q:=hT.call (by kernel_rfl) (by kernel_rfl) (by rw[ar4];exact h)
theorem Un(h:f13 Φ a0 H Q):Φ K.f13 [a0] H Q:=hT.call (by kernel_rfl) (by kernel_rfl) (by rw[ar5];exact h)
theorem aqE(h:f14 Φ a0 H Q):Φ K.f14 [a0] H Q:=hT.call (by kernel_rfl) (by kernel_rfl) (by rw[ar6];exact h)
theorem aqF(h:f15 Φ a0 H Q):Φ K.f15 [a0] H Q:=hT.call (by kernel_rfl) (by kernel_rfl) (by rw[ar7];exact h)
theorem aqG(h:f16 Φ a0 H Q):Φ K.f16 [a0] H Q:=hT.call (by kernel_rfl) (by kernel_rfl) (by rw[ar8];exact h)
theorem aqH(h:f17 Φ a0 a1 a2 a3 H Q):Φ K.f17 [a0,a1,a2,a3] H Q:=hT.call (by kernel_rfl) (by kernel_rfl) (by rw[ar9];exact h)
theorem aqI(h:f22 Φ a0 a1 a2 H Q):Φ K.f22 [a0,a1,a2] H Q:=hT.call (by kernel_rfl) (by kernel_rfl) (by rw[ar_];exact h)
theorem aqJ(h:f23 Φ a0 a1 a2 H Q):Φ K.f23 [a0,a1,a2] H Q:=hT.call (by kernel_rfl) (by kernel_rfl) (by rw[asa];exact h)
theorem aqK(h:f24 Φ a0 H Q):Φ K.f24 [a0] H Q:=hT.call (by kernel_rfl) (by kernel_rfl) (by rw[asb];exact h)
theorem aqL(h:f25 Φ a0 H Q):Φ K.f25 [a0] H Q:=hT.call (by kernel_rfl) (by kernel_rfl) (by rw[asc];exact h)
theorem aqM(h:f26 Φ a0 H Q):Φ K.f26 [a0] H Q:=hT.call (by kernel_rfl) (by kernel_rfl) (by rw[asd];exact h)
theorem aqN(h:f27 Φ a0 a1 a2 H Q):Φ K.f27 [a0,a1,a2] H Q:=hT.call (by kernel_rfl) (by kernel_rfl) (by rw[ase];exact h)
theorem BT(h:f28 Φ a0 H Q):Φ K.f28 [a0] H Q:=hT.call (by kernel_rfl) (by kernel_rfl) (by rw[asf];exact h)
theorem aqO(h:f29 Φ a0 H Q):Φ K.f29 [a0] H Q:=hT.call (by kernel_rfl) (by kernel_rfl) (by rw[ash];exact h)
theorem aqP(h:f30 Φ a0 a1 H Q):Φ K.f30 [a0,a1] H Q:=hT.call (by kernel_rfl) (by kernel_rfl) (by rw[asi];exact h)
theorem aqQ(h:f31 Φ H Q):Φ K.f31 [] H Q:=hT.call (by kernel_rfl) (by kernel_rfl) (by rw[asj];exact h)
theorem aqR(h:f32 Φ a0 H Q):Φ K.f32 [a0] H Q:=hT.call (by kernel_rfl) (by kernel_rfl) (by rw[asl];exact h)
theorem aqS(h:f33 Φ a0 H Q):Φ K.f33 [a0] H Q:=hT.call (by kernel_rfl) (by kernel_rfl) (by rw[asm];exact h)
theorem aqT(h:f34 Φ a0 H Q):Φ K.f34 [a0] H Q:=hT.call (by kernel_rfl) (by kernel_rfl) (by rw[asn];exact h)
theorem aqU(h:f35 Φ a0 a1 a2 H Q):Φ K.f35 [a0,a1,a2] H Q:=hT.call (by kernel_rfl) (by kernel_rfl) (by rw[aso];exact h)
theorem aqV(h:f36 Φ a0 H Q):Φ K.f36 [a0] H Q:=hT.call (by kernel_rfl) (by kernel_rfl) (by rw[asp];exact h)
theorem aqW(h:f37 Φ a0 a1 H Q):Φ K.f37 [a0,a1] H Q:=hT.call (by kernel_rfl) (by kernel_rfl) (by rw[asq];exact h)
theorem aqX(h:f38 Φ a0 a1 H Q):Φ K.f38 [a0,a1] H Q:=hT.call (by kernel_rfl) (by kernel_rfl) (by rw[asr];exact h)
theorem aqY(h:f39 Φ a0 a1 a2 a3 a4 H Q):Φ K.f39 [a0,a1,a2,a3,a4] H Q:=hT.call (by kernel_rfl) (by kernel_rfl) (by rw[ass];exact h)
theorem aqZ(h:f40 Φ a0 a1 a2 a3 H Q):Φ K.f40 [a0,a1,a2,a3] H Q:=hT.call (by kernel_rfl) (by kernel_rfl) (by rw[ast];exact h)
theorem aq0(h:f41 Φ a0 H Q):Φ K.f41 [a0] H Q:=hT.call (by kernel_rfl) (by kernel_rfl) (by rw[asu];exact h)
theorem aq1(h:f42 Φ a0 H Q):Φ K.f42 [a0] H Q:=hT.call (by kernel_rfl) (by kernel_rfl) (by rw[asv];exact h)
theorem aq2(h:f43 Φ a0 a1 H Q):Φ K.f43 [a0,a1] H Q:=hT.call (by kernel_rfl) (by kernel_rfl) (by rw[asw];exact h)
theorem aq3(h:f44 Φ a0 a1 H Q):Φ K.f44 [a0,a1] H Q:=hT.call (by kernel_rfl) (by kernel_rfl) (by rw[asx];exact h)
theorem aq4(h:f45 Φ a0 a1 a2 H Q):Φ K.f45 [a0,a1,a2] H Q:=hT.call (by kernel_rfl) (by kernel_rfl) (by rw[asy];exact h)
theorem adv(h:f46 Φ a0 H Q):Φ K.f46 [a0] H Q:=hT.call (by kernel_rfl) (by kernel_rfl) (by rw[asz];exact h)
theorem aq5(h:f47 Φ a0 a1 H Q):Φ K.f47 [a0,a1] H Q:=hT.call (by kernel_rfl) (by kernel_rfl) (by rw[asA];exact h)
theorem aq6(h:f48 Φ a0 H Q):Φ K.f48 [a0] H Q:=hT.call (by kernel_rfl) (by kernel_rfl) (by rw[asB];exact h)
theorem aq7(h:f49 Φ a0 a1 a2 H Q):Φ K.f49 [a0,a1,a2] H Q:=hT.call (by kernel_rfl) (by kernel_rfl) (by rw[asC];exact h)
theorem aq8(h:f50 Φ a0 a1 H Q):Φ K.f50 [a0,a1] H Q:=hT.call (by kernel_rfl) (by kernel_rfl) (by rw[asD];exact h)
theorem aq9(h:f51 Φ a0 a1 a2 H Q):Φ K.f51 [a0,a1,a2] H Q:=hT.call (by kernel_rfl) (by kernel_rfl) (by rw[asE];exact h)
theorem aq_(h:f52 Φ a0 a1 H Q):Φ K.f52 [a0,a1] H Q:=hT.call (by kernel_rfl) (by kernel_rfl) (by rw[asF];exact h)
theorem ara(h:f53 Φ a0 a1 H Q):Φ K.f53 [a0,a1] H Q:=hT.call (by kernel_rfl) (by kernel_rfl) (by rw[asG];exact h)
theorem arb(h:f54 Φ a0 H Q):Φ K.f54 [a0] H Q:=hT.call (by kernel_rfl) (by kernel_rfl) (by rw[asH];exact h)
theorem arc(h:f55 Φ a0 a1 a2 a3 H Q):Φ K.f55 [a0,a1,a2,a3] H Q:=hT.call (by kernel_rfl) (by kernel_rfl) (by rw[asI];exact h)
theorem ard(h:f56 Φ a0 a1 H Q):Φ K.f56 [a0,a1] H Q:=hT.call (by kernel_rfl) (by kernel_rfl) (by rw[asJ];exact h)
theorem arf(h:f57 Φ a0 a1 H Q):Φ K.f57 [a0,a1] H Q:=hT.call (by kernel_rfl) (by kernel_rfl) (by rw[asK];exact h)
theorem arh(h:f58 Φ a0 a1 H Q):Φ K.f58 [a0,a1] H Q:=hT.call (by kernel_rfl) (by kernel_rfl) (by rw[asL];exact h)
theorem ari(h:f59 Φ a0 a1 H Q):Φ K.f59 [a0,a1] H Q:=hT.call (by kernel_rfl) (by kernel_rfl) (by rw[asM];exact h)
theorem arj(h:f60 Φ a0 H Q):Φ K.f60 [a0] H Q:=hT.call (by kernel_rfl) (by kernel_rfl) (by rw[asN];exact h)
theorem ark(h:f61 Φ a0 H Q):Φ K.f61 [a0] H Q:=hT.call (by kernel_rfl) (by kernel_rfl) (by rw[asO];exact h)
theorem arl(h:f62 Φ a0 H Q):Φ K.f62 [a0] H Q:=hT.call (by kernel_rfl) (by kernel_rfl) (by rw[asP];exact h)
theorem arn(h:f63 Φ a0 a1 H Q):Φ K.f63 [a0,a1] H Q:=hT.call (by kernel_rfl) (by kernel_rfl) (by rw[asQ];exact h)
theorem aro(h:f64 Φ a0 H Q):Φ K.f64 [a0] H Q:=hT.call (by kernel_rfl) (by kernel_rfl) (by rw[asR];exact h)
theorem adw(h:f65 Φ a0 H Q):Φ K.f65 [a0] H Q:=hT.call (by kernel_rfl) (by kernel_rfl) (by rw[asS];exact h)
theorem arp(h:f66 Φ a0 a1 H Q):Φ K.f66 [a0,a1] H Q:=hT.call (by kernel_rfl) (by kernel_rfl) (by rw[asT];exact h)
theorem Uo(h:f68 Φ a0 a1 H Q):Φ K.f68 [a0,a1] H Q:=hT.call (by kernel_rfl) (by kernel_rfl) (by rw[asU];exact h)
theorem arq(h:f69 Φ a0 a1 a2 H Q):Φ K.f69 [a0,a1,a2] H Q:=hT.call (by kernel_rfl) (by kernel_rfl) (by rw[asV];exact h)
theorem art(h:f70 Φ a0 H Q):Φ K.f70 [a0] H Q:=hT.call (by kernel_rfl) (by kernel_rfl) (by rw[asW];exact h)
theorem aru(h:f71 Φ a0 a1 H Q):Φ K.f71 [a0,a1] H Q:=hT.call (by kernel_rfl) (by kernel_rfl) (by rw[asX];exact h)
theorem arv(h:f72 Φ a0 a1 H Q):Φ K.f72 [a0,a1] H Q:=hT.call (by kernel_rfl) (by kernel_rfl) (by rw[asY];exact h)
theorem arw(h:f73 Φ a0 a1 a2 a3 H Q):Φ K.f73 [a0,a1,a2,a3] H Q:=hT.call (by kernel_rfl) (by kernel_rfl) (by rw[asZ];exact h)
theorem arx(h:f74 Φ a0 a1 a2 H Q):Φ K.f74 [a0,a1,a2] H Q:=hT.call (by kernel_rfl) (by kernel_rfl) (by rw[as0];exact h)
theorem ary(h:f75 Φ a0 H Q):Φ K.f75 [a0] H Q:=hT.call (by kernel_rfl) (by kernel_rfl) (by rw[as1];exact h)
theorem arz(h:f76 Φ a0 H Q):Φ K.f76 [a0] H Q:=hT.call (by kernel_rfl) (by kernel_rfl) (by rw[as2];exact h)
theorem arA(h:f77 Φ a0 H Q):Φ K.f77 [a0] H Q:=hT.call (by kernel_rfl) (by kernel_rfl) (by rw[as3];exact h)
theorem arB(h:f78 Φ a0 a1 H Q):Φ K.f78 [a0,a1] H Q:=hT.call (by kernel_rfl) (by kernel_rfl) (by rw[as4];exact h)
theorem arC(h:f79 Φ a0 a1 a2 a3 H Q):Φ K.f79 [a0,a1,a2,a3] H Q:=hT.call (by kernel_rfl) (by kernel_rfl) (by rw[as5];exact h)
theorem arD(h:f80 Φ a0 a1 H Q):Φ K.f80 [a0,a1] H Q:=hT.call (by kernel_rfl) (by kernel_rfl) (by rw[as6];exact h)
theorem arE(h:f81 Φ a0 a1 H Q):Φ K.f81 [a0,a1] H Q:=hT.call (by kernel_rfl) (by kernel_rfl) (by rw[as7];exact h)
theorem arF(h:f82 Φ a0 a1 H Q):Φ K.f82 [a0,a1] H Q:=hT.call (by kernel_rfl) (by kernel_rfl) (by rw[as8];exact h)
theorem arG(h:f83 Φ a0 a1 H Q):Φ K.f83 [a0,a1] H Q:=hT.call (by kernel_rfl) (by kernel_rfl) (by rw[as9];exact h)
theorem arH(h:f84 Φ a0 a1 H Q):Φ K.f84 [a0,a1] H Q:=hT.call (by kernel_rfl) (by kernel_rfl) (by rw[as_];exact h)
theorem arI(h:f85 Φ a0 a1 H Q):Φ K.f85 [a0,a1] H Q:=hT.call (by kernel_rfl) (by kernel_rfl) (by rw[ata];exact h)
theorem arJ(h:f86 Φ a0 a1 a2 a3 H Q):Φ K.f86 [a0,a1,a2,a3] H Q:=hT.call (by kernel_rfl) (by kernel_rfl) (by rw[atb];exact h)
theorem arK(h:f87 Φ a0 a1 a2 a3 H Q):Φ K.f87 [a0,a1,a2,a3] H Q:=hT.call (by kernel_rfl) (by kernel_rfl) (by rw[atc];exact h)
theorem arL(h:f88 Φ a0 H Q):Φ K.f88 [a0] H Q:=hT.call (by kernel_rfl) (by kernel_rfl) (by rw[atd];exact h)
theorem arM(h:f89 Φ a0 a1 a2 a3 a4 H Q):Φ K.f89 [a0,a1,a2,a3,a4] H Q:=hT.call (by kernel_rfl) (by kernel_rfl) (by rw[ate];exact h)
theorem arN(h:f90 Φ a0 H Q):Φ K.f90 [a0] H Q:=hT.call (by kernel_rfl) (by kernel_rfl) (by rw[atf];exact h)
theorem arO(h:f91 Φ a0 a1 a2 H Q):Φ K.f91 [a0,a1,a2] H Q:=hT.call (by kernel_rfl) (by kernel_rfl) (by rw[atg];exact h)
theorem arP(h:f92 Φ a0 a1 H Q):Φ K.f92 [a0,a1] H Q:=hT.call (by kernel_rfl) (by kernel_rfl) (by rw[ath];exact h)
theorem adx(h:f93 Φ a0 a1 H Q):Φ K.f93 [a0,a1] H Q:=hT.call (by kernel_rfl) (by kernel_rfl) (by rw[ati];exact h)
theorem arQ(h:f94 Φ a0 a1 H Q):Φ K.f94 [a0,a1] H Q:=hT.call (by kernel_rfl) (by kernel_rfl) (by rw[atj];exact h)
theorem arR(h:f97 Φ a0 H Q):Φ K.f97 [a0] H Q:=hT.call (by kernel_rfl) (by kernel_rfl) (by rw[atk];exact h)
theorem ady(h:f98 Φ a0 H Q):Φ K.f98 [a0] H Q:=hT.call (by kernel_rfl) (by kernel_rfl) (by rw[atl];exact h)
theorem arS(h:f99 Φ a0 a1 H Q):Φ K.f99 [a0,a1] H Q:=hT.call (by kernel_rfl) (by kernel_rfl) (by rw[atm];exact h)
theorem aoy(h:f100 Φ a0 a1 H Q):Φ K.f100 [a0,a1] H Q:=hT.call (by kernel_rfl) (by kernel_rfl) (by rw[ao6];exact h)
theorem aoz(h:f101 Φ a0 a1 a2 H Q):Φ K.f101 [a0,a1,a2] H Q:=hT.call (by kernel_rfl) (by kernel_rfl) (by rw[ao7];exact h)
theorem aoA(h:f102 Φ a0 H Q):Φ K.f102 [a0] H Q:=hT.call (by kernel_rfl) (by kernel_rfl) (by rw[ao8];exact h)
theorem aoB(h:f103 Φ a0 H Q):Φ K.f103 [a0] H Q:=hT.call (by kernel_rfl) (by kernel_rfl) (by rw[ao9];exact h)
theorem aoC(h:f104 Φ a0 H Q):Φ K.f104 [a0] H Q:=hT.call (by kernel_rfl) (by kernel_rfl) (by rw[ao_];exact h)
theorem aoD(h:f105 Φ a0 a1 H Q):Φ K.f105 [a0,a1] H Q:=hT.call (by kernel_rfl) (by kernel_rfl) (by rw[apa];exact h)
theorem aoE(h:f106 Φ a0 a1 H Q):Φ K.f106 [a0,a1] H Q:=hT.call (by kernel_rfl) (by kernel_rfl) (by rw[apb];exact h)
theorem aoF(h:f107 Φ a0 H Q):Φ K.f107 [a0] H Q:=hT.call (by kernel_rfl) (by kernel_rfl) (by rw[apc];exact h)
theorem abJ(h:f108 Φ a0 H Q):Φ K.f108 [a0] H Q:=hT.call (by kernel_rfl) (by kernel_rfl) (by rw[apd];exact h)
theorem aoG(h:f109 Φ a0 a1 H Q):Φ K.f109 [a0,a1] H Q:=hT.call (by kernel_rfl) (by kernel_rfl) (by rw[ape];exact h)
theorem Tp(h:f110 Φ a0 a1 H Q):Φ K.f110 [a0,a1] H Q:=hT.call (by kernel_rfl) (by kernel_rfl) (by rw[apf];exact h)
theorem aoH(h:f111 Φ a0 a1 H Q):Φ K.f111 [a0,a1] H Q:=hT.call (by kernel_rfl) (by kernel_rfl) (by rw[apg];exact h)
theorem aoI(h:f112 Φ a0 H Q):Φ K.f112 [a0] H Q:=hT.call (by kernel_rfl) (by kernel_rfl) (by rw[aph];exact h)
theorem aoJ(h:f113 Φ a0 a1 H Q):Φ K.f113 [a0,a1] H Q:=hT.call (by kernel_rfl) (by kernel_rfl) (by rw[api];exact h)
theorem aoK(h:f114 Φ a0 H Q):Φ K.f114 [a0] H Q:=hT.call (by kernel_rfl) (by kernel_rfl) (by rw[apj];exact h)
theorem aoL(h:f116 Φ a0 a1 H Q):Φ K.f116 [a0,a1] H Q:=hT.call (by kernel_rfl) (by kernel_rfl) (by rw[apk];exact h)
theorem aoM(h:f117 Φ a0 a1 H Q):Φ K.f117 [a0,a1] H Q:=hT.call (by kernel_rfl) (by kernel_rfl) (by rw[apl];exact h)
theorem aoN(h:f118 Φ a0 H Q):Φ K.f118 [a0] H Q:=hT.call (by kernel_rfl) (by kernel_rfl) (by rw[apm];exact h)
theorem aoO(h:f119 Φ a0 a1 H Q):Φ K.f119 [a0,a1] H Q:=hT.call (by kernel_rfl) (by kernel_rfl) (by rw[apn];exact h)
theorem aoP(h:f120 Φ a0 H Q):Φ K.f120 [a0] H Q:=hT.call (by kernel_rfl) (by kernel_rfl) (by rw[apo];exact h)
theorem abK(h:f121 Φ a0 a1 H Q):Φ K.f121 [a0,a1] H Q:=hT.call (by kernel_rfl) (by kernel_rfl) (by rw[apq];exact h)
theorem aoQ(h:f122 Φ a0 H Q):Φ K.f122 [a0] H Q:=hT.call (by kernel_rfl) (by kernel_rfl) (by rw[apr];exact h)
theorem aoR(h:f123 Φ a0 H Q):Φ K.f123 [a0] H Q:=hT.call (by kernel_rfl) (by kernel_rfl) (by rw[apt];exact h)
theorem aoS(h:f124 Φ a0 a1 H Q):Φ K.f124 [a0,a1] H Q:=hT.call (by kernel_rfl) (by kernel_rfl) (by rw[apu];exact h)
theorem aoT(h:f125 Φ a0 a1 a2 H Q):Φ K.f125 [a0,a1,a2] H Q:=hT.call (by kernel_rfl) (by kernel_rfl) (by rw[apv];exact h)
theorem aoU(h:f126 Φ a0 a1 H Q):Φ K.f126 [a0,a1] H Q:=hT.call (by kernel_rfl) (by kernel_rfl) (by rw[apw];exact h)
theorem D4(h:f127 Φ a0 a1 H Q):Φ K.f127 [a0,a1] H Q:=hT.call (by kernel_rfl) (by kernel_rfl) (by rw[apx];exact h)
theorem aoV(h:f128 Φ a0 H Q):Φ K.f128 [a0] H Q:=hT.call (by kernel_rfl) (by kernel_rfl) (by rw[apy];exact h)
theorem aoW(h:f131 Φ a0 a1 H Q):Φ K.f131 [a0,a1] H Q:=hT.call (by kernel_rfl) (by kernel_rfl) (by rw[apz];exact h)
theorem aoX(h:f132 Φ a0 a1 H Q):Φ K.f132 [a0,a1] H Q:=hT.call (by kernel_rfl) (by kernel_rfl) (by rw[apA];exact h)
theorem aoY(h:f133 Φ a0 H Q):Φ K.f133 [a0] H Q:=hT.call (by kernel_rfl) (by kernel_rfl) (by rw[apB];exact h)
theorem aoZ(h:f134 Φ a0 a1 H Q):Φ K.f134 [a0,a1] H Q:=hT.call (by kernel_rfl) (by kernel_rfl) (by rw[apC];exact h)
end
end Rb.S

namespace Go.Proofs.YtbjhdakiiedmcaaGreatDoor.rb
open Rb
theorem adu:Cl (au C) S.cH:=Cl.of (LX C) (amp (acd _ _) (by kernel_rfl))
end Go.Proofs.YtbjhdakiiedmcaaGreatDoor.rb

namespace Rb
open Go Go.RowKit
def xh(W:World):Nat→Nat→Prop:=fun b o=>∃V,W.cell? ⟨b,o,none⟩=some V
theorem amP{C:Ctx}{key:Nat}{f:FuncId}{args:List AV}{Vs:Array Value}{W:World}(hf:C.F key=some f)(h:au C key args AH.mt (fun v _=>v = .bool true))(hG:jI C W (cc.mt (xh W)) AH.mt)
  (eU:bo C.F W (cc.mt (xh W)) args Vs):Calls C.P f Vs W fun e W'=>e = .returned (.bool true)∧Below W.heap.size W W':=by
 refine Calls.mono (h.2 f hf _ W Vs hG (Rel.mt fun _ _ h=>h) eU) fun e w' he=>?_;obtain⟨V,v,H',G',rfl,rfl,hv,_,aX⟩:=he;obtain rfl:=hv.qN;exact⟨rfl,aX.below⟩
theorem ak6{F:eG}{W:World}{g:Nat}{k:IntKind}{zs:List Int}(h:∀i,i<zs.length→W.cell? ⟨g,i,none⟩=some (.int k (zs.getD i 0))):VR F W (cc.mt (xh W)) (.av (zs.map (.int k))) (.pointer (some ⟨g,0,none⟩)):=by
 refine .av _ g 0 (fun j=> .int k (zs.getD j 0)) (fun j c hj=>?_) fun j c hj=>?_
 · have hl:j<zs.length:=by simpa using(List.getElem?_eq_some_iff.1 hj).1
   rw[Nat.zero_add];exact⟨⟨_,h j hl⟩,h j hl⟩
 · have hl:j<zs.length:=by simpa using(List.getElem?_eq_some_iff.1 hj).1
   have:c = .int k (zs.getD j 0):=by rw[List.getElem?_map,List.getElem?_eq_getElem hl]at hj;simp only[Option.map_some,Option.some.injEq]at hj;rw[←hj,List.getD_eq_getElem?_getD,List.getElem?_eq_getElem hl];rfl
   rw[this];exact .int _ _
theorem bo.two{F:eG}{w:World}{G:cc}{c d:AV}{V U:Value}(h:VR F w G c V)(h':VR F w G d U):bo F w G [c,d] #[V,U]:=⟨rfl,fun j c' V' hc hV=>by
  rcases j with _|_|j
  ·simp at hc hV;subst hc;subst hV;exact h
  ·simp at hc hV;subst hc;subst hV;exact h'
  ·simp at hc⟩
theorem amk{F:eG}{w:World}{G:cc}(b:ByteArray):VR F w G (.str b.data.toList) (.string b):=by
 have h:(⟨b.data.toList.toArray⟩:ByteArray)=b:=by cases b;simp
 have:=VR.str (F:=F) (w:=w) (G:=G) b.data.toList;rwa [h]at this
theorem aj6:ZY=(Go.Lib.asciiSpaceTab.map (AV.int .u8)):=by kernel_rfl
theorem alm{P:Program}{W:World}{name:String}{g:Nat}{cs:Array Value}(hg:P.globalNamed name=some g)(h:W.var? P name=some cs):∃fI t fr,W.heap[g]?=some (.cells fI t fr)∧fI.size=cs.size:=by
 unfold World.var? at h;rw[hg]at h;simp only[Option.bind_some]at h;split at h
 · rename_i fI t fr heq;cases h;exact⟨_,_,_,heq,rfl⟩
 ·cases h
end Rb

namespace Rb
open Go Go.RowKit
mutual
def tH:AV→Nat
 | .str s=>s.length+1
 | .aq _ _ cs=>gm cs+1
 |_=>1
def gm:List AV→Nat
 |[]=>0
 |x::r=>tH x+gm r
end
theorem yz:∀a b:List AV,gm (a++b)=gm a+gm b
 |[],b=>by simp[gm]
 |x::r,b=>by simp only[List.cons_append,gm,yz r b,Nat.add_assoc]
mutual
def dB{H:Type}:DataW H→Nat
 | .lit (.string bytes)=>bytes.length+1
 | .lit _=>1
 | .nil=>1
 | .ptr d=>dB d+1
 | .slice elems spare=>xY elems+xY spare+1
 | .agg parts=>xY parts+1
 | .iface _ d=>dB d+1
 | .map entries=>Rj entries+1
 | .held _=>1
def xY{H:Type}:List (DataW H)→Nat
 |[]=>0
 |d::r=>dB d+xY r
def Rj{H:Type}:List (Lit×DataW H)→Nat
 |[]=>0
 |x::r=>dBx x+Rj r
def dBx{H:Type}:Lit×DataW H→Nat
 |(.string bytes,d)=>bytes.length+dB d+1
 |(_,d)=>dB d+1
end
theorem aa1{H:Type}{α:Type}{cells:α→List AV}:∀(xs:List α)(ds:List (DataW H)),xs.length=ds.length→(∀(i:Nat)(x:α)(d:DataW H),xs[i]?=some x→ds[i]?=some d→gm (cells x)≤dB d)→gm (xs.flatMap cells)≤xY ds
 |[],ds,_,_=>by simp[gm]
 |x::r,[],h,_=>by simp at h
 | x::r,d::ds,h,k=>by have h0:=k 0 x d rfl rfl;have h1:=aa1 r ds (by simpa using h) fun i y e hy he=>k (i+1) y e (by simpa using hy) (by simpa using he);rw[List.flatMap_cons,yz,xY];omega
section
variable{H:Type}{enc:TypeId×Value→H}{P:Program}{w:World}{sp:Nat→Bool}{held:Bool}{F:eG}
def bY(F:eG)(enc:TypeId×Value→H)(P:Program)(w:World)(sp:Nat→Bool)(held:Bool)(n:Nat)(t:TypeId){α:Type}(cells:α→List AV)(ok:α→Prop):Prop:=∀fuel,fuel≤n→∀cs d ps,DataW.trod enc P w 0 sp held fuel t cs=some (d,ps)→(∀m∈d.weights P t,m≤reachBytes)→∃x,ok x∧bo F w (cc.mt (xh w)) (cells x) cs.toArray∧gm (cells x)≤dB d
theorem bY.mono{n m:Nat}{t:TypeId}{α:Type}{cells:α→List AV}{ok:α→Prop}(h:bY F enc P w sp held n t cells ok)(hm:m≤n):bY F enc P w sp held m t cells ok:=fun fuel hf cs d ps ht hw=>h fuel (Nat.le_trans hf hm) cs d ps ht hw
theorem bY.zero{t:TypeId}{α:Type}{cells:α→List AV}{ok:α→Prop}:bY F enc P w sp held 0 t cells ok:=by
 intro fuel hf cs d ps h _;obtain rfl:fuel=0:=by omega
 simp[DataW.trod]at h
theorem bY.int{n:Nat}{t:TypeId}{k:IntKind}(ht:P.underlying t=some (.int k)):bY F enc P w sp held n t (fun z:Int=>[.int k z]) (fun z=>k.min≤z∧z≤k.max):=by intro fuel _ cs d ps h _;obtain⟨z,rfl,hd,hw⟩:=DataW.trod_int ht h;obtain rfl:d=_:=congrArg Prod.fst hd;exact⟨z,by simpa[Lit.wf]using hw,bo.one (.int _ _),by simp[gm,tH,dB]⟩
theorem bY.bool{n:Nat}{t:TypeId}(ht:P.underlying t=some .bool):bY F enc P w sp held n t (fun z:Bool=>[.bool z]) (fun _=>True):=by intro fuel _ cs d ps h _;obtain⟨z,rfl,hd⟩:=DataW.trod_bool ht h;obtain rfl:d=_:=congrArg Prod.fst hd;exact⟨z,trivial,bo.one (.bool _),by simp[gm,tH,dB]⟩
theorem bY.string{n:Nat}{t:TypeId}(ht:P.underlying t=some .string):bY F enc P w sp held n t (fun z:List UInt8=>[.str z]) (fun z=>z.length≤140737488351232):=by intro fuel _ cs d ps h hw;obtain⟨s,rfl,hd,hl⟩:=DataW.trod_string ht h;obtain rfl:d=_:=congrArg Prod.fst hd;exact⟨s.data.toList,hw _ (by simp[DataW.weights]),bo.one (amk s),by simp[gm,tH,dB]⟩
theorem Zn{H:Type}{P:Program}{e:TypeId}:∀{ds:List (DataW H)}{j:Nat}{d:DataW H},ds[j]?=some d→∀n∈d.weights P e,n∈DataW.weightsAll P e ds
 | d0::ds,0,d,hd,n,hn=>by simp only[List.getElem?_cons_zero,Option.some.injEq]at hd;subst hd;simp only[DataW.weightsAll,List.mem_append];exact .inl hn
 | d0::ds,j+1,d,hd,n,hn=>by simp only[List.getElem?_cons_succ]at hd;simp only[DataW.weightsAll,List.mem_append];exact .inr (Zn hd n hn)
def aQ{α:Type}(cells:α→List AV)(xs:List α):AV:= .aq .dead xs.length (xs.flatMap cells)
theorem ak2{α:Type}{p:Nat→α→Prop}:∀(n:Nat),(∀i,i<n→∃x,p i x)→∃xs:List α,xs.length=n∧∀i x,xs[i]?=some x→p i x:=by
 intro n;induction n with
 |zero=>intro _;exact⟨[],rfl,fun i x h=>by simp at h⟩
 | succ n ih=>
  intro h;obtain⟨xs,hl,hx⟩:=ih fun i hi=>h i (by omega);obtain⟨y,hy⟩:=h n (by omega);refine⟨xs++[y],by simp[hl],fun i x hi=>?_⟩;by_cases aO:i<n
  · rw[List.getElem?_append_left (by omega)]at hi;exact hx i x hi
  · rw [List.getElem?_append_right (by omega)]at hi;have:i-xs.length=0:=by
     rcases Nat.eq_zero_or_pos (i-xs.length)with h|h
     ·exact h
     ·rw[List.getElem?_eq_none (by simp;omega)]at hi;cases hi
    rw[this]at hi;simp at hi;subst hi;have:i=n:=by omega
    rw[this];exact hy
theorem anE{α:Type}{cells:α→List AV}{sz:Nat}(hc:∀x,(cells x).length=sz):∀(xs:List α)(j:Nat)(c:AV),(xs.flatMap cells)[j]?=some c→∃i k x,j=i*sz+k∧k<sz∧xs[i]?=some x∧(cells x)[k]?=some c:=by
 intro xs;induction xs with
 |nil=>intro j c h;simp at h
 | cons y ys ih=>
  intro j c h;rw[List.flatMap_cons]at h;by_cases hj:j<sz
  · rw[List.getElem?_append_left (by rw[hc];exact hj)]at h;exact⟨0,j,y,by omega,hj,rfl,h⟩
  · rw[List.getElem?_append_right (by rw[hc];omega),hc]at h;obtain⟨i,k,x,h1,h2,h3,h4⟩:=ih _ _ h;refine⟨i+1,k,x,?_,h2,by simpa using h3,h4⟩;rw[Nat.add_mul];omega
theorem adr{b o m:Nat}:(Addr.mk b o none).add m=⟨b,o+m,none⟩:=by
 unfold Addr.add;split
 ·rename_i h;subst h;rfl
 ·rfl
theorem bY.slice{n:Nat}{t e:TypeId}{α:Type}{cells:α→List AV}{ok:α→Prop}(ht:P.underlying t=some (.slice e)){sz:Nat}(hs:P.cellsOf e=sz)(hz:0<sz)(hc:∀x,(cells x).length=sz)(h:bY F enc P w sp held n e cells ok) :
  bY F enc P w sp held (n+1) t (fun xs:List α=>[aQ cells xs]) (fun xs=>xs.length≤maxLen∧∀x∈xs,ok x):=by
 intro fuel hf cs d ps hd Gz;rcases DataW.trod_slice ht hd with⟨rfl,Di⟩|⟨a,len,cap,elems,rest,m,rfl,rfl,Di,_,hle,kv,fA,atM,_⟩
 · obtain rfl:d=_:=congrArg Prod.fst Di;exact⟨[],⟨Nat.zero_le _,by simp⟩,bo.one (.lC _ _),by simp[aQ,gm,tH,dB]⟩
 · have each : ∀i,i<len→∃x,(ok x∧∀dd,(elems.map (·.1))[i]?=some dd→gm (cells x)≤dB dd)∧∃ci,w.cells? 0 (a.add (i*sz)) sz=some ci∧bo F w (cc.mt (xh w)) (cells x) ci.toArray:=by
     intro i hi;have h1:=atM i hi;rw[List.getElem?_eq_getElem (by omega),hs]at h1;obtain⟨ci,h2,h3⟩:=Option.bind_eq_some_iff.1 h1;obtain ⟨x,hx,hv,hb⟩:=h m (by omega) ci _ _ h3 (fun q hq=>Gz q (by obtain rfl:d=_:=congrArg Prod.fst Di;simp only[DataW.weights,ht];refine List.mem_cons_of_mem _ (List.mem_append_left _ ?_);exact Zn (j:=i) (by rw[List.getElem?_map,List.getElem?_eq_getElem (by omega)];rfl) q hq))
     exact ⟨x,⟨hx,fun dd yd=>by rw[List.getElem?_map,List.getElem?_eq_getElem (by omega)]at yd;simp only[Option.map_some,Option.some.injEq]at yd;rw[←yd];exact hb⟩,ci,h2,hv⟩
   obtain⟨xs,hl,hx⟩:=ak2 len each;have hB:gm [aQ cells xs]≤dB d:=by obtain rfl:d=_:=congrArg Prod.fst Di;have:=aa1 xs (elems.map (·.1)) (by simp;omega) fun i x dd h1 h2=>(hx i x h1).1.2 dd h2;simp only[aQ,gm,tH,dB];omega
   refine⟨xs,⟨by omega,fun x GA=>?_⟩,bo.one ?_,hB⟩
   · obtain⟨i,hi,e⟩:=List.mem_iff_getElem.1 GA;exact(hx i x (by rw[List.getElem?_eq_getElem hi,e])).1.1
   · rcases Nat.eq_zero_or_pos len with h0|h0
     · subst h0;obtain rfl:=List.length_eq_zero_iff.1 hl;exact .lC _ _
     ·
       have RF:a.spot=none:=by
        obtain⟨x,_,ci,h2,_⟩:=each 0 h0;obtain⟨_,h3,h4⟩:=World.cells?_some h2;have h5:=h4 0 hz;rw[List.getElem?_eq_getElem (by omega)]at h5;rw[Nat.zero_mul]at h5;have e0:(a.add 0).add 0=a:=by simp[Addr.add]
        rw[e0]at h5;unfold World.cell? at h5;split at h5
        · split at h5
          ·cases h5
          · rename_i hn;cases ha:a.spot with
            |none=>rfl
            |some _=>rw[ha]at hn;simp at hn
        ·cases h5
       obtain⟨b,o,spt⟩:=a;simp only at RF;subst RF;have key:∀(j:Nat)(c:AV),(xs.flatMap cells)[j]?=some c→∃V,w.cell? ⟨b,o+j,none⟩=some V∧VR F w (cc.mt (xh w)) c V:=by intro j c hj;obtain⟨i,k,x,rfl,hk,RM,hck⟩:=anE hc xs j c hj;obtain⟨_,ci,h2,hv⟩:=hx i x RM;obtain⟨_,h3,h4⟩:=World.cells?_some h2;have h5:=h4 k hk;rw[adr,adr,List.getElem?_eq_getElem (by omega)]at h5;refine⟨ci[k],by rw[←Nat.add_assoc];exact h5,hv.2 k c _ hck (by simp[List.getElem?_eq_getElem (show k<ci.length by omega)])⟩
       unfold aQ;rw[hl];refine .aq .dead len _ b o cap (fun j=>(w.cell? ⟨b,o+j,none⟩).getD undef) trivial hle (fun j c hj=>?_) fun j c hj=>?_
       · obtain⟨V,h1,_⟩:=key j c hj;exact⟨⟨V,h1⟩,by rw[h1];rfl⟩
       · obtain⟨V,h1,h2⟩:=key j c hj;rw[h1];exact h2
def uv(P:Program):Nat→List (TypeId×Nat)→Bool
 |_,[]=>true
 |off,(t,o)::r=>o==off&&uv P (off+P.cellsOf t) r
def rr(P:Program):List (TypeId×Nat)→Nat
 |[]=>0
 |(t,_)::r=>P.cellsOf t+rr P r
def fh(F:eG)(enc:TypeId×Value→H)(P:Program)(w:World)(sp:Nat→Bool)(held:Bool)(n:Nat)(L:List (TypeId×Nat)){α:Type}(cells:α→List AV)(ok:α→Prop):Prop:=
 ∀ m,m≤n→∀(off:Nat)(cs:List Value)(ds:List (DataW H)),uv P off L=true→ds.length=L.length→(∀(i:Nat)(f:TypeId×Nat)(d:DataW H),L[i]?=some f→ds[i]?=some d→(∃ps,DataW.trod enc P w 0 sp held m f.1 ((cs.drop f.2).take (P.cellsOf f.1))=some (d,ps))∧∀q∈d.weights P f.1,q≤reachBytes) →
  ∃x,ok x∧bo F w (cc.mt (xh w)) (cells x) ((cs.drop off).take (rr P L)).toArray∧gm (cells x)≤xY ds
theorem fh.nil{n:Nat}:fh F enc P w sp held n [] (fun _:Unit=>[]) (fun _=>True):=by intro m _ off cs ds _ _ _;exact⟨(),trivial,by simp only[rr,List.take_zero];exact bo.nil,Nat.zero_le _⟩
theorem fh.cons{n:Nat}{t:TypeId}{o:Nat}{L:List (TypeId×Nat)}{α β:Type}{c1:α→List AV}{c2:β→List AV}{o1:α→Prop}{o2:β→Prop}(h1:bY F enc P w sp held n t c1 o1)(h2:fh F enc P w sp held n L c2 o2) :
  fh F enc P w sp held n ((t,o)::L) (fun x:α×β=>c1 x.1++c2 x.2) (fun x=>o1 x.1∧o2 x.2):=by
 intro m hm off cs ds Gp hlen hf;simp only[uv,Bool.and_eq_true,beq_iff_eq]at Gp;obtain⟨rfl,Gp⟩:=Gp
 match ds,hlen with
 |d::r,hlen=>
 obtain⟨⟨ps,hy⟩,hyw⟩:=hf 0 (t,o) d rfl rfl;obtain⟨x,hx,hv,hb⟩:=h1 m hm _ _ _ hy hyw;obtain⟨y,hy2,u9,jv⟩:=h2 m hm _ cs r Gp (by simpa using hlen) fun i f e hi he=>hf (i+1) f e (by simpa using hi) (by simpa using he);refine⟨(x,y),⟨hx,hy2⟩,?_,by simp only[yz,xY];omega⟩;have e:((cs.drop o).take (rr P ((t,o)::L)))=(cs.drop o).take (P.cellsOf t)++(cs.drop (o+P.cellsOf t)).take (rr P L):=by simp only[rr];rw[List.take_add,List.drop_drop]
 rw[e];have:=hv.app u9;simpa using this
theorem bY.struct{n:Nat}{t:TypeId}{fs:Array Field}(ht:P.underlying t=some (.struct fs)){L:List (TypeId×Nat)}(hL:fs.toList.map (fun f=>(f.type,f.offset))=L)(Gp:uv P 0 L=true)(JN:P.cellsOf t=rr P L)
  {α:Type} {cells:α→List AV} {ok:α→Prop} (h:fh F enc P w sp held n L cells ok):bY F enc P w sp held (n+1) t cells ok:=by
 intro fuel hf cs d ps hd Gz;obtain⟨xs,m,rfl,Di,hlen,Lc,mX⟩:=DataW.trod_struct ht hd;obtain ⟨x,hx,hv,hb⟩:=h m (by omega) 0 cs (xs.map (·.1)) Gp (by rw[←hL];simp[Lc]) fun i f dd hf yd=>by rw[←hL,List.getElem?_map]at hf;obtain⟨g,hg,rfl⟩:=Option.map_eq_some_iff.1 hf;rw[List.getElem?_map]at yd;obtain⟨z,hz,rfl⟩:=Option.map_eq_some_iff.1 yd;have h1:=mX i g (by rw[←Array.getElem?_toList];exact hg);rw[hz]at h1;refine⟨⟨z.2,h1⟩,fun q hq=>Gz q ?_⟩;obtain rfl:d=_:=congrArg Prod.fst Di;simp only[DataW.weights,ht];exact DataW.weights_mem_each (j:=i) (t:=g.type) (by rw[List.getElem?_map,hg];rfl) (by rw[List.getElem?_map,hz];rfl) q hq
 obtain rfl:d=_:=congrArg Prod.fst Di;refine⟨x,hx,?_,by simp only[dB];omega⟩;rw[List.drop_zero,←JN,←hlen,List.take_length]at hv;exact hv
theorem bY.map{n:Nat}{t:TypeId}{α β:Type}{c1:α→List AV}{c2:β→List AV}{o1:α→Prop}{o2:β→Prop}(g:α→β)(hc:∀x,c2 (g x)=c1 x)(ho:∀x,o1 x→o2 (g x))(h:bY F enc P w sp held n t c1 o1):bY F enc P w sp held n t c2 o2:=by intro fuel hf cs d ps hd hw;obtain⟨x,hx,hv,hb⟩:=h fuel hf cs d ps hd hw;exact⟨g x,ho x hx,by rw[hc];exact hv,by rw[hc];exact hb⟩
theorem bY.aws{t:TypeId}{α:Type}{cells:α→List AV}{ok:α→Prop}(h:∀n,bY F enc P w sp held n t cells ok){v:Value}{d:DataW H}{ps:List MemPlace}(hd:DataW.Trod enc P w 0 sp held t v d ps)(hw:∀m∈d.weights P t,m≤reachBytes):∃x,ok x∧bo F w (cc.mt (xh w)) (cells x) v.cells∧gm (cells x)≤dB d:=by obtain⟨fuel,hf⟩:=hd;obtain⟨x,hx,hv,hb⟩:=h fuel fuel (Nat.le_refl _) _ _ _ hf hw;exact⟨x,hx,by simpa using hv,hb⟩
end
end Rb

namespace Rb
open Go
mutual
structure aE where
 kind:Int
 size:Int
 packed:Bool
 fields:List aP
 count:Int
 elem:List aE
structure aP where
 name:List UInt8
 type:aE
 bits:Bool
 width:Int
end
mutual
def aE.cells:aE→List AV
 | .mk kind size packed fields count elem=>[.int .i64 kind,.int .i64 size,.bool packed,.aq .dead fields.length (aP.all fields),.int .i64 count,.aq .dead elem.length (aE.all elem)]
def aE.all:List aE→List AV
 |[]=>[]
 |x::r=>aE.cells x++aE.all r
def aP.cells:aP→List AV
 | .mk name type bits width=> .str name::(aE.cells type++[.bool bits,.int .i64 width])
def aP.all:List aP→List AV
 |[]=>[]
 |x::r=>aP.cells x++aP.all r
end
theorem aE.all_eq:∀xs:List aE,aE.all xs=xs.flatMap aE.cells
 |[]=>rfl
 |x::r=>by rw[aE.all,aE.all_eq r,List.flatMap_cons]
theorem aP.all_eq:∀xs:List aP,aP.all xs=xs.flatMap aP.cells
 |[]=>rfl
 |x::r=>by rw[aP.all,aP.all_eq r,List.flatMap_cons]
theorem aE.bf(x:aE):x.cells=[.int .i64 x.kind,.int .i64 x.size,.bool x.packed,aQ aP.cells x.fields,.int .i64 x.count,aQ aE.cells x.elem]:=by cases x;simp only[aE.cells,aE.all_eq,aP.all_eq,aQ]
theorem aP.bf(x:aP):x.cells = .str x.name::(x.type.cells++[.bool x.bits,.int .i64 x.width]):=by cases x;rfl
theorem aE.len(x:aE):x.cells.length=6:=by rw[aE.bf];rfl
theorem aP.len(x:aP):x.cells.length=9:=by rw[aP.bf];simp[aE.len]
def uB(z:Int):Prop:= -9223372036854775808≤z∧z≤9223372036854775807
mutual
def aE.ok:aE→Prop
 | .mk kind size packed fields count elem=>uB kind∧uB size∧fields.length≤maxLen∧aP.i7 fields∧uB count∧elem.length≤maxLen∧aE.i7 elem
def aE.i7:List aE→Prop
 |[]=>True
 |x::r=>aE.ok x∧aE.i7 r
def aP.ok:aP→Prop
 | .mk name type bits width=>name.length≤140737488351232∧aE.ok type∧uB width
def aP.i7:List aP→Prop
 |[]=>True
 |x::r=>aP.ok x∧aP.i7 r
end
theorem aE.iW:∀{xs:List aE},aE.i7 xs↔∀x∈xs,x.ok
 |[]=>by simp[aE.i7]
 |x::r=>by simp[aE.i7,aE.iW (xs:=r)]
theorem aP.iW:∀{xs:List aP},aP.i7 xs↔∀x∈xs,x.ok
 |[]=>by simp[aP.i7]
 |x::r=>by simp[aP.i7,aP.iW (xs:=r)]
section
variable{H:Type}{enc:TypeId×Value→H}{P:Program}{w:World}{sp:Nat→Bool}{held:Bool}{F:eG}
structure agV(P:Program)(ti tb ts tT tF sT sF:TypeId)(fT fF:Array Field):Prop where
 int:P.underlying ti=some (.int .i64)
 bool:P.underlying tb=some .bool
 str:P.underlying ts=some .string
 typ:P.underlying tT=some (.struct fT)
 fld:P.underlying tF=some (.struct fF)
 slT:P.underlying sT=some (.slice tT)
 slF:P.underlying sF=some (.slice tF)
 lT:fT.toList.map (fun f=>(f.type,f.offset))=[(ti,0),(ti,1),(tb,2),(sF,3),(ti,4),(sT,5)]
 lF:fF.toList.map (fun f=>(f.type,f.offset))=[(ts,0),(tT,1),(tb,7),(ti,8)]
 cT:P.cellsOf tT=6
 cF:P.cellsOf tF=9
 c1:∀t∈[ti,tb,ts,sT,sF],P.cellsOf t=1
theorem ann{ti tb ts tT tF sT sF:TypeId}{fT fF:Array Field}(h:agV P ti tb ts tT tF sT sF fT fF):∀n,bY F enc P w sp held n tT aE.cells aE.ok:=by
 have c1:P.cellsOf ti=1:=h.c1 _ (by simp);have c2:P.cellsOf tb=1:=h.c1 _ (by simp);have c3:P.cellsOf ts=1:=h.c1 _ (by simp);have c4:P.cellsOf sT=1:=h.c1 _ (by simp);have c5:P.cellsOf sF=1:=h.c1 _ (by simp);have int:∀n,bY F enc P w sp held n ti (fun z:Int=>[.int .i64 z]) uB:=fun n=>bY.map id (fun _=>rfl) (fun x hx=>by simp only[IntKind.min,IntKind.max,IntKind.signed,IntKind.bits,if_true]at hx;show -9223372036854775808≤x∧x≤9223372036854775807;omega) (bY.int h.int)
 intro n;induction n using Nat.strongRecOn with
 | _ n ih=>
  cases n with
  |zero=>exact bY.zero
  | succ n=>
   have YA:bY F enc P w sp held n tT aE.cells aE.ok:=ih n (by omega);have ihF:bY F enc P w sp held n tF aP.cells aP.ok:=by
    cases n with
    |zero=>exact bY.zero
    | succ n=>
     refine bY.map (fun(x:List UInt8×aE×Bool×Int×Unit)=>(⟨x.1,x.2.1,x.2.2.1,x.2.2.2.1⟩:aP)) (fun x=>?_) (fun x hx=>?_)
      (bY.struct h.fld h.lF (by simp[uv,c1,c2,c3,h.cT]) (by simp[rr,c1,c2,c3,h.cT,h.cF])
        (fh.cons (bY.string h.str) (fh.cons (ih n (by omega)) (fh.cons (bY.bool h.bool) (fh.cons (int n) fh.nil)))))
     ·simp[aP.cells]
     ·exact⟨hx.1,hx.2.1,hx.2.2.2.1⟩
   refine bY.map (fun(x:Int×Int×Bool×List aP×Int×List aE×Unit)=>(⟨x.1,x.2.1,x.2.2.1,x.2.2.2.1,x.2.2.2.2.1,x.2.2.2.2.2.1⟩:aE)) (fun x=>?_) (fun x hx=>?_)
    (bY.struct h.typ h.lT (by simp[uv,c1,c2,c4,c5]) (by simp[rr,c1,c2,c4,c5,h.cT])
      (fh.cons (int n) (fh.cons (int n) (fh.cons (bY.bool h.bool) (fh.cons (bY.mono (bY.slice h.slF h.cF (by decide) aP.len ihF) (Nat.le_succ n)) (fh.cons (int n) (fh.cons (bY.mono (bY.slice h.slT h.cT (by decide) aE.len YA) (Nat.le_succ n)) fh.nil)))))))
   ·rw[aE.bf];rfl
   · obtain⟨h1,h2,_,⟨h3,h4⟩,h5,⟨h6,h7⟩,_⟩:=hx;exact⟨h1,h2,h3,aP.iW.2 h4,h5,h6,aE.iW.2 h7⟩
end
end Rb

namespace Rb
open Go
mutual
structure aF where
 kind:Int
 n:Int
 name:List UInt8
 op:Int
 order:Int
 place:aT
 kids:List aF
structure aT where
 var:List UInt8
 parts:List a_
structure a_ where
 field:List UInt8
 index:List aF
end
mutual
def aF.cells:aF→List AV
 | .mk kind n name op order place kids=> .int .i64 kind :: .int .u64 n :: .str name :: .int .i64 op :: .int .i64 order::(aT.cells place++[.aq .dead kids.length (aF.all kids)])
def aF.all:List aF→List AV
 |[]=>[]
 |x::r=>aF.cells x++aF.all r
def aT.cells:aT→List AV
 | .mk var parts=>[.str var,.aq .dead parts.length (a_.all parts)]
def a_.cells:a_→List AV
 | .mk field index=>[.str field,.aq .dead index.length (aF.all index)]
def a_.all:List a_→List AV
 |[]=>[]
 |x::r=>a_.cells x++a_.all r
end
theorem aF.all_eq:∀xs:List aF,aF.all xs=xs.flatMap aF.cells
 |[]=>rfl
 |x::r=>by rw[aF.all,aF.all_eq r,List.flatMap_cons]
theorem a_.all_eq:∀xs:List a_,a_.all xs=xs.flatMap a_.cells
 |[]=>rfl
 |x::r=>by rw[a_.all,a_.all_eq r,List.flatMap_cons]
theorem aT.bf(x:aT):x.cells=[.str x.var,aQ a_.cells x.parts]:=by cases x;simp only[aT.cells,a_.all_eq,aQ]
theorem a_.bf(x:a_):x.cells=[.str x.field,aQ aF.cells x.index]:=by cases x;simp only[a_.cells,aF.all_eq,aQ]
theorem aF.bf(x:aF):x.cells = .int .i64 x.kind :: .int .u64 x.n :: .str x.name :: .int .i64 x.op :: .int .i64 x.order::(x.place.cells++[aQ aF.cells x.kids]):=by cases x;simp only[aF.cells,aF.all_eq,aQ]
theorem aT.len(x:aT):x.cells.length=2:=by rw[aT.bf];rfl
theorem a_.len(x:a_):x.cells.length=2:=by rw[a_.bf];rfl
theorem aF.len(x:aF):x.cells.length=8:=by rw[aF.bf];simp[aT.len]
def Ax(z:Int):Prop:=0≤z∧z≤18446744073709551615
mutual
def aF.ok:aF→Prop
 | .mk kind n name op order place kids=>uB kind∧Ax n∧name.length≤140737488351232∧uB op∧uB order∧aT.ok place∧kids.length≤maxLen∧aF.i7 kids
def aF.i7:List aF→Prop
 |[]=>True
 |x::r=>aF.ok x∧aF.i7 r
def aT.ok:aT→Prop
 | .mk var parts=>var.length≤140737488351232∧parts.length≤maxLen∧a_.i7 parts
def a_.ok:a_→Prop
 | .mk field index=>field.length≤140737488351232∧index.length≤maxLen∧aF.i7 index
def a_.i7:List a_→Prop
 |[]=>True
 |x::r=>a_.ok x∧a_.i7 r
end
theorem aF.iW:∀{xs:List aF},aF.i7 xs↔∀x∈xs,x.ok
 |[]=>by simp[aF.i7]
 |x::r=>by simp[aF.i7,aF.iW (xs:=r)]
theorem a_.iW:∀{xs:List a_},a_.i7 xs↔∀x∈xs,x.ok
 |[]=>by simp[a_.i7]
 |x::r=>by simp[a_.i7,a_.iW (xs:=r)]
structure aK where
 name:List UInt8
 type:aE
def aK.cells(x:aK):List AV:= .str x.name::x.type.cells
theorem aK.len(x:aK):x.cells.length=7:=by simp[aK.cells,aE.len]
def aK.ok(x:aK):Prop:=x.name.length≤140737488351232∧x.type.ok
section
variable{H:Type}{enc:TypeId×Value→H}{P:Program}{w:World}{sp:Nat→Bool}{held:Bool}{F:eG}
theorem bY.i64{n:Nat}{ti:TypeId}(h:P.underlying ti=some (.int .i64)):bY F enc P w sp held n ti (fun z:Int=>[.int .i64 z]) uB:=bY.map id (fun _=>rfl) (fun x hx=>by simp only[IntKind.min,IntKind.max,IntKind.signed,IntKind.bits,if_true]at hx;show -9223372036854775808≤x∧x≤9223372036854775807;omega) (bY.int h)
theorem bY.u64{n:Nat}{ti:TypeId}(h:P.underlying ti=some (.int .u64)):bY F enc P w sp held n ti (fun z:Int=>[.int .u64 z]) Ax:=bY.map id (fun _=>rfl) (fun x hx=>by simp[IntKind.min,IntKind.max,IntKind.signed,IntKind.bits]at hx;show 0≤x∧x≤18446744073709551615;omega) (bY.int h)
structure VW(P:Program)(ti tu ts tE tL tR sE sR:TypeId)(fE fL fR:Array Field):Prop where
 int:P.underlying ti=some (.int .i64)
 u64:P.underlying tu=some (.int .u64)
 str:P.underlying ts=some .string
 exp:P.underlying tE=some (.struct fE)
 pla:P.underlying tL=some (.struct fL)
 par:P.underlying tR=some (.struct fR)
 slE:P.underlying sE=some (.slice tE)
 slR:P.underlying sR=some (.slice tR)
 lE:fE.toList.map (fun f=>(f.type,f.offset))=[(ti,0),(tu,1),(ts,2),(ti,3),(ti,4),(tL,5),(sE,7)]
 lL:fL.toList.map (fun f=>(f.type,f.offset))=[(ts,0),(sR,1)]
 lR:fR.toList.map (fun f=>(f.type,f.offset))=[(ts,0),(sE,1)]
 cE:P.cellsOf tE=8
 cL:P.cellsOf tL=2
 cR:P.cellsOf tR=2
 c1:∀t∈[ti,tu,ts,sE,sR],P.cellsOf t=1
theorem aas{ti tu ts tE tL tR sE sR:TypeId}{fE fL fR:Array Field}(h:VW P ti tu ts tE tL tR sE sR fE fL fR) :
  ∀n,bY F enc P w sp held n tE aF.cells aF.ok∧bY F enc P w sp held n tL aT.cells aT.ok∧bY F enc P w sp held n tR a_.cells a_.ok:=by
 have c1:P.cellsOf ti=1:=h.c1 _ (by simp);have c2:P.cellsOf tu=1:=h.c1 _ (by simp);have c3:P.cellsOf ts=1:=h.c1 _ (by simp);have c4:P.cellsOf sE=1:=h.c1 _ (by simp);have c5:P.cellsOf sR=1:=h.c1 _ (by simp);intro n;induction n with
 |zero=>exact⟨bY.zero,bY.zero,bY.zero⟩
 | succ n ih=>
  obtain⟨iE,iL,iR⟩:=ih;have kE:=bY.mono (bY.slice h.slE h.cE (by decide) aF.len iE) (Nat.le_succ n);have kR:=bY.mono (bY.slice h.slR h.cR (by decide) a_.len iR) (Nat.le_succ n);refine⟨?_,?_,?_⟩
  · refine bY.map (fun(x:Int×Int×List UInt8×Int×Int×aT×List aF×Unit)=>(⟨x.1,x.2.1,x.2.2.1,x.2.2.2.1,x.2.2.2.2.1,x.2.2.2.2.2.1,x.2.2.2.2.2.2.1⟩:aF)) (fun x=>?_) (fun x hx=>?_)
      (bY.struct h.exp h.lE (by simp[uv,c1,c2,c3,c4,h.cL]) (by simp[rr,c1,c2,c3,c4,h.cL,h.cE])
        (fh.cons (bY.i64 h.int) (fh.cons (bY.u64 h.u64) (fh.cons (bY.string h.str) (fh.cons (bY.i64 h.int) (fh.cons (bY.i64 h.int) (fh.cons iL (fh.cons kE fh.nil))))))))
    ·rw[aF.bf];simp
    · obtain⟨h1,h2,h3,h4,h5,h6,⟨h7,h8⟩,_⟩:=hx;exact⟨h1,h2,h3,h4,h5,h6,h7,aF.iW.2 h8⟩
  · refine bY.map (fun(x:List UInt8×List a_×Unit)=>(⟨x.1,x.2.1⟩:aT)) (fun x=>?_) (fun x hx=>?_)
      (bY.struct h.pla h.lL (by simp[uv,c3,c5]) (by simp[rr,c3,c5,h.cL]) (fh.cons (bY.string h.str) (fh.cons kR fh.nil)))
    ·rw[aT.bf];rfl
    · obtain⟨h1,⟨h2,h3⟩,_⟩:=hx;exact⟨h1,h2,a_.iW.2 h3⟩
  · refine bY.map (fun(x:List UInt8×List aF×Unit)=>(⟨x.1,x.2.1⟩:a_)) (fun x=>?_) (fun x hx=>?_)
      (bY.struct h.par h.lR (by simp[uv,c3,c4]) (by simp[rr,c3,c4,h.cR]) (fh.cons (bY.string h.str) (fh.cons kE fh.nil)))
    ·rw[a_.bf];rfl
    · obtain⟨h1,⟨h2,h3⟩,_⟩:=hx;exact⟨h1,h2,aF.iW.2 h3⟩
end
end Rb
