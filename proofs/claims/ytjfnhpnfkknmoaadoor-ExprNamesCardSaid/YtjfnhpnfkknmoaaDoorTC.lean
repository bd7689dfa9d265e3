/- Parts of the texts that the claim's proof needs: functions of the program as the evaluator reads them, and what they come to. Conditions: those that its theorems state. -/
import Derived.Test.YtjfnhpnfkknmoaaDoorTB
import Derived.Test.YtjfnhpnfkknmoaaDoorProg
import Derived.Laws.RangeAny

section
set_option linter.unusedVariables false
set_option maxRecDepth 100000
namespace Go.Proofs.YtjfnhpnfkknmoaaDoor
open Go.Proofs.Pe
noncomputable def c90x1 : C := (.seq (.regs [⟨some 1,none,.bsl 1 16 [(.sc (.string (ByteArray.mk #[])))] [(0,(.lit (.sc (.string (ByteArray.mk #[118,97,114]))))),(1,(.lit (.sc (.string (ByteArray.mk #[115,116,97,99,107]))))),(2,(.lit (.sc (.string (ByteArray.mk #[112,114,111,99]))))),(3,(.lit (.sc (.string (ByteArray.mk #[115,107,105,112]))))),(4,(.lit (.sc (.string (ByteArray.mk #[100,111]))))),(5,(.lit (.sc (.string (ByteArray.mk #[112,117,115,104]))))),(6,(.lit (.sc (.string (ByteArray.mk #[114,101,118,101,114,115,101]))))),(7,(.lit (.sc (.string (ByteArray.mk #[97,99,99,101,112,116]))))),(8,(.lit (.sc (.string (ByteArray.mk #[109,101,114,103,101]))))),(9,(.lit (.sc (.string (ByteArray.mk #[98,108,111,99,107]))))),(10,(.lit (.sc (.string (ByteArray.mk #[101,120,105,116]))))),(11,(.lit (.sc (.string (ByteArray.mk #[105,102]))))),(12,(.lit (.sc (.string (ByteArray.mk #[101,108,115,101]))))),(13,(.lit (.sc (.string (ByteArray.mk #[99,104,111,111,115,101]))))),(14,(.lit (.sc (.string (ByteArray.mk #[112,97,114]))))),(15,(.lit (.sc (.string (ByteArray.mk #[99,97,108,108])))))]⟩,⟨some 0,none,.mv (.tmp 1)⟩]) .ret)
noncomputable def c90 : CF := ⟨2,[(.tmp 0)],(.seq (.regs [⟨some 0,none,.mv (.lit (.sc (.slice none 0 0)))⟩]) c90x1)⟩
noncomputable def c91x1 : C := (.seq (.regs [⟨some 3,none,.mv (.tmp 0)⟩,⟨some 4,none,.bin .geq (.tmp 3) (.lit (.sc (.int .u8 48)))⟩,⟨some 5,none,.mv (.tmp 4)⟩,⟨some 6,some (5,true),.mv (.tmp 0)⟩,⟨some 7,some (5,true),.bin .leq (.tmp 6) (.lit (.sc (.int .u8 57)))⟩,⟨some 8,none,.pick (.tmp 5) (.tmp 7) (.lit (.sc (.bool false)))⟩,⟨some 2,none,.mv (.tmp 8)⟩]) .ret)
noncomputable def c91 : CF := ⟨9,[(.tmp 2)],(.seq (.regs [⟨some 2,none,.mv (.lit (.sc (.bool false)))⟩]) c91x1)⟩
noncomputable def c97x50 : C := (.seq (.regs [⟨some 171,none,.mv (.tmp 13)⟩,⟨some 6,none,.mv (.tmp 171)⟩,⟨some 7,none,.mv (.lit (.sc .nilIface))⟩]) .ret)
noncomputable def c97x49 : C := (.cond (.tmp 169) (.seq (.regs [⟨some 170,none,.bad⟩,⟨some 6,none,.mv (.lit (.sc (.int .u64 0)))⟩,⟨some 7,none,.mv (.tmp 170)⟩]) .ret) .skip)
noncomputable def c97x48 : C := (.seq (.seq (.regs [⟨some 164,none,.mv (.tmp 12)⟩,⟨some 165,none,.mv (.tmp 164)⟩,⟨some 166,some (165,true),.mv (.tmp 9)⟩,⟨some 167,some (165,true),.call (.lit (.fn (.func 103) [] [])) [(.tmp 166)]⟩,⟨some 168,some (165,true),.noT (.tmp 167)⟩,⟨some 169,none,.pick (.tmp 165) (.tmp 168) (.lit (.sc (.bool false)))⟩]) c97x49) c97x50)
noncomputable def c97x47 : C := (.regs [⟨some 163,none,.bin .add (.tmp 101) (.lit (.sc (.int .i64 1)))⟩,⟨some 101,none,.mv (.tmp 163)⟩])
noncomputable def c97x46 : C := (.regs [⟨some 162,none,.mv (.tmp 17)⟩,⟨some 13,none,.mv (.tmp 162)⟩])
noncomputable def c97x45 : C := (.cond (.tmp 159) (.seq (.regs [⟨some 160,none,.mv (.tmp 11)⟩,⟨some 161,none,.bad⟩,⟨some 6,none,.mv (.tmp 160)⟩,⟨some 7,none,.mv (.tmp 161)⟩]) .ret) .skip)
noncomputable def c97x44 : C := (.seq (.seq (.regs [⟨some 152,none,.mv (.tmp 17)⟩,⟨some 153,none,.mv (.tmp 13)⟩,⟨some 154,none,.bin .lss (.tmp 152) (.tmp 153)⟩,⟨some 155,none,.mv (.tmp 154)⟩,⟨some 156,some (155,false),.mv (.tmp 17)⟩,⟨some 157,some (155,false),.mv (.tmp 11)⟩,⟨some 158,some (155,false),.bin .gtr (.tmp 156) (.tmp 157)⟩,⟨some 159,none,.pick (.tmp 155) (.lit (.sc (.bool true))) (.tmp 158)⟩]) c97x45) c97x46)
noncomputable def c97x43 : C := (.seq (.regs [⟨some 148,none,.mv (.tmp 13)⟩,⟨some 149,none,.mv (.tmp 16)⟩,⟨some 150,none,.cvi .u64 (.tmp 149)⟩,⟨some 151,none,.bin .add (.tmp 148) (.tmp 150)⟩,⟨some 17,none,.mv (.tmp 151)⟩]) c97x44)
noncomputable def c97x42 : C := (.seq (.regs [⟨some 144,none,.mv (.tmp 13)⟩,⟨some 145,none,.mv (.tmp 1)⟩,⟨some 146,none,.cvi .u64 (.tmp 145)⟩,⟨some 147,none,.bin .mul (.tmp 144) (.tmp 146)⟩,⟨some 13,none,.mv (.tmp 147)⟩]) c97x43)
noncomputable def c97x41 : C := (.cond (.tmp 141) (.seq (.regs [⟨some 142,none,.mv (.tmp 11)⟩,⟨some 143,none,.bad⟩,⟨some 6,none,.mv (.tmp 142)⟩,⟨some 7,none,.mv (.tmp 143)⟩]) .ret) .skip)
noncomputable def c97x40 : C := (.seq (.seq (.regs [⟨some 139,none,.mv (.tmp 13)⟩,⟨some 140,none,.mv (.tmp 10)⟩,⟨some 141,none,.bin .geq (.tmp 139) (.tmp 140)⟩]) c97x41) c97x42)
noncomputable def c97x39 : C := (.cond (.tmp 137) (.seq (.regs [⟨some 138,none,.bad⟩,⟨some 6,none,.mv (.lit (.sc (.int .u64 0)))⟩,⟨some 7,none,.mv (.tmp 138)⟩]) .ret) .skip)
noncomputable def c97x38 : C := (.seq (.seq (.regs [⟨some 134,none,.mv (.tmp 16)⟩,⟨some 135,none,.mv (.tmp 1)⟩,⟨some 136,none,.cvi .u8 (.tmp 135)⟩,⟨some 137,none,.bin .geq (.tmp 134) (.tmp 136)⟩]) c97x39) c97x40)
noncomputable def c97x37 : C := (.cond (.tmp 121) (.regs [⟨some 130,none,.mv (.tmp 15)⟩,⟨some 131,none,.call (.lit (.fn (.func 102) [] [])) [(.tmp 130)]⟩,⟨some 132,none,.bin .sub (.tmp 131) (.lit (.sc (.int .u8 97)))⟩,⟨some 133,none,.bin .add (.tmp 132) (.lit (.sc (.int .u8 10)))⟩,⟨some 16,none,.mv (.tmp 133)⟩]) (.seq (.regs [⟨some 105,none,.bad⟩,⟨some 6,none,.mv (.lit (.sc (.int .u64 0)))⟩,⟨some 7,none,.mv (.tmp 105)⟩]) .ret))
noncomputable def c97x36 : C := (.cond (.tmp 112) (.regs [⟨some 119,none,.mv (.tmp 15)⟩,⟨some 120,none,.bin .sub (.tmp 119) (.lit (.sc (.int .u8 48)))⟩,⟨some 16,none,.mv (.tmp 120)⟩]) (.seq (.regs [⟨some 122,none,.mv (.tmp 15)⟩,⟨some 123,none,.call (.lit (.fn (.func 102) [] [])) [(.tmp 122)]⟩,⟨some 124,none,.bin .leq (.lit (.sc (.int .u8 97))) (.tmp 123)⟩,⟨some 125,none,.mv (.tmp 124)⟩,⟨some 126,some (125,true),.mv (.tmp 15)⟩,⟨some 127,some (125,true),.call (.lit (.fn (.func 102) [] [])) [(.tmp 126)]⟩,⟨some 128,some (125,true),.bin .leq (.tmp 127) (.lit (.sc (.int .u8 122)))⟩,⟨some 129,none,.pick (.tmp 125) (.tmp 128) (.lit (.sc (.bool false)))⟩,⟨some 121,none,.mv (.tmp 129)⟩]) c97x37))
noncomputable def c97x35 : C := (.cond (.tmp 106) (.seq (.regs [⟨some 12,none,.mv (.lit (.sc (.bool true)))⟩]) (.exit 4)) (.seq (.regs [⟨some 113,none,.mv (.tmp 15)⟩,⟨some 114,none,.bin .leq (.lit (.sc (.int .u8 48))) (.tmp 113)⟩,⟨some 115,none,.mv (.tmp 114)⟩,⟨some 116,some (115,true),.mv (.tmp 15)⟩,⟨some 117,some (115,true),.bin .leq (.tmp 116) (.lit (.sc (.int .u8 57)))⟩,⟨some 118,none,.pick (.tmp 115) (.tmp 117) (.lit (.sc (.bool false)))⟩,⟨some 112,none,.mv (.tmp 118)⟩]) c97x36))
noncomputable def c97x34 : C := (.seq (.block 5 (.seq (.regs [⟨some 107,none,.mv (.tmp 15)⟩,⟨some 108,none,.bin .eql (.tmp 107) (.lit (.sc (.int .u8 95)))⟩,⟨some 109,none,.mv (.tmp 108)⟩,⟨some 110,some (109,true),.mv (.tmp 8)⟩,⟨some 111,none,.pick (.tmp 109) (.tmp 110) (.lit (.sc (.bool false)))⟩,⟨some 106,none,.mv (.tmp 111)⟩]) c97x35)) c97x38)
noncomputable def c97x33 : C := (.seq (.regs [⟨some 16,none,.mv (.lit (.sc (.int .u8 0)))⟩]) c97x34)
noncomputable def c97x32 : C := (.seq (.block 4 (.seq (.regs [⟨some 103,none,.iad (.tmp 99) (.tmp 101) 1⟩,⟨some 104,none,.load (.tmp 103) false 1⟩,⟨some 15,none,.mv (.tmp 104)⟩]) c97x33)) c97x47)
noncomputable def c97x31 : C := (.seq (.cond (.tmp 102) .skip (.exit 3)) c97x32)
noncomputable def c97x30 : C := (.seq (.regs [⟨some 102,none,.bin .lss (.tmp 101) (.tmp 100)⟩]) c97x31)
noncomputable def c97x29 : C := (.block 3 (.loop (.kill [0,2,3,4,5,6,7,14,15,16,17,18,19,20,21,22,23,24,25,26,27,28,29,30,31,32,33,34,35,36,37,38,39,40,41,42,43,44,45,46,47,48,49,50,51,52,53,54,55,56,57,58,59,60,61,62,63,64,65,66,67,68,69,70,71,72,73,74,75,76,77,78,79,80,81,82,83,84,85,86,87,88,89,90,91,92,93,94,95,96,97,98,102,103,104,105,106,107,108,109,110,111,112,113,114,115,116,117,118,119,120,121,122,123,124,125,126,127,128,129,130,131,132,133,134,135,136,137,138,139,140,141,142,143,144,145,146,147,148,149,150,151,152,153,154,155,156,157,158,159,160,161,162,163,164,165,166,167,168,169,170,171] c97x30)))
noncomputable def c97x28 : C := (.seq (.seq (.regs [⟨some 98,none,.mv (.tmp 0)⟩,⟨some 99,none,.s2b (.tmp 98)⟩,⟨some 100,none,.len (.tmp 99)⟩,⟨some 101,none,.mv (.lit (.sc (.int .i64 0)))⟩]) c97x29) c97x48)
noncomputable def c97x27 : C := (.seq (.regs [⟨some 13,none,.mv (.lit (.sc (.int .u64 0)))⟩]) c97x28)
noncomputable def c97x26 : C := (.seq (.regs [⟨some 12,none,.mv (.lit (.sc (.bool false)))⟩]) c97x27)
noncomputable def c97x25 : C := (.seq (.regs [⟨some 94, none, (.mv (.tmp 2))⟩, ⟨some 95, none, (.cvi .u64 (.tmp 94))⟩, ⟨some 96, none, (.sca ⟨some 96, (.binOp .shl 109 (.const (.int .u64 1)) (.tmp 95) 123), 109, "atoi.go:104", #[⟨1, .data⟩], none⟩)⟩, ⟨some 97, none, (.bin .sub (.tmp 96) (.lit (.sc (.int .u64 1))))⟩, ⟨some 11, none, (.mv (.tmp 97))⟩]) c97x26)
noncomputable def c97x24 : C := (.cond (.tmp 92) (.regs [⟨some 10,none,.mv (.lit (.sc (.int .u64 1152921504606846976)))⟩]) (.regs [⟨some 86,none,.mv (.tmp 1)⟩,⟨some 87,none,.cvi .u64 (.tmp 86)⟩,⟨some 88,none,.bin .quo (.lit (.sc (.int .u64 18446744073709551615))) (.tmp 87)⟩,⟨some 89,none,.bin .add (.tmp 88) (.lit (.sc (.int .u64 1)))⟩,⟨some 10,none,.mv (.tmp 89)⟩]))
noncomputable def c97x23 : C := (.cond (.tmp 90) (.regs [⟨some 10,none,.mv (.lit (.sc (.int .u64 1844674407370955162)))⟩]) (.seq (.regs [⟨some 93,none,.bin .eql (.tmp 85) (.lit (.sc (.int .i64 16)))⟩,⟨some 92,none,.mv (.tmp 93)⟩]) c97x24))
noncomputable def c97x22 : C := (.block 2 (.seq (.regs [⟨some 91,none,.bin .eql (.tmp 85) (.lit (.sc (.int .i64 10)))⟩,⟨some 90,none,.mv (.tmp 91)⟩]) c97x23))
noncomputable def c97x21 : C := (.seq (.seq (.regs [⟨some 85,none,.mv (.tmp 1)⟩]) c97x22) c97x25)
noncomputable def c97x20 : C := (.seq (.regs [⟨some 10,none,.mv (.lit (.sc (.int .u64 0)))⟩]) c97x21)
noncomputable def c97x19 : C := (.cond (.tmp 83) (.seq (.regs [⟨some 84,none,.bad⟩,⟨some 6,none,.mv (.lit (.sc (.int .u64 0)))⟩,⟨some 7,none,.mv (.tmp 84)⟩]) .ret) .skip)
noncomputable def c97x18 : C := (.cond (.tmp 77) (.regs [⟨some 2,none,.mv (.lit (.sc (.int .i64 64)))⟩]) (.seq (.regs [⟨some 78,none,.mv (.tmp 2)⟩,⟨some 79,none,.bin .lss (.tmp 78) (.lit (.sc (.int .i64 0)))⟩,⟨some 80,none,.mv (.tmp 79)⟩,⟨some 81,some (80,false),.mv (.tmp 2)⟩,⟨some 82,some (80,false),.bin .gtr (.tmp 81) (.lit (.sc (.int .i64 64)))⟩,⟨some 83,none,.pick (.tmp 80) (.lit (.sc (.bool true))) (.tmp 82)⟩]) c97x19))
noncomputable def c97x17 : C := (.seq (.seq (.regs [⟨some 76,none,.mv (.tmp 2)⟩,⟨some 77,none,.bin .eql (.tmp 76) (.lit (.sc (.int .i64 0)))⟩]) c97x18) c97x20)
noncomputable def c97x16 : C := (.regs [⟨some 38,none,.mv (.tmp 0)⟩,⟨some 39,none,.ssl (.tmp 38) (some (.lit (.sc (.int .i64 1)))) none⟩,⟨some 0,none,.mv (.tmp 39)⟩])
noncomputable def c97x15 : C := (.regs [⟨some 74,none,.mv (.tmp 0)⟩,⟨some 75,none,.ssl (.tmp 74) (some (.lit (.sc (.int .i64 2)))) none⟩,⟨some 0,none,.mv (.tmp 75)⟩])
noncomputable def c97x14 : C := (.cond (.tmp 64) (.seq (.regs [⟨some 1,none,.mv (.lit (.sc (.int .i64 16)))⟩]) c97x15) (.seq (.regs [⟨some 1,none,.mv (.lit (.sc (.int .i64 8)))⟩]) c97x16))
noncomputable def c97x13 : C := (.regs [⟨some 62,none,.mv (.tmp 0)⟩,⟨some 63,none,.ssl (.tmp 62) (some (.lit (.sc (.int .i64 2)))) none⟩,⟨some 0,none,.mv (.tmp 63)⟩])
noncomputable def c97x12 : C := (.cond (.tmp 52) (.seq (.regs [⟨some 1,none,.mv (.lit (.sc (.int .i64 8)))⟩]) c97x13) (.seq (.regs [⟨some 65,none,.mv (.tmp 0)⟩,⟨some 66,none,.slen (.tmp 65)⟩,⟨some 67,none,.bin .geq (.tmp 66) (.lit (.sc (.int .i64 3)))⟩,⟨some 68,none,.mv (.tmp 67)⟩,⟨some 69,some (68,true),.mv (.tmp 0)⟩,⟨some 70,some (68,true),.sidx (.tmp 69) (.lit (.sc (.int .i64 1)))⟩,⟨some 71,some (68,true),.call (.lit (.fn (.func 102) [] [])) [(.tmp 70)]⟩,⟨some 72,some (68,true),.bin .eql (.tmp 71) (.lit (.sc (.int .u8 120)))⟩,⟨some 73,none,.pick (.tmp 68) (.tmp 72) (.lit (.sc (.bool false)))⟩,⟨some 64,none,.mv (.tmp 73)⟩]) c97x14))
noncomputable def c97x11 : C := (.regs [⟨some 50,none,.mv (.tmp 0)⟩,⟨some 51,none,.ssl (.tmp 50) (some (.lit (.sc (.int .i64 2)))) none⟩,⟨some 0,none,.mv (.tmp 51)⟩])
noncomputable def c97x10 : C := (.cond (.tmp 40) (.seq (.regs [⟨some 1,none,.mv (.lit (.sc (.int .i64 2)))⟩]) c97x11) (.seq (.regs [⟨some 53,none,.mv (.tmp 0)⟩,⟨some 54,none,.slen (.tmp 53)⟩,⟨some 55,none,.bin .geq (.tmp 54) (.lit (.sc (.int .i64 3)))⟩,⟨some 56,none,.mv (.tmp 55)⟩,⟨some 57,some (56,true),.mv (.tmp 0)⟩,⟨some 58,some (56,true),.sidx (.tmp 57) (.lit (.sc (.int .i64 1)))⟩,⟨some 59,some (56,true),.call (.lit (.fn (.func 102) [] [])) [(.tmp 58)]⟩,⟨some 60,some (56,true),.bin .eql (.tmp 59) (.lit (.sc (.int .u8 111)))⟩,⟨some 61,none,.pick (.tmp 56) (.tmp 60) (.lit (.sc (.bool false)))⟩,⟨some 52,none,.mv (.tmp 61)⟩]) c97x12))
noncomputable def c97x9 : C := (.cond (.tmp 37) (.block 1 (.seq (.regs [⟨some 41,none,.mv (.tmp 0)⟩,⟨some 42,none,.slen (.tmp 41)⟩,⟨some 43,none,.bin .geq (.tmp 42) (.lit (.sc (.int .i64 3)))⟩,⟨some 44,none,.mv (.tmp 43)⟩,⟨some 45,some (44,true),.mv (.tmp 0)⟩,⟨some 46,some (44,true),.sidx (.tmp 45) (.lit (.sc (.int .i64 1)))⟩,⟨some 47,some (44,true),.call (.lit (.fn (.func 102) [] [])) [(.tmp 46)]⟩,⟨some 48,some (44,true),.bin .eql (.tmp 47) (.lit (.sc (.int .u8 98)))⟩,⟨some 49,none,.pick (.tmp 44) (.tmp 48) (.lit (.sc (.bool false)))⟩,⟨some 40,none,.mv (.tmp 49)⟩]) c97x10)) .skip)
noncomputable def c97x8 : C := (.seq (.regs [⟨some 35,none,.mv (.tmp 0)⟩,⟨some 36,none,.sidx (.tmp 35) (.lit (.sc (.int .i64 0)))⟩,⟨some 37,none,.bin .eql (.tmp 36) (.lit (.sc (.int .u8 48)))⟩]) c97x9)
noncomputable def c97x7 : C := (.cond (.tmp 32) (.seq (.regs [⟨some 1,none,.mv (.lit (.sc (.int .i64 10)))⟩]) c97x8) (.seq (.regs [⟨some 24,none,.bad⟩,⟨some 6,none,.mv (.lit (.sc (.int .u64 0)))⟩,⟨some 7,none,.mv (.tmp 24)⟩]) .ret))
noncomputable def c97x6 : C := (.cond (.tmp 25) .skip (.seq (.regs [⟨some 33,none,.mv (.tmp 1)⟩,⟨some 34,none,.bin .eql (.tmp 33) (.lit (.sc (.int .i64 0)))⟩,⟨some 32,none,.mv (.tmp 34)⟩]) c97x7))
noncomputable def c97x5 : C := (.seq (.block 0 (.seq (.regs [⟨some 26,none,.mv (.tmp 1)⟩,⟨some 27,none,.bin .leq (.lit (.sc (.int .i64 2))) (.tmp 26)⟩,⟨some 28,none,.mv (.tmp 27)⟩,⟨some 29,some (28,true),.mv (.tmp 1)⟩,⟨some 30,some (28,true),.bin .leq (.tmp 29) (.lit (.sc (.int .i64 36)))⟩,⟨some 31,none,.pick (.tmp 28) (.tmp 30) (.lit (.sc (.bool false)))⟩,⟨some 25,none,.mv (.tmp 31)⟩]) c97x6)) c97x17)
noncomputable def c97x4 : C := (.seq (.regs [⟨some 23,none,.mv (.tmp 0)⟩,⟨some 9,none,.mv (.tmp 23)⟩]) c97x5)
noncomputable def c97x3 : C := (.seq (.regs [⟨some 21,none,.mv (.tmp 1)⟩,⟨some 22,none,.bin .eql (.tmp 21) (.lit (.sc (.int .i64 0)))⟩,⟨some 8,none,.mv (.tmp 22)⟩]) c97x4)
noncomputable def c97x2 : C := (.cond (.tmp 19) (.seq (.regs [⟨some 20,none,.bad⟩,⟨some 6,none,.mv (.lit (.sc (.int .u64 0)))⟩,⟨some 7,none,.mv (.tmp 20)⟩]) .ret) .skip)
noncomputable def c97x1 : C := (.seq (.seq (.regs [⟨some 18,none,.mv (.tmp 0)⟩,⟨some 19,none,.bin .eql (.tmp 18) (.lit (.sc (.string (ByteArray.mk #[]))))⟩]) c97x2) c97x3)
noncomputable def c97 : CF := ⟨172,[(.tmp 6),(.tmp 7)],(.seq (.regs [⟨some 6,none,.mv (.lit (.sc (.int .u64 0)))⟩,⟨some 7,none,.mv (.lit (.sc .nilIface))⟩]) c97x1)⟩
noncomputable def c98x5 : C := (.seq (.regs [⟨some 13, none, (.mv (.tmp 3))⟩, ⟨some 14, none, (.iad (.tmp 13) (.lit (.sc (.int .i64 0))) 1)⟩, ⟨some 15, none, (.mv (.tmp 3))⟩, ⟨some 16, none, (.len (.tmp 15))⟩, ⟨some 17, none, (.sca ⟨some 17, (.call ⟨(.builtin .unsafeString), #[(.tmp 14), (.tmp 16)], #[133, 3]⟩), 9, "strings.go:121", #[⟨1, .data⟩, ⟨3, .data⟩], none⟩)⟩, ⟨some 2, none, (.mv (.tmp 17))⟩]) .ret)
noncomputable def c98x4 : C := (.seq (.regs [⟨some 10, none, (.mv (.tmp 3))⟩, ⟨some 11, none, (.mv (.tmp 0))⟩, ⟨some 12, none, (.sca ⟨some 12, (.call ⟨(.builtin .copy), #[(.tmp 10), (.tmp 11)], #[93, 9]⟩), 3, "strings.go:120", #[⟨0, .data⟩, ⟨1, .data⟩], none⟩)⟩]) c98x5)
noncomputable def c98x3 : C := (.seq (.regs [⟨some 7,none,.mv (.tmp 0)⟩,⟨some 8,none,.slen (.tmp 7)⟩,⟨some 9,none,.msl (.tmp 8) (.tmp 8) 1 1 (.sc (.int .u8 0))⟩,⟨some 3,none,.mv (.tmp 9)⟩]) c98x4)
noncomputable def c98x2 : C := (.cond (.tmp 6) (.seq (.regs [⟨some 2,none,.mv (.lit (.sc (.string (ByteArray.mk #[]))))⟩]) .ret) .skip)
noncomputable def c98x1 : C := (.seq (.seq (.regs [⟨some 4,none,.mv (.tmp 0)⟩,⟨some 5,none,.slen (.tmp 4)⟩,⟨some 6,none,.bin .eql (.tmp 5) (.lit (.sc (.int .i64 0)))⟩]) c98x2) c98x3)
noncomputable def c98 : CF := ⟨18,[(.tmp 2)],(.seq (.regs [⟨some 2,none,.mv (.lit (.sc (.string (ByteArray.mk #[]))))⟩]) c98x1)⟩
noncomputable def c99x1 : C := (.seq (.regs [⟨some 3,none,.mv (.tmp 0)⟩,⟨some 4,none,.bld [(.sc (.string (ByteArray.mk #[])))] [(0,(1,(.tmp 3)))]⟩,⟨some 5,none,.box (.tmp 4)⟩,⟨some 6,none,.bad⟩,⟨some 2,none,.mv (.tmp 6)⟩]) .ret)
noncomputable def c99 : CF := ⟨7,[(.tmp 2)],(.seq (.regs [⟨some 2,none,.mv (.lit (.sc .nilIface))⟩]) c99x1)⟩
end Go.Proofs.YtjfnhpnfkknmoaaDoor
end

section
set_option linter.unusedVariables false
set_option maxRecDepth 100000
namespace Go.Proofs.YtjfnhpnfkknmoaaDoor
open Go.Proofs.Pe
noncomputable def mds : List (Nat × Nat) := [(13,0),(14,0),(15,0),(16,0),(17,0),(18,0),(19,0),(20,0),(21,0),(22,0),(23,0),(24,0),(25,0),(26,0),(27,0),(28,0),(29,0),(30,0),(31,0),(32,0),(33,0),(34,0),(36,0),(37,0),(38,0),(39,0),(40,0),(41,0),(42,0),(43,0),(44,0),(45,0),(46,0),(47,0),(48,0),(49,0),(50,0),(52,0),(53,0),(54,0),(55,0),(56,0),(57,0),(60,0),(61,0),(62,0),(63,0),(66,0),(68,0),(69,0),(75,0),(76,0),(77,0),(78,0),(79,0),(80,0),(81,0),(82,0),(83,0),(84,0),(85,0),(86,0),(87,0),(88,0),(89,0),(90,0),(91,0),(92,0),(93,0),(94,0),(95,0),(96,0),(97,0),(98,0),(99,0),(1000001,7),(35,5),(58,5),(67,5),(70,5),(71,5),(72,5),(73,5),(59,3),(74,3)]
noncomputable def ans : List (Nat × List (Nat × List Nat)) := [(5,[(0,[0,2,3,4,9,10,11,12,13,14,15,16,17,18,19,20,21,22,23,24,25,26,27,28,29,30,31,32,33,34,35,36,37,38,39,40,41,42,43,44,45,46,47,48,49,50,51,52,53,54,55,56,57,58,59,60,61,62,63,64,65,66,67,68,69,70,71,72,73,74,75,76,77,78,79,80])]),
  (8,[(0,[4,5,6,7,8,11,12,13,14,15,16,17,18,19,20,21,22,23,24,25,26,27,28,29,30,31,32,33,34,35,36,37,38,39,40,41,42,43,44,45,46,47,48,49,50,51,52,53,54,55,56,57,58,59,60,61,62,63,64,65,66,67,68,69,70,71,72,73,74,75,76,77,78,79,80,81,82,83,84,85,86,87,88,89,90,91,92,93,94,95,96,97,98,99,100,101,102,103]),(1000000,[1])]),
  (10,[(0,[0,1,2,5,6,9,10,11,12,13,14,15,16,17,18,19,20,21,22,23,24,25,26,27,28,29,30,31,32,33,34,35,36,37,38,39,40,41,42,43,44,45,46,47,48,49,50,51,52,53,54,55,56,57,58,59,60,61,62,63,64,65,66,67,68,69,70]),(2,[0,1,2,5,6,11,12,13,14,15,16,17,18,19,20,21,22,23,24,25,26,27,28,29,30,31,32,33,34,35,36,37,38,39,40,41,42,43,44,45,46,47,48,49,50,51,52,53,54,55,56,57,58,59,60,61,62,63,64,65,66,67,68,69,70])]),
  (11,[(0,[0,2,3,4,8,9,10,11,12,13,14,15,16,17,18,19,20,21,22,23,24,25,26,27,28,29,30,31,32,33,34,35,36,37,38,39,40,41,42,43,44,45,46,47,48,49,50,51,52,53,54,55,56,57,58,59,60]),(1000000,[1])]),
  (15,[(0,[1,2,3,4,7,8,9,10,11,12,13,14,15,16,17,18,19,20,21,22,23,24,25,26,27,28,29,30,31,32,33,34,35,36,37,38,39])]),
  (25,[(0,[0,1,4,6,7,8,9,10,11,12,13,14,15,16,17,18,19,20,21,22,23,24,25,26,27,28,29,30,31,32,33,34,35,36,37,38,39,40,41,42,43,44,45,46,47,48,49,50,51,52])]),
  (26,[(0,[2,3,4,6,7,8,9,10,11,12,13,14,15,16,17,18,19,20,21,22,23,24,25])]),
  (28,[(0,[0,2,5,6,7,8,9,10,11,12,13,14,15,16,17,18,19,20,21,22,23,24,25,26,27,28,29,30,31,32,33,34,35,36,37,38,39,40,41,42,43,44,45,46,47,48,49,50,51,52,53,54,55,56,57,58,59,60,61]),(2,[0,2,7,8,9,10,11,12,13,14,15,16,17,18,19,20,21,22,23,24,25,26,27,28,29,30,31,32,33,34,35,36,37,38,39,40,41,42,43,44,45,46,47,48,49,50,51,52,53,54,55,56,57,58,59,60,61]),(4,[0,2,9,10,11,12,13,14,15,16,17,18,19,20,21,22,23,24,25,26,27,28,29,30,31,32,33,34,35,36,37,38,39,40,41,42,43,44,45,46,47,48,49,50,51,52,53,54,55,56,57,58,59,60,61])]),
  (30,[(0,[0,3,4,6,7,8,9,10,11,12,13,14,15,16,17,18,19,20,21,22,23,24,25,26,27,28,29])]),
  (32,[(1,[0,3,4,7,8,9,10,11,12,13,14,15,16,17,18,19,20,21,22,23,24,25,26,27,28,29,30,31,32,33,34,35,36,37,38,39,40,41,42,43,44,45,46,47,48,49,50,51,52,53,54,55,56,57,58,59,60,61,62,63,64,65,66,67,68,69,70,71,72,73,74,75,76,77,78,79,80,81,82,83])]),
  (33,[(0,[2,3,4,5,6,7,8,9,10,11,12,13,14,15,16,17,18,19,20,21,22,23,24,25,26,27,28,29,30,31,32,33,34,35,36,37,38,39,40,41,42,43,44,45,46]),(3,[2,3,4,5,6,7,8,9,10,11,12,13,14,15,16,17,18,19,20,21,22,23,24,25,26,27,28,29,30,31,32,33,34,35,36,37,38,39,40,41,42,43,44,45,46])]),
  (34,[(1,[2,3,5,7,8,9,10,11,12,13,14,15,16,17,18,19,20,21,22,23,24,25,26,27,28,29,30,31,32,33,34,35,36,37,38,39,40,41,42,43,44,45,46,47,48,49,50,51,52,53,54,55,56,57,58,59,60,61,62,63,64,65,66,67,68,69,70,71,72,73,74,75,76,77,78,79,80,81,82,83,84,85,86,87,88,89,90,91,92,93,94,95,96,97]),(3,[2,3,5,8,9,10,11,12,13,14,15,16,17,18,19,20,21,22,23,24,25,26,27,28,29,30,31,32,33,34,35,36,37,38,39,40,41,42,43,44,45,46,47,48,49,50,51,52,53,54,55,56,57,58,59,60,61,62,63,64,65,66,67,68,69,70,71,72,73,74,75,76,77,78,79,80,81,82,83,84,85,86,87,88,89,90,91,92,93,94,95,96,97])]),
  (42,[(0,[2,3,4,7,8,9,10,11,12,13,14,15,16,17,18,19,20,21,22,23,24,25,26,27,28,29,30])]),
  (50,[(0,[0,1,2,4,5,6,7,8,9,10,11,12,13,14,15,16,17,18,19,20,21,22,23])]),
  (56,[(0,[2,3,4,6,7,8,9,10,11,12,13,14,15,16,17,18,19,20,21,22,23,24,25,26,27,28,29,30,31,32,33,34,35,36,37]),(2,[2,3,4,5,7,8,9,10,11,12,13,14,15,16,17,18,19,20,21,22,23,24,25,26,27,28,29,30,31,32,33,34,35,36,37])]),
  (59,[(0,[0,1,2,4,7,8,9,10,11,12,13,14,15,16,17,18,19,20,21,22,23,24,25,26,27])]),
  (65,[(0,[0,2,3,4,5,6,7,8,9,10,11,15,16,17,18,19,20,21,22])]),
  (66,[(0,[2,3,4,5,6,9,10,11,12,13,14,15,16,17,18])]),
  (69,[(0,[0,1,2,3,4,5,6,7,8,9,10,11,12,13,14,15,16,17,19,20,21,22,23,24,25,26,27,28,29,30,31,32,33,34,35,36,37,38,39,40])]),
  (76,[(0,[0,1,2,3,4,7,8,9,10,11,12,13,14,15,16,17,18,19,20,21,22,23,24,25,26,27,28,29,30,31,32,33,34,35,36,37,38,39,40,41,42,43,44,45,46,50,51,52,53,54,55,56,57,58,59,60,61,62,63,64,65,66,67,68,69,70,71,72,73,74,75,76])]),
  (97,[(3,[0,2,3,4,5,6,7,14,15,16,17,18,19,20,21,22,23,24,25,26,27,28,29,30,31,32,33,34,35,36,37,38,39,40,41,42,43,44,45,46,47,48,49,50,51,52,53,54,55,56,57,58,59,60,61,62,63,64,65,66,67,68,69,70,71,72,73,74,75,76,77,78,79,80,81,82,83,84,85,86,87,88,89,90,91,92,93,94,95,96,97,98,102,103,104,105,106,107,108,109,110,111,112,113,114,115,116,117,118,119,120,121,122,123,124,125,126,127,128,129,130,131,132,133,134,135,136,137,138,139,140,141,142,143,144,145,146,147,148,149,150,151,152,153,154,155,156,157,158,159,160,161,162,163,164,165,166,167,168,169,170,171])])]
noncomputable def cfs : List (Nat × CF) := [(3,c3),(4,c4),(5,c5),(6,c6),(7,c7),(8,c8),(9,c9),(10,c10),(11,c11),(12,c12),(13,c13),(14,c14),(15,c15),(16,c16),(17,c17),(18,c18),(19,c19),(20,c20),(21,c21),(22,c22),(23,c23),(24,c24),(25,c25),(26,c26),(27,c27),(28,c28),(29,c29),(30,c30),(31,c31),(32,c32),(33,c33),(34,c34),(35,c35),(36,c36),(37,c37),(38,c38),(39,c39),(40,c40),(41,c41),(42,c42),(43,c43),(44,c44),(45,c45),(46,c46),(48,c48),(49,c49),(50,c50),(51,c51),(52,c52),(53,c53),(54,c54),(55,c55),(56,c56),(57,c57),(58,c58),(59,c59),(60,c60),(61,c61),(62,c62),(64,c64),(65,c65),(66,c66),(67,c67),(68,c68),(69,c69),(70,c70),(71,c71),(72,c72),(73,c73),(74,c74),(76,c76),(77,c77),(78,c78),(79,c79),(80,c80),(85,c85),(86,c86),(87,c87),(88,c88),(89,c89),(90,c90),(91,c91),(97,c97),(98,c98),(99,c99)]
noncomputable def T : Tab := { mkTab mds ans cfs with ext := extI 47 }
theorem k3 : compF Tryd.prog T.mode T.an 3 = some c3 := by kernel_rfl
theorem k4 : compF Tryd.prog T.mode T.an 4 = some c4 := by kernel_rfl
theorem k5 : compF Tryd.prog T.mode T.an 5 = some c5 := by kernel_rfl
theorem k6 : compF Tryd.prog T.mode T.an 6 = some c6 := by kernel_rfl
theorem k7 : compF Tryd.prog T.mode T.an 7 = some c7 := by kernel_rfl
theorem k8 : compF Tryd.prog T.mode T.an 8 = some c8 := by kernel_rfl
theorem k9 : compF Tryd.prog T.mode T.an 9 = some c9 := by kernel_rfl
theorem k10 : compF Tryd.prog T.mode T.an 10 = some c10 := by kernel_rfl
theorem k11 : compF Tryd.prog T.mode T.an 11 = some c11 := by kernel_rfl
theorem k12 : compF Tryd.prog T.mode T.an 12 = some c12 := by kernel_rfl
theorem k13 : compF Tryd.prog T.mode T.an 13 = some c13 := by kernel_rfl
theorem k14 : compF Tryd.prog T.mode T.an 14 = some c14 := by kernel_rfl
theorem k15 : compF Tryd.prog T.mode T.an 15 = some c15 := by kernel_rfl
theorem k16 : compF Tryd.prog T.mode T.an 16 = some c16 := by kernel_rfl
theorem k17 : compF Tryd.prog T.mode T.an 17 = some c17 := by kernel_rfl
theorem k18 : compF Tryd.prog T.mode T.an 18 = some c18 := by kernel_rfl
theorem k19 : compF Tryd.prog T.mode T.an 19 = some c19 := by kernel_rfl
theorem k20 : compF Tryd.prog T.mode T.an 20 = some c20 := by kernel_rfl
theorem k21 : compF Tryd.prog T.mode T.an 21 = some c21 := by kernel_rfl
theorem k22 : compF Tryd.prog T.mode T.an 22 = some c22 := by kernel_rfl
theorem k23 : compF Tryd.prog T.mode T.an 23 = some c23 := by kernel_rfl
theorem k24 : compF Tryd.prog T.mode T.an 24 = some c24 := by kernel_rfl
theorem k25 : compF Tryd.prog T.mode T.an 25 = some c25 := by kernel_rfl
theorem k26 : compF Tryd.prog T.mode T.an 26 = some c26 := by kernel_rfl
theorem k27 : compF Tryd.prog T.mode T.an 27 = some c27 := by kernel_rfl
theorem k28 : compF Tryd.prog T.mode T.an 28 = some c28 := by kernel_rfl
theorem k29 : compF Tryd.prog T.mode T.an 29 = some c29 := by kernel_rfl
theorem k30 : compF Tryd.prog T.mode T.an 30 = some c30 := by kernel_rfl
theorem k31 : compF Tryd.prog T.mode T.an 31 = some c31 := by kernel_rfl
theorem k32 : compF Tryd.prog T.mode T.an 32 = some c32 := by kernel_rfl
theorem k33 : compF Tryd.prog T.mode T.an 33 = some c33 := by kernel_rfl
theorem k34 : compF Tryd.prog T.mode T.an 34 = some c34 := by kernel_rfl
theorem k35 : compF Tryd.prog T.mode T.an 35 = some c35 := by kernel_rfl
theorem k36 : compF Tryd.prog T.mode T.an 36 = some c36 := by kernel_rfl
theorem k37 : compF Tryd.prog T.mode T.an 37 = some c37 := by kernel_rfl
theorem k38 : compF Tryd.prog T.mode T.an 38 = some c38 := by kernel_rfl
theorem k39 : compF Tryd.prog T.mode T.an 39 = some c39 := by kernel_rfl
theorem k40 : compF Tryd.prog T.mode T.an 40 = some c40 := by kernel_rfl
theorem k41 : compF Tryd.prog T.mode T.an 41 = some c41 := by kernel_rfl
theorem k42 : compF Tryd.prog T.mode T.an 42 = some c42 := by kernel_rfl
theorem k43 : compF Tryd.prog T.mode T.an 43 = some c43 := by kernel_rfl
theorem k44 : compF Tryd.prog T.mode T.an 44 = some c44 := by kernel_rfl
theorem k45 : compF Tryd.prog T.mode T.an 45 = some c45 := by kernel_rfl
theorem k46 : compF Tryd.prog T.mode T.an 46 = some c46 := by kernel_rfl
theorem k48 : compF Tryd.prog T.mode T.an 48 = some c48 := by kernel_rfl
theorem k49 : compF Tryd.prog T.mode T.an 49 = some c49 := by kernel_rfl
theorem k50 : compF Tryd.prog T.mode T.an 50 = some c50 := by kernel_rfl
theorem k51 : compF Tryd.prog T.mode T.an 51 = some c51 := by kernel_rfl
theorem k52 : compF Tryd.prog T.mode T.an 52 = some c52 := by kernel_rfl
theorem k53 : compF Tryd.prog T.mode T.an 53 = some c53 := by kernel_rfl
theorem k54 : compF Tryd.prog T.mode T.an 54 = some c54 := by kernel_rfl
theorem k55 : compF Tryd.prog T.mode T.an 55 = some c55 := by kernel_rfl
theorem k56 : compF Tryd.prog T.mode T.an 56 = some c56 := by kernel_rfl
theorem k57 : compF Tryd.prog T.mode T.an 57 = some c57 := by kernel_rfl
theorem k58 : compF Tryd.prog T.mode T.an 58 = some c58 := by kernel_rfl
theorem k59 : compF Tryd.prog T.mode T.an 59 = some c59 := by kernel_rfl
theorem k60 : compF Tryd.prog T.mode T.an 60 = some c60 := by kernel_rfl
theorem k61 : compF Tryd.prog T.mode T.an 61 = some c61 := by kernel_rfl
theorem k62 : compF Tryd.prog T.mode T.an 62 = some c62 := by kernel_rfl
theorem k64 : compF Tryd.prog T.mode T.an 64 = some c64 := by kernel_rfl
theorem k65 : compF Tryd.prog T.mode T.an 65 = some c65 := by kernel_rfl
theorem k66 : compF Tryd.prog T.mode T.an 66 = some c66 := by kernel_rfl
theorem k67 : compF Tryd.prog T.mode T.an 67 = some c67 := by kernel_rfl
theorem k68 : compF Tryd.prog T.mode T.an 68 = some c68 := by kernel_rfl
theorem k69 : compF Tryd.prog T.mode T.an 69 = some c69 := by kernel_rfl
theorem k70 : compF Tryd.prog T.mode T.an 70 = some c70 := by kernel_rfl
theorem k71 : compF Tryd.prog T.mode T.an 71 = some c71 := by kernel_rfl
theorem k72 : compF Tryd.prog T.mode T.an 72 = some c72 := by kernel_rfl
theorem k73 : compF Tryd.prog T.mode T.an 73 = some c73 := by kernel_rfl
theorem k74 : compF Tryd.prog T.mode T.an 74 = some c74 := by kernel_rfl
theorem k76 : compF Tryd.prog T.mode T.an 76 = some c76 := by kernel_rfl
theorem k77 : compF Tryd.prog T.mode T.an 77 = some c77 := by kernel_rfl
theorem k78 : compF Tryd.prog T.mode T.an 78 = some c78 := by kernel_rfl
theorem k79 : compF Tryd.prog T.mode T.an 79 = some c79 := by kernel_rfl
theorem k80 : compF Tryd.prog T.mode T.an 80 = some c80 := by kernel_rfl
theorem k85 : compF Tryd.prog T.mode T.an 85 = some c85 := by kernel_rfl
theorem k86 : compF Tryd.prog T.mode T.an 86 = some c86 := by kernel_rfl
theorem k87 : compF Tryd.prog T.mode T.an 87 = some c87 := by kernel_rfl
theorem k88 : compF Tryd.prog T.mode T.an 88 = some c88 := by kernel_rfl
theorem k89 : compF Tryd.prog T.mode T.an 89 = some c89 := by kernel_rfl
theorem k90 : compF Tryd.prog T.mode T.an 90 = some c90 := by kernel_rfl
theorem k91 : compF Tryd.prog T.mode T.an 91 = some c91 := by kernel_rfl
theorem k97 : compF Tryd.prog T.mode T.an 97 = some c97 := by kernel_rfl
theorem k98 : compF Tryd.prog T.mode T.an 98 = some c98 := by kernel_rfl
theorem k99 : compF Tryd.prog T.mode T.an 99 = some c99 := by kernel_rfl
theorem hglob : Tryd.prog.globalNamed "internal/strconv.uint64pow10" = some 0 := by kernel_rfl
theorem xokT : XOk Tryd.prog T := xok (k := 47) rfl ⟨Tryd.f47,Tryd.func47,by kernel_rfl,by decide⟩ (fun w h => by
  obtain ⟨ty,fr,h⟩ := h
  exact tab_of hglob h) (fun n w h0 h1 ht => Any.strconv_Itoa Tryd.laysI n h0 h1 w ht)
theorem tOk : TOk Tryd.prog T := tokX ⟨k3,k4,k5,k6,k7,k8,k9,k10,k11,k12,k13,k14,k15,k16,k17,k18,k19,k20,k21,k22,k23,k24,k25,k26,k27,k28,k29,k30,k31,k32,k33,k34,k35,k36,k37,k38,k39,k40,k41,k42,k43,k44,k45,k46,k48,k49,k50,k51,k52,k53,k54,k55,k56,k57,k58,k59,k60,k61,k62,k64,k65,k66,k67,k68,k69,k70,k71,k72,k73,k74,k76,k77,k78,k79,k80,k85,k86,k87,k88,k89,k90,k91,k97,k98,k99,trivial⟩ xokT
theorem t3 : T.cf 3 = some c3 := rfl
theorem t4 : T.cf 4 = some c4 := rfl
theorem t5 : T.cf 5 = some c5 := rfl
theorem t9 : T.cf 9 = some c9 := rfl
theorem t10 : T.cf 10 = some c10 := rfl
theorem t14 : T.cf 14 = some c14 := rfl
theorem t15 : T.cf 15 = some c15 := rfl
theorem t16 : T.cf 16 = some c16 := rfl
theorem t20 : T.cf 20 = some c20 := rfl
theorem t21 : T.cf 21 = some c21 := rfl
theorem t22 : T.cf 22 = some c22 := rfl
theorem t23 : T.cf 23 = some c23 := rfl
theorem t24 : T.cf 24 = some c24 := rfl
theorem t25 : T.cf 25 = some c25 := rfl
theorem t26 : T.cf 26 = some c26 := rfl
theorem t27 : T.cf 27 = some c27 := rfl
theorem t28 : T.cf 28 = some c28 := rfl
theorem t33 : T.cf 33 = some c33 := rfl
theorem t34 : T.cf 34 = some c34 := rfl
theorem t35 : T.cf 35 = some c35 := rfl
theorem t37 : T.cf 37 = some c37 := rfl
theorem t42 : T.cf 42 = some c42 := rfl
theorem t43 : T.cf 43 = some c43 := rfl
theorem t44 : T.cf 44 = some c44 := rfl
theorem t45 : T.cf 45 = some c45 := rfl
theorem t46 : T.cf 46 = some c46 := rfl
theorem t48 : T.cf 48 = some c48 := rfl
theorem t49 : T.cf 49 = some c49 := rfl
theorem t51 : T.cf 51 = some c51 := rfl
theorem t52 : T.cf 52 = some c52 := rfl
theorem t53 : T.cf 53 = some c53 := rfl
theorem t56 : T.cf 56 = some c56 := rfl
theorem t57 : T.cf 57 = some c57 := rfl
theorem t58 : T.cf 58 = some c58 := rfl
theorem t59 : T.cf 59 = some c59 := rfl
theorem t62 : T.cf 62 = some c62 := rfl
theorem t64 : T.cf 64 = some c64 := rfl
theorem t65 : T.cf 65 = some c65 := rfl
theorem t66 : T.cf 66 = some c66 := rfl
theorem t67 : T.cf 67 = some c67 := rfl
theorem t68 : T.cf 68 = some c68 := rfl
theorem t69 : T.cf 69 = some c69 := rfl
theorem t70 : T.cf 70 = some c70 := rfl
theorem t71 : T.cf 71 = some c71 := rfl
theorem t72 : T.cf 72 = some c72 := rfl
theorem t73 : T.cf 73 = some c73 := rfl
theorem t74 : T.cf 74 = some c74 := rfl
theorem t76 : T.cf 76 = some c76 := rfl
theorem t78 : T.cf 78 = some c78 := rfl
theorem t90 : T.cf 90 = some c90 := rfl
theorem mixed : Tryd.prog.follows .mixedOrders = true := by kernel_rfl
end Go.Proofs.YtjfnhpnfkknmoaaDoor
end

section
set_option linter.unusedVariables false
set_option linter.unusedSimpArgs false
set_option maxRecDepth 100000
set_option maxHeartbeats 4000000
open Go.Proofs.Pe renaming putCells → qC, bslOf → qO, bsaOf → qA, bslS → qS, isUpto → qU, step → qT, intOf → qI, iop → qP, sop → qQ
open List renaming replicate → qR
open Go.Proofs.Pe.V renaming dead → qD
namespace Go.Proofs.YtjfnhpnfkknmoaaDoor
open Go.Proofs.Pe

theorem sm_all : all256 (fun n => evCallB Tryd.prog T 60 noYB 79 [.sc (.int .u8 n)] [] (froB (isBo (isSm (UInt8.ofNat n))))) = true := by kernel_rfl
theorem small_p (c : UInt8) : PFn Tryd.prog T 79 [cV c] fun z => z = bV (isSm c) := by
  have := all256_get sm_all c
  rw [ofNat_toNat] at this
  exact (PFn.ofB 60 this).mono fun z h => isBo_eq h
theorem in_all : all256 (fun n => evCallB Tryd.prog T 60 noYB 80 [.sc (.int .u8 n)] [] (froB (isBo (isIn (UInt8.ofNat n))))) = true := by kernel_rfl
theorem inner_p (c : UInt8) : PFn Tryd.prog T 80 [cV c] fun z => z = bV (isIn c) := by
  have := all256_get in_all c
  rw [ofNat_toNat] at this
  exact (PFn.ofB 60 this).mono fun z h => isBo_eq h
theorem w1_all : all256 (fun n => evCallB Tryd.prog T 60 noYB 55 [.sc (.int .u8 n),.sc (.bool true)] [] (froB (isBo (isSm (UInt8.ofNat n))))) = true := by kernel_rfl
theorem word1_p (c : UInt8) : PFn Tryd.prog T 55 [cV c,bV true] fun z => z = bV (isSm c) := by
  have := all256_get w1_all c
  rw [ofNat_toNat] at this
  exact (PFn.ofB 60 this).mono fun z h => isBo_eq h
theorem w2_all : all256 (fun n => evCallB Tryd.prog T 60 noYB 55 [.sc (.int .u8 n),.sc (.bool false)] [] (froB (isBo (isIn (UInt8.ofNat n))))) = true := by kernel_rfl
theorem word2_p (c : UInt8) : PFn Tryd.prog T 55 [cV c,bV false] fun z => z = bV (isIn c) := by
  have := all256_get w2_all c
  rw [ofNat_toNat] at this
  exact (PFn.ofB 60 this).mono fun z h => isBo_eq h
theorem pcall {f : FuncId} {xs : List V} {y : V} {o : List O} {yi : Nat → Sem'} {K : V → List O → Prop} (h : PFn Tryd.prog T f xs fun z => z = y) (hm : T.mode f = 0) (hx : ∀ x,x ∈ xs → x.free = true) (hK : K y o) :
    evCallV T (Pe.Call Tryd.prog T) yi (.fn (.func f) [] []) xs o K := h.callF hm hx fun z hz => by subst hz; exact hK

theorem rmark_tail {l : List UInt8} {i : Nat} (hi : i < l.length) (hl : l.length ≤ lim) (hnc : dbls.contains ((l.drop i).take 2) = false) {yi : Nat → Sem'} (hy : YLe yi yi) (x5 x7 x8 x9 x10 x11 x12 x13 x14 x15 : V) :
    Pe.ev Tryd.prog T (Pe.Call Tryd.prog T) Lfp c56x8 none yi ⟨⟨[tV l,iV i,.dead,.dead,.dead,x5,.dead,x7,x8,x9,x10,x11,x12,x13,x14,x15,.dead,.dead,.dead,.dead,.dead,.dead,.dead,.dead,.dead,.dead,.dead,.dead,.dead,.dead,.dead,.dead,.dead,.dead,.dead,.dead,.dead,.dead],[]⟩,[]⟩ (endK [Rv.tmp 4] fun y o' => ∃ z o2,freezeT o' y = some (z,o2) ∧ z = iV (markN (l.drop i))) := by
  unfold lim at hl
  have hx : l[i]? = some l[i] := List.getElem?_eq_getElem hi
  have hdr : l.drop i = l[i] :: l.drop (i + 1) := List.drop_eq_getElem_cons hi
  have hm : markN (l.drop i) = if sngs.contains l[i] = true then 1 else 0 := by
    unfold markN
    rw [if_neg (by rw [hnc]; simp),hdr]
  rw [hm]
  generalize l[i] = c at hx
  simp only [c56x8,c56x9,RUA,RUB,RUC,RUD,RUE,RUF,if_true,if_false,Int.reduceEq,Int.reduceLT,Int.reduceLE,qC,qO,qA,qS,qU,Nat.reduceEqDiff,qT,E.at,qR,Nat.reduceAdd,Nat.reduceSub,Nat.reduceLeDiff,Nat.reduceMul,qI,qP,qQ]
  refine Lfp.inv call_le hy (fun k : Nat => ⟨⟨[tV l,iV i,.dead,.dead,.dead,.dead,iV k,.dead,.dead,.dead,.dead,.dead,.dead,.dead,.dead,.dead,.dead,.dead,.dead,.dead,.dead,.dead,.dead,.dead,.dead,.dead,.dead,.dead,.dead,.dead,.dead,.dead,.dead,.dead,.dead,.dead,.dead,.dead],[]⟩,[]⟩) (fun k => 13 - k)
    (fun k => k ≤ 13 ∧ ∀ j,j < k → sngs[j]? ≠ some c) 0 ⟨Nat.zero_le _,fun j h => by omega⟩ (by simp only [kill_L,killTs_nil,RUF] <;> rfl) ?_
  rintro k ⟨hk,hno⟩
  by_cases hlt : k < 13
  · have hd : decide ((k : Int) < 13) = true := by simp; omega
    have hkd : k < sngs.length := hlt
    have hdk : sngs[k]? = some sngs[k] := List.getElem?_eq_getElem hkd
    have hmem : sngs[k] ∈ sngs := List.getElem_mem hkd
    have hw1 : IntKind.i64.wrap ((k : Int) + 1) = ((k + 1 : Nat) : Int) := wrap_succ (by omega)
    generalize sngs[k] = d at hdk hmem
    have hdk2 : ([123,125,40,41,59,43,45,42,47,37,60,62,33] : List UInt8)[k]? = some d := hdk
    by_cases he : c = d
    · subst he
      have hb : ∀ x : Int,decide (x = x) = true := fun x => by simp
      have hc : sngs.contains c = true := by simpa using hmem
      simp only [c56,c56x1,c56x2,c56x3,c56x4,c56x5,c56x6,c56x7,c56x8,c56x9,c56x10,c56x11,c56x12,c56x13,c56x14,c56x15,RUA,RUB,RUC,RUD,RUE,RUF,if_true,if_false,Int.reduceEq,Int.reduceLT,Int.reduceLE,qC,qO,qA,qS,qU,Nat.reduceEqDiff,qT,E.at,qR,Nat.reduceAdd,Nat.reduceSub,Nat.reduceLeDiff,Nat.reduceMul,qI,qP,qQ,hd,hx,hdk2,hb]
      exact ⟨_,_,rfl,by rw [if_pos hc]; rfl⟩
    · have hb : decide ((c.toNat : Int) = (d.toNat : Int)) = false := by
        simp; intro e; exact he (UInt8.toNat_inj.1 (by omega))
      simp only [c56,c56x1,c56x2,c56x3,c56x4,c56x5,c56x6,c56x7,c56x8,c56x9,c56x10,c56x11,c56x12,c56x13,c56x14,c56x15,RUA,RUB,RUC,RUD,RUE,RUF,if_true,if_false,Int.reduceEq,Int.reduceLT,Int.reduceLE,qC,qO,qA,qS,qU,Nat.reduceEqDiff,qT,E.at,qR,Nat.reduceAdd,Nat.reduceSub,Nat.reduceLeDiff,Nat.reduceMul,qI,qP,qQ,hd,hx,hdk2,hb,hw1]
      refine ⟨k + 1,⟨by omega,fun j hj => ?_⟩,by omega,rfl⟩
      by_cases hjk : j = k
      · subst hjk; rw [hdk]; intro e; cases e; exact he rfl
      · exact hno j (by omega)
  · have hd : decide ((k : Int) < 13) = false := by simp; omega
    have hc : sngs.contains c = false := by
      rw [Bool.eq_false_iff]
      intro h
      simp only [List.contains_iff_mem] at h
      obtain ⟨j,hj⟩ := List.getElem?_of_mem h
      have hjl : j < sngs.length := (List.getElem?_eq_some_iff.1 hj).1
      exact hno j (by have : sngs.length = 13 := rfl; omega) hj
    simp only [c56,c56x1,c56x2,c56x3,c56x4,c56x5,c56x6,c56x7,c56x8,c56x9,c56x10,c56x11,c56x12,c56x13,c56x14,c56x15,RUA,RUB,RUC,RUD,RUE,RUF,if_true,if_false,Int.reduceEq,Int.reduceLT,Int.reduceLE,qC,qO,qA,qS,qU,Nat.reduceEqDiff,qT,E.at,qR,Nat.reduceAdd,Nat.reduceSub,Nat.reduceLeDiff,Nat.reduceMul,qI,qP,qQ,hd]
    exact ⟨_,_,rfl,by rw [hc]; rfl⟩
theorem rmark_p {l : List UInt8} {i : Nat} (hi : i < l.length) (hl : l.length ≤ lim) : PFn Tryd.prog T 56 [tV l,iV i] fun z => z = iV (markN (l.drop i)) := by
  have hl' := hl
  unfold lim at hl
  intro yi hy
  refine Call.step hy ?_
  rw [body_eq t56]
  simp only [c56,c56x1,c56x2,RUA,RUB,RUC,RUD,RUE,RUF,if_true,if_false,Int.reduceEq,Int.reduceLT,Int.reduceLE,qC,qO,qA,qS,qU,Nat.reduceEqDiff,qT,E.at,qR,Nat.reduceAdd,Nat.reduceSub,Nat.reduceLeDiff,Nat.reduceMul,qI,qP,qQ]
  refine Lfp.inv call_le hy (fun k : Nat => ⟨⟨[tV l,iV i,.dead,.dead,.dead,iV (2 * k : Nat),.dead,.dead,.dead,.dead,.dead,.dead,.dead,.dead,.dead,.dead,.dead,.dead,.dead,.dead,.dead,.dead,.dead,.dead,.dead,.dead,.dead,.dead,.dead,.dead,.dead,.dead,.dead,.dead,.dead,.dead,.dead,.dead],[]⟩,[]⟩) (fun k => 8 - k)
    (fun k => k ≤ 8 ∧ ∀ j,j < k → dbls[j]? ≠ some ((l.drop i).take 2)) 0 ⟨Nat.zero_le _,fun j h => by omega⟩ (by simp only [kill_L,killTs_nil,RUF] <;> rfl) ?_
  rintro k ⟨hk,hno⟩
  have hw2 : IntKind.i64.wrap ((i : Int) + 2) = ((i + 2 : Nat) : Int) := by rw [wrap_ok (by omega) (by omega)]; omega
  by_cases hlt : k < 8
  · have hd : decide (((2 * k : Nat) : Int) < 16) = true := by simp; omega
    by_cases hle : i + 2 ≤ l.length
    · have hd2 : decide (((i + 2 : Nat) : Int) ≤ (l.length : Int)) = true := by simp; omega
      have hw3 : IntKind.i64.wrap (((2 * k : Nat) : Int) + 2) = ((2 * k + 2 : Nat) : Int) := by rw [wrap_ok (by omega) (by omega)]; omega
      have hkd : k < dbls.length := hlt
      have hdk : dbls[k]? = some dbls[k] := List.getElem?_eq_getElem hkd
      have hf := flat_get k hlt
      have hmem : dbls[k] ∈ dbls := List.getElem_mem hkd
      rw [hdk] at hf
      generalize dbls[k] = d at hdk hf hmem
      have hs1 : ∀ o,sslOf o (.sc (.string (ByteArray.mk #[58,61,45,62,61,61,33,61,60,61,62,61,38,38,124,124]))) (some (iV (2 * k : Nat))) (some (iV (2 * k + 2 : Nat))) = some (tV d,o) := fun o => by
        have := ssl_t (l := flat) (a := 2 * k) (b := 2 * k + 2) (by omega) (by show _ ≤ 16; omega) o
        rw [Option.some.inj hf] at this
        exact this
      have hs2 : ∀ o,sslOf o (tV l) (some (iV i)) (some (iV (i + 2 : Nat))) = some (tV ((l.drop i).take 2),o) := fun o => by
        rw [ssl_t (by omega) hle,List.drop_take]; congr 4; omega
      by_cases he : (l.drop i).take 2 = d
      · have hb : ((l.drop i).take 2 == d) = true := by simpa using he
        have hm : markN (l.drop i) = 2 := by
          unfold markN
          rw [if_pos (by rw [he]; simpa using hmem)]
        simp only [c56,c56x1,c56x2,c56x3,c56x4,c56x5,c56x6,c56x7,c56x8,c56x9,c56x10,c56x11,c56x12,c56x13,c56x14,c56x15,RUA,RUB,RUC,RUD,RUE,RUF,if_true,if_false,Int.reduceEq,Int.reduceLT,Int.reduceLE,qC,qO,qA,qS,qU,Nat.reduceEqDiff,qT,E.at,qR,Nat.reduceAdd,Nat.reduceSub,Nat.reduceLeDiff,Nat.reduceMul,qI,qP,qQ,hd,hd2,hw2,hw3,hs1,hs2,hb]
        exact ⟨_,_,rfl,by rw [hm]; rfl⟩
      · have hb : ((l.drop i).take 2 == d) = false := by simpa using he
        simp only [c56,c56x1,c56x2,c56x3,c56x4,c56x5,c56x6,c56x7,RUA,RUB,RUC,RUD,RUE,RUF,if_true,if_false,Int.reduceEq,Int.reduceLT,Int.reduceLE,qC,qO,qA,qS,qU,Nat.reduceEqDiff,qT,E.at,qR,Nat.reduceAdd,Nat.reduceSub,Nat.reduceLeDiff,Nat.reduceMul,qI,qP,qQ,hd,hd2,hw2,hw3,hs1,hs2,hb]
        refine ⟨k + 1,⟨by omega,fun j hj => ?_⟩,by omega,rfl⟩
        by_cases hjk : j = k
        · subst hjk; rw [hdk]; intro e; cases e; exact he rfl
        · exact hno j (by omega)
    · have hd2 : decide (((i + 2 : Nat) : Int) ≤ (l.length : Int)) = false := by simp; omega
      have hnc : dbls.contains ((l.drop i).take 2) = false := by
        rw [Bool.eq_false_iff]
        intro h
        simp only [List.contains_iff_mem] at h
        have := dbls_two h
        simp at this; omega
      simp only [c56,c56x1,c56x2,c56x3,c56x4,RUA,RUB,RUC,RUD,RUE,RUF,if_true,if_false,Int.reduceEq,Int.reduceLT,Int.reduceLE,qC,qO,qA,qS,qU,Nat.reduceEqDiff,qT,E.at,qR,Nat.reduceAdd,Nat.reduceSub,Nat.reduceLeDiff,Nat.reduceMul,qI,qP,qQ,hd,hd2,hw2]
      exact rmark_tail hi hl' hnc hy _ _ _ _ _ _ _ _ _ _
  · have hd : decide (((2 * k : Nat) : Int) < 16) = false := by simp; omega
    have hnc : dbls.contains ((l.drop i).take 2) = false := by
      rw [Bool.eq_false_iff]
      intro h
      simp only [List.contains_iff_mem] at h
      obtain ⟨j,hj⟩ := List.getElem?_of_mem h
      have hjl : j < dbls.length := (List.getElem?_eq_some_iff.1 hj).1
      exact hno j (by have : dbls.length = 8 := rfl; omega) hj
    simp only [c56,c56x1,c56x2,c56x3,c56x4,RUA,RUB,RUC,RUD,RUE,RUF,if_true,if_false,Int.reduceEq,Int.reduceLT,Int.reduceLE,qC,qO,qA,qS,qU,Nat.reduceEqDiff,qT,E.at,qR,Nat.reduceAdd,Nat.reduceSub,Nat.reduceLeDiff,Nat.reduceMul,qI,qP,qQ,hd]
    exact rmark_tail hi hl' hnc hy _ _ _ _ _ _ _ _ _ _
theorem past_p {l : List UInt8} {i : Nat} (hi : i ≤ l.length) (hl : l.length ≤ lim) : PFn Tryd.prog T 33 [tV l,iV i] fun z => z = iV (i + goneN false (l.drop i) : Nat) := by
  unfold lim at hl
  intro yi hy
  refine Call.step hy ?_
  rw [body_eq t33]
  simp only [c33,c33x1,RUA,RUB,RUC,RUD,RUE,RUF,if_true,if_false,Int.reduceEq,Int.reduceLT,Int.reduceLE,qC,qO,qA,qS,qU,Nat.reduceEqDiff,qT,E.at,qR,Nat.reduceAdd,Nat.reduceSub,Nat.reduceLeDiff,Nat.reduceMul,qI,qP,qQ]
  refine Lfp.inv call_le hy (fun j : Nat => ⟨⟨[tV l,iV j,.dead,.dead,.dead,.dead,.dead,.dead,.dead,.dead,.dead,.dead,.dead,.dead,.dead,.dead,.dead,.dead,.dead,.dead,.dead,.dead,.dead,.dead,.dead,.dead,.dead,.dead,.dead,.dead,.dead,.dead,.dead,.dead,.dead,.dead,.dead,.dead,.dead,.dead,.dead,.dead,.dead,.dead,.dead,.dead,.dead],[]⟩,[]⟩) (fun j => l.length - j)
    (fun j => j ≤ l.length ∧ j + goneN false (l.drop j) = i + goneN false (l.drop i)) i ⟨hi,rfl⟩ (by simp only [kill_L,killTs_nil,RUF] <;> rfl) ?_
  rintro j ⟨hj,hg⟩
  by_cases hlt : j < l.length
  · have hd : decide ((j : Int) < (l.length : Int)) = true := by simpa using hlt
    have hx : l[j]? = some l[j] := List.getElem?_eq_getElem hlt
    generalize l[j] = c at hx
    have hdc := dc hx
    have hw1 : IntKind.i64.wrap ((j : Int) + 1) = ((j + 1 : Nat) : Int) := wrap_succ (by omega)
    have step : isBl c = true → j + 1 + goneN false (l.drop (j + 1)) = i + goneN false (l.drop i) := fun h => by
      rw [← hg,hdc,gone_bl h]; omega
    by_cases h32 : c.toNat = 32
    · have e1 : decide ((c.toNat : Int) = 32) = true := by simp; omega
      simp only [c33,c33x1,c33x2,c33x3,c33x4,c33x5,c33x6,RUA,RUB,RUC,RUD,RUE,RUF,if_true,if_false,Int.reduceEq,Int.reduceLT,Int.reduceLE,qC,qO,qA,qS,qU,Nat.reduceEqDiff,qT,E.at,qR,Nat.reduceAdd,Nat.reduceSub,Nat.reduceLeDiff,Nat.reduceMul,qI,qP,qQ,hd,hx,e1,hw1]
      exact ⟨j + 1,⟨by omega,step (by simp [isBl,h32])⟩,by omega,rfl⟩
    have e1 : decide ((c.toNat : Int) = 32) = false := by simp; omega
    by_cases h9 : c.toNat = 9
    · have e2 : decide ((c.toNat : Int) = 9) = true := by simp; omega
      simp only [c33,c33x1,c33x2,c33x3,c33x4,c33x5,c33x6,RUA,RUB,RUC,RUD,RUE,RUF,if_true,if_false,Int.reduceEq,Int.reduceLT,Int.reduceLE,qC,qO,qA,qS,qU,Nat.reduceEqDiff,qT,E.at,qR,Nat.reduceAdd,Nat.reduceSub,Nat.reduceLeDiff,Nat.reduceMul,qI,qP,qQ,hd,hx,e1,e2,hw1]
      exact ⟨j + 1,⟨by omega,step (by simp [isBl,h9])⟩,by omega,rfl⟩
    have e2 : decide ((c.toNat : Int) = 9) = false := by simp; omega
    by_cases h10 : c.toNat = 10
    · have e3 : decide ((c.toNat : Int) = 10) = true := by simp; omega
      simp only [c33,c33x1,c33x2,c33x3,c33x4,c33x5,c33x6,RUA,RUB,RUC,RUD,RUE,RUF,if_true,if_false,Int.reduceEq,Int.reduceLT,Int.reduceLE,qC,qO,qA,qS,qU,Nat.reduceEqDiff,qT,E.at,qR,Nat.reduceAdd,Nat.reduceSub,Nat.reduceLeDiff,Nat.reduceMul,qI,qP,qQ,hd,hx,e1,e2,e3,hw1]
      exact ⟨j + 1,⟨by omega,step (by simp [isBl,h10])⟩,by omega,rfl⟩
    have e3 : decide ((c.toNat : Int) = 10) = false := by simp; omega
    by_cases h13 : c.toNat = 13
    · have e4 : decide ((c.toNat : Int) = 13) = true := by simp; omega
      simp only [c33,c33x1,c33x2,c33x3,c33x4,c33x5,c33x6,RUA,RUB,RUC,RUD,RUE,RUF,if_true,if_false,Int.reduceEq,Int.reduceLT,Int.reduceLE,qC,qO,qA,qS,qU,Nat.reduceEqDiff,qT,E.at,qR,Nat.reduceAdd,Nat.reduceSub,Nat.reduceLeDiff,Nat.reduceMul,qI,qP,qQ,hd,hx,e1,e2,e3,e4,hw1]
      exact ⟨j + 1,⟨by omega,step (by simp [isBl,h13])⟩,by omega,rfl⟩
    have e4 : decide ((c.toNat : Int) = 13) = false := by simp; omega
    have hbl : isBl c = false := by simp [isBl,h32,h9,h10,h13]
    by_cases h35 : c.toNat = 35
    · have e5 : decide ((c.toNat : Int) = 35) = true := by simp; omega
      simp only [c33,c33x1,c33x2,c33x3,c33x4,c33x5,c33x6,c33x7,RUA,RUB,RUC,RUD,RUE,RUF,if_true,if_false,Int.reduceEq,Int.reduceLT,Int.reduceLE,qC,qO,qA,qS,qU,Nat.reduceEqDiff,qT,E.at,qR,Nat.reduceAdd,Nat.reduceSub,Nat.reduceLeDiff,Nat.reduceMul,qI,qP,qQ,hd,hx,e1,e2,e3,e4,e5]
      refine Lfp.inv call_le hy (fun q : Nat => ⟨⟨[tV l,iV q,.dead,.dead,.dead,.dead,.dead,.dead,.dead,.dead,.dead,.dead,.dead,.dead,.dead,.dead,.dead,.dead,.dead,.dead,.dead,.dead,.dead,.dead,.dead,.dead,.dead,.dead,.dead,.dead,.dead,.dead,.dead,.dead,.dead,.dead,.dead,.dead,.dead,.dead,.dead,.dead,.dead,.dead,.dead,.dead,.dead],[]⟩,[]⟩) (fun q => l.length - q)
        (fun q => j ≤ q ∧ q ≤ l.length ∧ (q = j ∨ j < q) ∧ q + goneN true (l.drop q) = i + goneN false (l.drop i)) j ⟨Nat.le_refl _,hj,.inl rfl,by rw [← hg,hdc,gone_rem hbl h35]⟩ (by simp only [kill_L,killTs_nil,RUF] <;> rfl) ?_
      rintro q ⟨hq1,hq2,hq3,hqg⟩
      by_cases hlt2 : q < l.length
      · have hd2 : decide ((q : Int) < (l.length : Int)) = true := by simpa using hlt2
        have hx2 : l[q]? = some l[q] := List.getElem?_eq_getElem hlt2
        generalize l[q] = d at hx2
        have hdc2 := dc hx2
        have hw2 : IntKind.i64.wrap ((q : Int) + 1) = ((q + 1 : Nat) : Int) := wrap_succ (by omega)
        by_cases hn : d.toNat = 10
        · have e6 : decide ((d.toNat : Int) = 10) = true := by simp; omega
          have hqj : q ≠ j := fun e => by subst e; rw [hx] at hx2; cases hx2; omega
          simp only [c33,c33x1,c33x2,c33x3,c33x4,c33x5,c33x6,c33x7,c33x8,c33x9,c33x10,c33x11,RUA,RUB,RUC,RUD,RUE,RUF,if_true,if_false,Int.reduceEq,Int.reduceLT,Int.reduceLE,qC,qO,qA,qS,qU,Nat.reduceEqDiff,qT,E.at,qR,Nat.reduceAdd,Nat.reduceSub,Nat.reduceLeDiff,Nat.reduceMul,qI,qP,qQ,hd2,hx2,e6]
          exact ⟨q,⟨hq2,by rw [← hqg,hdc2,gone_nl hn]⟩,by omega,rfl⟩
        · have e6 : decide ((d.toNat : Int) = 10) = false := by simp; omega
          simp only [c33,c33x1,c33x2,c33x3,c33x4,c33x5,c33x6,c33x7,c33x8,c33x9,c33x10,c33x11,RUA,RUB,RUC,RUD,RUE,RUF,if_true,if_false,Int.reduceEq,Int.reduceLT,Int.reduceLE,qC,qO,qA,qS,qU,Nat.reduceEqDiff,qT,E.at,qR,Nat.reduceAdd,Nat.reduceSub,Nat.reduceLeDiff,Nat.reduceMul,qI,qP,qQ,hd2,hx2,e6,hw2]
          exact ⟨q + 1,⟨by omega,by omega,.inr (by omega),by rw [← hqg,hdc2,gone_in hn]; omega⟩,by omega,rfl⟩
      · have hd2 : decide ((q : Int) < (l.length : Int)) = false := by simpa using hlt2
        have hqe : q = l.length := by omega
        simp only [c33,c33x1,c33x2,c33x3,c33x4,c33x5,c33x6,c33x7,c33x8,c33x9,c33x10,c33x11,RUA,RUB,RUC,RUD,RUE,RUF,if_true,if_false,Int.reduceEq,Int.reduceLT,Int.reduceLE,qC,qO,qA,qS,qU,Nat.reduceEqDiff,qT,E.at,qR,Nat.reduceAdd,Nat.reduceSub,Nat.reduceLeDiff,Nat.reduceMul,qI,qP,qQ,hd2]
        exact ⟨q,⟨hq2,by rw [← hqg,hqe,List.drop_length]; rfl⟩,by omega,rfl⟩
    · have e5 : decide ((c.toNat : Int) = 35) = false := by simp; omega
      have hz : goneN false (l.drop j) = 0 := by rw [hdc]; exact gone_no hbl h35
      simp only [c33,c33x1,c33x2,c33x3,c33x4,c33x5,c33x6,c33x7,c33x8,c33x9,c33x10,c33x11,RUA,RUB,RUC,RUD,RUE,RUF,if_true,if_false,Int.reduceEq,Int.reduceLT,Int.reduceLE,qC,qO,qA,qS,qU,Nat.reduceEqDiff,qT,E.at,qR,Nat.reduceAdd,Nat.reduceSub,Nat.reduceLeDiff,Nat.reduceMul,qI,qP,qQ,hd,hx,e1,e2,e3,e4,e5]
      exact ⟨_,_,rfl,by rw [← hg,hz]; rfl⟩
  · have hd : decide ((j : Int) < (l.length : Int)) = false := by simpa using hlt
    have hje : j = l.length := by omega
    have hz : goneN false (l.drop j) = 0 := by rw [hje,List.drop_length]; rfl
    simp only [c33,c33x1,c33x2,c33x3,c33x4,c33x5,c33x6,c33x7,c33x8,c33x9,c33x10,c33x11,RUA,RUB,RUC,RUD,RUE,RUF,if_true,if_false,Int.reduceEq,Int.reduceLT,Int.reduceLE,qC,qO,qA,qS,qU,Nat.reduceEqDiff,qT,E.at,qR,Nat.reduceAdd,Nat.reduceSub,Nat.reduceLeDiff,Nat.reduceMul,qI,qP,qQ,hd]
    exact ⟨_,_,rfl,by rw [← hg,hz]; rfl⟩

theorem sgn_p {l : List UInt8} {i : Nat} (hi : i < l.length) (hl : l.length ≤ lim) : PFn Tryd.prog T 34 [tV l,iV i] fun z => z = sgnV (l.drop i) i := by
  have hl' := hl
  unfold lim at hl
  have hx : l[i]? = some l[i] := List.getElem?_eq_getElem hi
  generalize l[i] = c at hx
  have hdc := dc hx
  intro yi hy
  refine Call.step hy ?_
  rw [body_eq t34]
  simp only [c34,c34x1,c34x2,c34x3,RUA,RUB,RUC,RUD,RUE,RUF,if_true,if_false,Int.reduceEq,Int.reduceLT,Int.reduceLE,qC,qO,qA,qS,qU,Nat.reduceEqDiff,qT,E.at,qR,Nat.reduceAdd,Nat.reduceSub,Nat.reduceLeDiff,Nat.reduceMul,qI,qP,qQ,hx]
  refine pcall (word1_p c) rfl (by simp [V.free,V.free1]) ?_
  cases hs : isSm c with
  | true =>
    simp only [c34,c34x1,c34x2,c34x3,c34x4,RUA,RUB,RUC,RUD,RUE,RUF,if_true,if_false,Int.reduceEq,Int.reduceLT,Int.reduceLE,qC,qO,qA,qS,qU,Nat.reduceEqDiff,qT,E.at,qR,Nat.reduceAdd,Nat.reduceSub,Nat.reduceLeDiff,Nat.reduceMul,qI,qP,qQ]
    have hr := rnN_le isIn (l.drop i)
    simp only [List.length_drop] at hr
    refine Lfp.inv call_le hy (fun n : Nat => ⟨⟨(tV l :: iV i :: qD::qD::.pt 0 0 :: qD::iV (i + n : Nat) :: qD::qD::qD::qD::qD::qD::qD::qD::qD::qD::qD::qD::qD::qD::qD::qD::qD::qD::qD::qD::qD::qD::qD::qD::qD::qD::qD::qD::qD::qD::qD::qD::qD::qD::qD::qD::qD::qD::qD::qD::qD::qD::qD::qD::qD::qD::qD::qD::qD::qD::qD::qD::qD::qD::qD::qD::qD::qD::qD::qD::qD::qD::qD::qD::qD::qD::qD::qD::qD::qD::qD::qD::qD::qD::qD::qD::qD::qD::qD::qD::qD::qD::qD::qD::qD::qD::qD::qD::qD::qD::qD::[]),[.cells [iV 0,.sc (.string (ByteArray.mk #[])),iV 0]]⟩,[]⟩) (fun n => rnN isIn (l.drop i) - n)
      (fun n => n ≤ rnN isIn (l.drop i)) 0 (Nat.zero_le _) (by simp only [kill_L,killTs_nil,RUF] <;> rfl) ?_
    intro n hn
    have hw1 : IntKind.i64.wrap (((i + n : Nat) : Int) + 1) = ((i + (n + 1) : Nat) : Int) := by rw [wrap_ok (by omega) (by omega)]; omega
    have hw2 : IntKind.i64.wrap (((i + n : Nat) : Int) - (i : Int)) = (n : Int) := by rw [wrap_ok (by omega) (by omega)]; omega
    by_cases hlt : n < rnN isIn (l.drop i)
    · obtain ⟨d,hd,hp⟩ := rnN_in isIn hlt
      rw [List.getElem?_drop] at hd
      have hdd : decide (((i + n : Nat) : Int) < (l.length : Int)) = true := by simp; omega
      simp only [c34,c34x1,c34x2,c34x3,c34x4,c34x5,c34x6,c34x7,c34x8,RUA,RUB,RUC,RUD,RUE,RUF,if_true,if_false,Int.reduceEq,Int.reduceLT,Int.reduceLE,qC,qO,qA,qS,qU,Nat.reduceEqDiff,qT,E.at,qR,Nat.reduceAdd,Nat.reduceSub,Nat.reduceLeDiff,Nat.reduceMul,qI,qP,qQ,hdd,hd]
      refine pcall (word2_p d) rfl (by simp [V.free,V.free1]) ?_
      rw [hp]
      simp only [c34,c34x1,c34x2,c34x3,c34x4,c34x5,c34x6,c34x7,c34x8,RUA,RUB,RUC,RUD,RUE,RUF,if_true,if_false,Int.reduceEq,Int.reduceLT,Int.reduceLE,qC,qO,qA,qS,qU,Nat.reduceEqDiff,qT,E.at,qR,Nat.reduceAdd,Nat.reduceSub,Nat.reduceLeDiff,Nat.reduceMul,qI,qP,qQ,hw1]
      exact ⟨n + 1,by omega,by omega,rfl⟩
    · have hne : n = rnN isIn (l.drop i) := by omega
      have hv : sgnS (l.drop i) = if n > 20 then .err 3 else .ok 1 n := by
        rw [hne,hdc]; simp only [sgnS,hs,if_true]
      have hss : ∀ o,sslOf o (tV l) (some (iV i)) (some (iV (i + n : Nat))) = some (tV ((l.drop i).take n),o) := fun o => by
        rw [ssl_t (by omega) (by omega),List.drop_take]; congr 4; omega
      rcases rnN_out isIn (l.drop i) with h | ⟨d,hd,hp⟩
      · rw [List.length_drop] at h
        have hdd : decide (((i + n : Nat) : Int) < (l.length : Int)) = false := by simp; omega
        by_cases hbig : n > 20
        · have e9 : decide ((20 : Int) < (n : Int)) = true := by simp; omega
          have hov : sgnV (l.drop i) i = .tup [.agg [iV 0,.sc (.string (ByteArray.mk #[])),iV 0],iV (3 : Nat)] := by simp only [sgnV,hv,if_pos hbig]
          simp only [c34,c34x1,c34x2,c34x3,c34x4,c34x5,c34x6,c34x7,c34x8,c34x9,c34x10,c34x11,c34x12,c34x13,c34x14,c34x15,c34x16,c34x17,c34x18,c34x19,RUA,RUB,RUC,RUD,RUE,RUF,if_true,if_false,Int.reduceEq,Int.reduceLT,Int.reduceLE,qC,qO,qA,qS,qU,Nat.reduceEqDiff,qT,E.at,qR,Nat.reduceAdd,Nat.reduceSub,Nat.reduceLeDiff,Nat.reduceMul,qI,qP,qQ,fillC,rets,hdd,hw2,e9]
          exact ⟨_,_,frzT_tup rfl rfl,hov.symm⟩
        · have e9 : decide ((20 : Int) < (n : Int)) = false := by simp; omega
          have hov : sgnV (l.drop i) i = .tup [sgV 1 ((l.drop i).take n) i,iV 0] := by simp only [sgnV,hv,if_neg hbig]
          simp only [c34,c34x1,c34x2,c34x3,c34x4,c34x5,c34x6,c34x7,c34x8,c34x9,c34x10,c34x11,c34x12,c34x13,c34x14,c34x15,c34x16,c34x17,c34x18,c34x19,RUA,RUB,RUC,RUD,RUE,RUF,if_true,if_false,Int.reduceEq,Int.reduceLT,Int.reduceLE,qC,qO,qA,qS,qU,Nat.reduceEqDiff,qT,E.at,qR,Nat.reduceAdd,Nat.reduceSub,Nat.reduceLeDiff,Nat.reduceMul,qI,qP,qQ,fillC,rets,hdd,hw2,e9,hss]
          exact ⟨_,_,frzT_tup rfl rfl,hov.symm⟩
      · rw [List.getElem?_drop,← hne] at hd
        have hlt2 := (List.getElem?_eq_some_iff.1 hd).1
        have hdd : decide (((i + n : Nat) : Int) < (l.length : Int)) = true := by simp; omega
        by_cases hbig : n > 20
        · have e9 : decide ((20 : Int) < (n : Int)) = true := by simp; omega
          have hov : sgnV (l.drop i) i = .tup [.agg [iV 0,.sc (.string (ByteArray.mk #[])),iV 0],iV (3 : Nat)] := by simp only [sgnV,hv,if_pos hbig]
          simp only [c34,c34x1,c34x2,c34x3,c34x4,c34x5,c34x6,c34x7,c34x8,RUA,RUB,RUC,RUD,RUE,RUF,if_true,if_false,Int.reduceEq,Int.reduceLT,Int.reduceLE,qC,qO,qA,qS,qU,Nat.reduceEqDiff,qT,E.at,qR,Nat.reduceAdd,Nat.reduceSub,Nat.reduceLeDiff,Nat.reduceMul,qI,qP,qQ,hdd,hd]
          refine pcall (word2_p d) rfl (by simp [V.free,V.free1]) ?_
          rw [hp]
          simp only [c34,c34x1,c34x2,c34x3,c34x4,c34x5,c34x6,c34x7,c34x8,c34x9,c34x10,c34x11,c34x12,c34x13,c34x14,c34x15,c34x16,c34x17,c34x18,c34x19,RUA,RUB,RUC,RUD,RUE,RUF,if_true,if_false,Int.reduceEq,Int.reduceLT,Int.reduceLE,qC,qO,qA,qS,qU,Nat.reduceEqDiff,qT,E.at,qR,Nat.reduceAdd,Nat.reduceSub,Nat.reduceLeDiff,Nat.reduceMul,qI,qP,qQ,fillC,rets,hdd,hw2,e9]
          exact ⟨_,_,frzT_tup rfl rfl,hov.symm⟩
        · have e9 : decide ((20 : Int) < (n : Int)) = false := by simp; omega
          have hov : sgnV (l.drop i) i = .tup [sgV 1 ((l.drop i).take n) i,iV 0] := by simp only [sgnV,hv,if_neg hbig]
          simp only [c34,c34x1,c34x2,c34x3,c34x4,c34x5,c34x6,c34x7,c34x8,RUA,RUB,RUC,RUD,RUE,RUF,if_true,if_false,Int.reduceEq,Int.reduceLT,Int.reduceLE,qC,qO,qA,qS,qU,Nat.reduceEqDiff,qT,E.at,qR,Nat.reduceAdd,Nat.reduceSub,Nat.reduceLeDiff,Nat.reduceMul,qI,qP,qQ,hdd,hd]
          refine pcall (word2_p d) rfl (by simp [V.free,V.free1]) ?_
          rw [hp]
          simp only [c34,c34x1,c34x2,c34x3,c34x4,c34x5,c34x6,c34x7,c34x8,c34x9,c34x10,c34x11,c34x12,c34x13,c34x14,c34x15,c34x16,c34x17,c34x18,c34x19,RUA,RUB,RUC,RUD,RUE,RUF,if_true,if_false,Int.reduceEq,Int.reduceLT,Int.reduceLE,qC,qO,qA,qS,qU,Nat.reduceEqDiff,qT,E.at,qR,Nat.reduceAdd,Nat.reduceSub,Nat.reduceLeDiff,Nat.reduceMul,qI,qP,qQ,fillC,rets,hdd,hw2,e9,hss]
          exact ⟨_,_,frzT_tup rfl rfl,hov.symm⟩
  | false =>
    by_cases hdg : isDg c = true
    · have g1 : 48 ≤ c.toNat ∧ c.toNat ≤ 57 := by simpa [isDg] using hdg
      have e1 : decide ((48 : Int) ≤ (c.toNat : Int)) = true := by simp; omega
      have e2 : decide ((c.toNat : Int) ≤ 57) = true := by simp; omega
      simp only [c34,c34x1,c34x2,c34x3,c34x4,c34x5,c34x6,c34x7,c34x8,c34x9,c34x10,c34x11,RUA,RUB,RUC,RUD,RUE,RUF,if_true,if_false,Int.reduceEq,Int.reduceLT,Int.reduceLE,qC,qO,qA,qS,qU,Nat.reduceEqDiff,qT,E.at,qR,Nat.reduceAdd,Nat.reduceSub,Nat.reduceLeDiff,Nat.reduceMul,qI,qP,qQ,e1,e2]
      have hr := rnN_le isDg (l.drop i)
      simp only [List.length_drop] at hr
      refine Lfp.inv call_le hy (fun n : Nat => ⟨⟨(tV l :: iV i :: qD::qD::.pt 0 0 :: qD::iV (i + n : Nat) :: cV c :: qD::qD::qD::qD::qD::qD::qD::qD::qD::qD::qD::qD::qD::qD::qD::qD::qD::qD::qD::qD::qD::qD::qD::qD::qD::qD::qD::qD::qD::qD::qD::qD::qD::qD::qD::qD::qD::qD::qD::qD::qD::qD::qD::qD::qD::qD::qD::qD::qD::qD::qD::qD::qD::qD::qD::qD::qD::qD::qD::qD::qD::qD::qD::qD::qD::qD::qD::qD::qD::qD::qD::qD::qD::qD::qD::qD::qD::qD::qD::qD::qD::qD::qD::qD::qD::qD::qD::qD::qD::qD::[]),[.cells [iV 0,.sc (.string (ByteArray.mk #[])),iV 0]]⟩,[]⟩) (fun n => rnN isDg (l.drop i) - n)
        (fun n => n ≤ rnN isDg (l.drop i)) 0 (Nat.zero_le _) (by simp only [kill_L,killTs_nil,RUF] <;> rfl) ?_
      intro n hn
      have hw1 : IntKind.i64.wrap (((i + n : Nat) : Int) + 1) = ((i + (n + 1) : Nat) : Int) := by rw [wrap_ok (by omega) (by omega)]; omega
      have hw2 : IntKind.i64.wrap (((i + n : Nat) : Int) - (i : Int)) = (n : Int) := by rw [wrap_ok (by omega) (by omega)]; omega
      by_cases hlt : n < rnN isDg (l.drop i)
      · obtain ⟨d,hd,hp⟩ := rnN_in isDg hlt
        rw [List.getElem?_drop] at hd
        have hdd : decide (((i + n : Nat) : Int) < (l.length : Int)) = true := by simp; omega
        have g2 : 48 ≤ d.toNat ∧ d.toNat ≤ 57 := by simpa [isDg] using hp
        have e3 : decide ((48 : Int) ≤ (d.toNat : Int)) = true := by simp; omega
        have e4 : decide ((d.toNat : Int) ≤ 57) = true := by simp; omega
        simp only [c34,c34x1,c34x2,c34x3,c34x4,c34x5,c34x6,c34x7,c34x8,c34x9,c34x10,c34x11,c34x12,c34x13,c34x14,RUA,RUB,RUC,RUD,RUE,RUF,if_true,if_false,Int.reduceEq,Int.reduceLT,Int.reduceLE,qC,qO,qA,qS,qU,Nat.reduceEqDiff,qT,E.at,qR,Nat.reduceAdd,Nat.reduceSub,Nat.reduceLeDiff,Nat.reduceMul,qI,qP,qQ,hdd,hd,e3,e4,hw1]
        exact ⟨n + 1,by omega,by omega,rfl⟩
      · have hne : n = rnN isDg (l.drop i) := by omega
        have hv : sgnS (l.drop i) = if n > 18 then .err 3 else if n > 1 ∧ c.toNat = 48 then .err 1 else .ok 2 n := by
          rw [hne,hdc]; simp only [sgnS,hs,hdg,if_true,Bool.false_eq_true,if_false]
        have hss : ∀ o,sslOf o (tV l) (some (iV i)) (some (iV (i + n : Nat))) = some (tV ((l.drop i).take n),o) := fun o => by
          rw [ssl_t (by omega) (by omega),List.drop_take]; congr 4; omega
        rcases rnN_out isDg (l.drop i) with h | ⟨d,hd,hp⟩
        · rw [List.length_drop] at h
          have hdd : decide (((i + n : Nat) : Int) < (l.length : Int)) = false := by simp; omega
          by_cases hbig : n > 18
          · have e9 : decide ((18 : Int) < (n : Int)) = true := by simp; omega
            have hov : sgnV (l.drop i) i = .tup [.agg [iV 0,.sc (.string (ByteArray.mk #[])),iV 0],iV (3 : Nat)] := by simp only [sgnV,hv,if_pos hbig]
            simp only [c34,c34x1,c34x2,c34x3,c34x4,c34x5,c34x6,c34x7,c34x8,c34x9,c34x10,c34x11,c34x12,c34x13,c34x14,c34x15,c34x16,c34x17,c34x18,c34x19,RUA,RUB,RUC,RUD,RUE,RUF,if_true,if_false,Int.reduceEq,Int.reduceLT,Int.reduceLE,qC,qO,qA,qS,qU,Nat.reduceEqDiff,qT,E.at,qR,Nat.reduceAdd,Nat.reduceSub,Nat.reduceLeDiff,Nat.reduceMul,qI,qP,qQ,fillC,rets,hdd,hw2,e9]
            exact ⟨_,_,frzT_tup rfl rfl,hov.symm⟩
          have e9 : decide ((18 : Int) < (n : Int)) = false := by simp; omega
          by_cases hone : n > 1
          · have e8 : decide ((1 : Int) < (n : Int)) = true := by simp; omega
            by_cases hz : c.toNat = 48
            · have e7 : decide ((c.toNat : Int) = 48) = true := by simp; omega
              have hov : sgnV (l.drop i) i = .tup [.agg [iV 0,.sc (.string (ByteArray.mk #[])),iV 0],iV (1 : Nat)] := by simp only [sgnV,hv,if_neg hbig,if_pos (And.intro hone hz)]
              simp only [c34,c34x1,c34x2,c34x3,c34x4,c34x5,c34x6,c34x7,c34x8,c34x9,c34x10,c34x11,c34x12,c34x13,c34x14,c34x15,c34x16,c34x17,c34x18,c34x19,RUA,RUB,RUC,RUD,RUE,RUF,if_true,if_false,Int.reduceEq,Int.reduceLT,Int.reduceLE,qC,qO,qA,qS,qU,Nat.reduceEqDiff,qT,E.at,qR,Nat.reduceAdd,Nat.reduceSub,Nat.reduceLeDiff,Nat.reduceMul,qI,qP,qQ,fillC,rets,hdd,hw2,e9,e8,e7]
              exact ⟨_,_,frzT_tup rfl rfl,hov.symm⟩
            · have e7 : decide ((c.toNat : Int) = 48) = false := by simp; omega
              have hov : sgnV (l.drop i) i = .tup [sgV 2 ((l.drop i).take n) i,iV 0] := by simp only [sgnV,hv,if_neg hbig,if_neg (fun h : n > 1 ∧ c.toNat = 48 => hz h.2)]
              simp only [c34,c34x1,c34x2,c34x3,c34x4,c34x5,c34x6,c34x7,c34x8,c34x9,c34x10,c34x11,c34x12,c34x13,c34x14,c34x15,c34x16,c34x17,c34x18,c34x19,RUA,RUB,RUC,RUD,RUE,RUF,if_true,if_false,Int.reduceEq,Int.reduceLT,Int.reduceLE,qC,qO,qA,qS,qU,Nat.reduceEqDiff,qT,E.at,qR,Nat.reduceAdd,Nat.reduceSub,Nat.reduceLeDiff,Nat.reduceMul,qI,qP,qQ,fillC,rets,hdd,hw2,e9,e8,e7,hss]
              exact ⟨_,_,frzT_tup rfl rfl,hov.symm⟩
          · have e8 : decide ((1 : Int) < (n : Int)) = false := by simp; omega
            have hov : sgnV (l.drop i) i = .tup [sgV 2 ((l.drop i).take n) i,iV 0] := by simp only [sgnV,hv,if_neg hbig,if_neg (fun h : n > 1 ∧ c.toNat = 48 => hone h.1)]
            simp only [c34,c34x1,c34x2,c34x3,c34x4,c34x5,c34x6,c34x7,c34x8,c34x9,c34x10,c34x11,c34x12,c34x13,c34x14,c34x15,c34x16,c34x17,c34x18,c34x19,RUA,RUB,RUC,RUD,RUE,RUF,if_true,if_false,Int.reduceEq,Int.reduceLT,Int.reduceLE,qC,qO,qA,qS,qU,Nat.reduceEqDiff,qT,E.at,qR,Nat.reduceAdd,Nat.reduceSub,Nat.reduceLeDiff,Nat.reduceMul,qI,qP,qQ,fillC,rets,hdd,hw2,e9,e8,hss]
            exact ⟨_,_,frzT_tup rfl rfl,hov.symm⟩
        · rw [List.getElem?_drop,← hne] at hd
          have hlt2 := (List.getElem?_eq_some_iff.1 hd).1
          have hdd : decide (((i + n : Nat) : Int) < (l.length : Int)) = true := by simp; omega
          by_cases h48 : 48 ≤ d.toNat
          · have h57 : ¬ d.toNat ≤ 57 := fun h => by simp [isDg,h48,h] at hp
            have e3 : decide ((48 : Int) ≤ (d.toNat : Int)) = true := by simp; omega
            have e4 : decide ((d.toNat : Int) ≤ 57) = false := by simp; omega
            by_cases hbig : n > 18
            · have e9 : decide ((18 : Int) < (n : Int)) = true := by simp; omega
              have hov : sgnV (l.drop i) i = .tup [.agg [iV 0,.sc (.string (ByteArray.mk #[])),iV 0],iV (3 : Nat)] := by simp only [sgnV,hv,if_pos hbig]
              simp only [c34,c34x1,c34x2,c34x3,c34x4,c34x5,c34x6,c34x7,c34x8,c34x9,c34x10,c34x11,c34x12,c34x13,c34x14,c34x15,c34x16,c34x17,c34x18,c34x19,RUA,RUB,RUC,RUD,RUE,RUF,if_true,if_false,Int.reduceEq,Int.reduceLT,Int.reduceLE,qC,qO,qA,qS,qU,Nat.reduceEqDiff,qT,E.at,qR,Nat.reduceAdd,Nat.reduceSub,Nat.reduceLeDiff,Nat.reduceMul,qI,qP,qQ,fillC,rets,hdd,hd,e3,e4,hw2,e9]
              exact ⟨_,_,frzT_tup rfl rfl,hov.symm⟩
            have e9 : decide ((18 : Int) < (n : Int)) = false := by simp; omega
            by_cases hone : n > 1
            · have e8 : decide ((1 : Int) < (n : Int)) = true := by simp; omega
              by_cases hz : c.toNat = 48
              · have e7 : decide ((c.toNat : Int) = 48) = true := by simp; omega
                have hov : sgnV (l.drop i) i = .tup [.agg [iV 0,.sc (.string (ByteArray.mk #[])),iV 0],iV (1 : Nat)] := by simp only [sgnV,hv,if_neg hbig,if_pos (And.intro hone hz)]
                simp only [c34,c34x1,c34x2,c34x3,c34x4,c34x5,c34x6,c34x7,c34x8,c34x9,c34x10,c34x11,c34x12,c34x13,c34x14,c34x15,c34x16,c34x17,c34x18,c34x19,RUA,RUB,RUC,RUD,RUE,RUF,if_true,if_false,Int.reduceEq,Int.reduceLT,Int.reduceLE,qC,qO,qA,qS,qU,Nat.reduceEqDiff,qT,E.at,qR,Nat.reduceAdd,Nat.reduceSub,Nat.reduceLeDiff,Nat.reduceMul,qI,qP,qQ,fillC,rets,hdd,hd,e3,e4,hw2,e9,e8,e7]
                exact ⟨_,_,frzT_tup rfl rfl,hov.symm⟩
              · have e7 : decide ((c.toNat : Int) = 48) = false := by simp; omega
                have hov : sgnV (l.drop i) i = .tup [sgV 2 ((l.drop i).take n) i,iV 0] := by simp only [sgnV,hv,if_neg hbig,if_neg (fun h : n > 1 ∧ c.toNat = 48 => hz h.2)]
                simp only [c34,c34x1,c34x2,c34x3,c34x4,c34x5,c34x6,c34x7,c34x8,c34x9,c34x10,c34x11,c34x12,c34x13,c34x14,c34x15,c34x16,c34x17,c34x18,c34x19,RUA,RUB,RUC,RUD,RUE,RUF,if_true,if_false,Int.reduceEq,Int.reduceLT,Int.reduceLE,qC,qO,qA,qS,qU,Nat.reduceEqDiff,qT,E.at,qR,Nat.reduceAdd,Nat.reduceSub,Nat.reduceLeDiff,Nat.reduceMul,qI,qP,qQ,fillC,rets,hdd,hd,e3,e4,hw2,e9,e8,e7,hss]
                exact ⟨_,_,frzT_tup rfl rfl,hov.symm⟩
            · have e8 : decide ((1 : Int) < (n : Int)) = false := by simp; omega
              have hov : sgnV (l.drop i) i = .tup [sgV 2 ((l.drop i).take n) i,iV 0] := by simp only [sgnV,hv,if_neg hbig,if_neg (fun h : n > 1 ∧ c.toNat = 48 => hone h.1)]
              simp only [c34,c34x1,c34x2,c34x3,c34x4,c34x5,c34x6,c34x7,c34x8,c34x9,c34x10,c34x11,c34x12,c34x13,c34x14,c34x15,c34x16,c34x17,c34x18,c34x19,RUA,RUB,RUC,RUD,RUE,RUF,if_true,if_false,Int.reduceEq,Int.reduceLT,Int.reduceLE,qC,qO,qA,qS,qU,Nat.reduceEqDiff,qT,E.at,qR,Nat.reduceAdd,Nat.reduceSub,Nat.reduceLeDiff,Nat.reduceMul,qI,qP,qQ,fillC,rets,hdd,hd,e3,e4,hw2,e9,e8,hss]
              exact ⟨_,_,frzT_tup rfl rfl,hov.symm⟩
          · have e3 : decide ((48 : Int) ≤ (d.toNat : Int)) = false := by simp; omega
            by_cases hbig : n > 18
            · have e9 : decide ((18 : Int) < (n : Int)) = true := by simp; omega
              have hov : sgnV (l.drop i) i = .tup [.agg [iV 0,.sc (.string (ByteArray.mk #[])),iV 0],iV (3 : Nat)] := by simp only [sgnV,hv,if_pos hbig]
              simp only [c34,c34x1,c34x2,c34x3,c34x4,c34x5,c34x6,c34x7,c34x8,c34x9,c34x10,c34x11,c34x12,c34x13,c34x14,c34x15,c34x16,c34x17,c34x18,c34x19,RUA,RUB,RUC,RUD,RUE,RUF,if_true,if_false,Int.reduceEq,Int.reduceLT,Int.reduceLE,qC,qO,qA,qS,qU,Nat.reduceEqDiff,qT,E.at,qR,Nat.reduceAdd,Nat.reduceSub,Nat.reduceLeDiff,Nat.reduceMul,qI,qP,qQ,fillC,rets,hdd,hd,e3,hw2,e9]
              exact ⟨_,_,frzT_tup rfl rfl,hov.symm⟩
            have e9 : decide ((18 : Int) < (n : Int)) = false := by simp; omega
            by_cases hone : n > 1
            · have e8 : decide ((1 : Int) < (n : Int)) = true := by simp; omega
              by_cases hz : c.toNat = 48
              · have e7 : decide ((c.toNat : Int) = 48) = true := by simp; omega
                have hov : sgnV (l.drop i) i = .tup [.agg [iV 0,.sc (.string (ByteArray.mk #[])),iV 0],iV (1 : Nat)] := by simp only [sgnV,hv,if_neg hbig,if_pos (And.intro hone hz)]
                simp only [c34,c34x1,c34x2,c34x3,c34x4,c34x5,c34x6,c34x7,c34x8,c34x9,c34x10,c34x11,c34x12,c34x13,c34x14,c34x15,c34x16,c34x17,c34x18,c34x19,RUA,RUB,RUC,RUD,RUE,RUF,if_true,if_false,Int.reduceEq,Int.reduceLT,Int.reduceLE,qC,qO,qA,qS,qU,Nat.reduceEqDiff,qT,E.at,qR,Nat.reduceAdd,Nat.reduceSub,Nat.reduceLeDiff,Nat.reduceMul,qI,qP,qQ,fillC,rets,hdd,hd,e3,hw2,e9,e8,e7]
                exact ⟨_,_,frzT_tup rfl rfl,hov.symm⟩
              · have e7 : decide ((c.toNat : Int) = 48) = false := by simp; omega
                have hov : sgnV (l.drop i) i = .tup [sgV 2 ((l.drop i).take n) i,iV 0] := by simp only [sgnV,hv,if_neg hbig,if_neg (fun h : n > 1 ∧ c.toNat = 48 => hz h.2)]
                simp only [c34,c34x1,c34x2,c34x3,c34x4,c34x5,c34x6,c34x7,c34x8,c34x9,c34x10,c34x11,c34x12,c34x13,c34x14,c34x15,c34x16,c34x17,c34x18,c34x19,RUA,RUB,RUC,RUD,RUE,RUF,if_true,if_false,Int.reduceEq,Int.reduceLT,Int.reduceLE,qC,qO,qA,qS,qU,Nat.reduceEqDiff,qT,E.at,qR,Nat.reduceAdd,Nat.reduceSub,Nat.reduceLeDiff,Nat.reduceMul,qI,qP,qQ,fillC,rets,hdd,hd,e3,hw2,e9,e8,e7,hss]
                exact ⟨_,_,frzT_tup rfl rfl,hov.symm⟩
            · have e8 : decide ((1 : Int) < (n : Int)) = false := by simp; omega
              have hov : sgnV (l.drop i) i = .tup [sgV 2 ((l.drop i).take n) i,iV 0] := by simp only [sgnV,hv,if_neg hbig,if_neg (fun h : n > 1 ∧ c.toNat = 48 => hone h.1)]
              simp only [c34,c34x1,c34x2,c34x3,c34x4,c34x5,c34x6,c34x7,c34x8,c34x9,c34x10,c34x11,c34x12,c34x13,c34x14,c34x15,c34x16,c34x17,c34x18,c34x19,RUA,RUB,RUC,RUD,RUE,RUF,if_true,if_false,Int.reduceEq,Int.reduceLT,Int.reduceLE,qC,qO,qA,qS,qU,Nat.reduceEqDiff,qT,E.at,qR,Nat.reduceAdd,Nat.reduceSub,Nat.reduceLeDiff,Nat.reduceMul,qI,qP,qQ,fillC,rets,hdd,hd,e3,hw2,e9,e8,hss]
              exact ⟨_,_,frzT_tup rfl rfl,hov.symm⟩
    · have hdf : isDg c = false := by simpa using hdg
      have hv : sgnS (l.drop i) = if markN (l.drop i) = 0 then .err 1 else .ok 3 (markN (l.drop i)) := by
        rw [hdc]; simp only [sgnS,hs,hdf,Bool.false_eq_true,if_false]
      have hm2 : i + markN (l.drop i) ≤ l.length := by
        unfold markN
        split
        · rename_i h
          have := dbls_two (by simpa using h)
          simp at this; omega
        · rw [hdc]; dsimp only; split <;> omega
      have hbt : (decide ((48 : Int) ≤ (c.toNat : Int)) = false) ∨ (decide ((48 : Int) ≤ (c.toNat : Int)) = true ∧ decide ((c.toNat : Int) ≤ 57) = false) := by
        simp [isDg] at hdf
        by_cases h : 48 ≤ c.toNat
        · right; constructor
          · simp; omega
          · simp; have := hdf h; omega
        · left; simp; omega
      generalize hmk : markN (l.drop i) = m at hv hm2
      have fin : ∀ (t : List V) (K : V → List O → Prop),True := fun _ _ => trivial
      have hss : ∀ o,sslOf o (tV l) (some (iV i)) (some (iV (i + m : Nat))) = some (tV ((l.drop i).take m),o) := fun o => by
        rw [ssl_t (by omega) hm2,List.drop_take]; congr 4; omega
      have hw1 : IntKind.i64.wrap ((i : Int) + (m : Int)) = ((i + m : Nat) : Int) := by rw [wrap_ok (by omega) (by omega)]; omega
      rcases hbt with e1 | ⟨e1,e2⟩
      · simp only [c34,c34x1,c34x2,c34x3,c34x4,c34x5,c34x6,c34x7,c34x8,c34x9,c34x10,c34x11,c34x12,c34x13,c34x14,c34x15,c34x16,c34x17,c34x18,c34x19,c34x20,RUA,RUB,RUC,RUD,RUE,RUF,if_true,if_false,Int.reduceEq,Int.reduceLT,Int.reduceLE,qC,qO,qA,qS,qU,Nat.reduceEqDiff,qT,E.at,qR,Nat.reduceAdd,Nat.reduceSub,Nat.reduceLeDiff,Nat.reduceMul,qI,qP,qQ,e1]
        refine pcall (rmark_p hi hl') rfl (by simp [V.free,V.free1]) ?_
        rw [hmk]
        by_cases h0 : m = 0
        · have e9 : decide ((m : Int) = 0) = true := by simp; omega
          have hov : sgnV (l.drop i) i = .tup [.agg [iV 0,.sc (.string (ByteArray.mk #[])),iV 0],iV (1 : Nat)] := by simp only [sgnV,hv,if_pos h0]
          simp only [c34,c34x1,c34x2,c34x3,c34x4,c34x5,c34x6,c34x7,c34x8,c34x9,c34x10,c34x11,c34x12,c34x13,c34x14,c34x15,c34x16,c34x17,c34x18,c34x19,c34x20,c34x21,c34x22,c34x23,RUA,RUB,RUC,RUD,RUE,RUF,if_true,if_false,Int.reduceEq,Int.reduceLT,Int.reduceLE,qC,qO,qA,qS,qU,Nat.reduceEqDiff,qT,E.at,qR,Nat.reduceAdd,Nat.reduceSub,Nat.reduceLeDiff,Nat.reduceMul,qI,qP,qQ,fillC,rets,e9]
          exact ⟨_,_,frzT_tup rfl rfl,hov.symm⟩
        · have e9 : decide ((m : Int) = 0) = false := by simp; omega
          have hov : sgnV (l.drop i) i = .tup [sgV 3 ((l.drop i).take m) i,iV 0] := by simp only [sgnV,hv,if_neg h0]
          simp only [c34,c34x1,c34x2,c34x3,c34x4,c34x5,c34x6,c34x7,c34x8,c34x9,c34x10,c34x11,c34x12,c34x13,c34x14,c34x15,c34x16,c34x17,c34x18,c34x19,c34x20,c34x21,c34x22,c34x23,RUA,RUB,RUC,RUD,RUE,RUF,if_true,if_false,Int.reduceEq,Int.reduceLT,Int.reduceLE,qC,qO,qA,qS,qU,Nat.reduceEqDiff,qT,E.at,qR,Nat.reduceAdd,Nat.reduceSub,Nat.reduceLeDiff,Nat.reduceMul,qI,qP,qQ,fillC,rets,e9,hw1,hss]
          exact ⟨_,_,frzT_tup rfl rfl,hov.symm⟩
      · simp only [c34,c34x1,c34x2,c34x3,c34x4,c34x5,c34x6,c34x7,c34x8,c34x9,c34x10,c34x11,c34x12,c34x13,c34x14,c34x15,c34x16,c34x17,c34x18,c34x19,c34x20,RUA,RUB,RUC,RUD,RUE,RUF,if_true,if_false,Int.reduceEq,Int.reduceLT,Int.reduceLE,qC,qO,qA,qS,qU,Nat.reduceEqDiff,qT,E.at,qR,Nat.reduceAdd,Nat.reduceSub,Nat.reduceLeDiff,Nat.reduceMul,qI,qP,qQ,e1,e2]
        refine pcall (rmark_p hi hl') rfl (by simp [V.free,V.free1]) ?_
        rw [hmk]
        by_cases h0 : m = 0
        · have e9 : decide ((m : Int) = 0) = true := by simp; omega
          have hov : sgnV (l.drop i) i = .tup [.agg [iV 0,.sc (.string (ByteArray.mk #[])),iV 0],iV (1 : Nat)] := by simp only [sgnV,hv,if_pos h0]
          simp only [c34,c34x1,c34x2,c34x3,c34x4,c34x5,c34x6,c34x7,c34x8,c34x9,c34x10,c34x11,c34x12,c34x13,c34x14,c34x15,c34x16,c34x17,c34x18,c34x19,c34x20,c34x21,c34x22,c34x23,RUA,RUB,RUC,RUD,RUE,RUF,if_true,if_false,Int.reduceEq,Int.reduceLT,Int.reduceLE,qC,qO,qA,qS,qU,Nat.reduceEqDiff,qT,E.at,qR,Nat.reduceAdd,Nat.reduceSub,Nat.reduceLeDiff,Nat.reduceMul,qI,qP,qQ,fillC,rets,e9]
          exact ⟨_,_,frzT_tup rfl rfl,hov.symm⟩
        · have e9 : decide ((m : Int) = 0) = false := by simp; omega
          have hov : sgnV (l.drop i) i = .tup [sgV 3 ((l.drop i).take m) i,iV 0] := by simp only [sgnV,hv,if_neg h0]
          simp only [c34,c34x1,c34x2,c34x3,c34x4,c34x5,c34x6,c34x7,c34x8,c34x9,c34x10,c34x11,c34x12,c34x13,c34x14,c34x15,c34x16,c34x17,c34x18,c34x19,c34x20,c34x21,c34x22,c34x23,RUA,RUB,RUC,RUD,RUE,RUF,if_true,if_false,Int.reduceEq,Int.reduceLT,Int.reduceLE,qC,qO,qA,qS,qU,Nat.reduceEqDiff,qT,E.at,qR,Nat.reduceAdd,Nat.reduceSub,Nat.reduceLeDiff,Nat.reduceMul,qI,qP,qQ,fillC,rets,e9,hw1,hss]
          exact ⟨_,_,frzT_tup rfl rfl,hov.symm⟩
theorem rsigns_p {l : List UInt8} {res : Res} (hl : l.length ≤ 4000) (hr : SR l 0 [] res) : PFn Tryd.prog T 15 [tV l] (RV res) := by
  have hl' : l.length ≤ lim := by unfold lim; omega
  intro yi hy
  refine Call.step hy ?_
  rw [body_eq t15]
  have hd0 : decide ((4000 : Int) < (l.length : Int)) = false := by simp; omega
  simp only [c15,c15x1,c15x2,c15x3,c15x4,RUA,RUB,RUC,RUD,RUE,RUF,if_true,if_false,Int.reduceEq,Int.reduceLT,Int.reduceLE,qC,qO,qA,qS,qU,Nat.reduceEqDiff,qT,E.at,qR,Nat.reduceAdd,Nat.reduceSub,Nat.reduceLeDiff,Nat.reduceMul,qI,qP,qQ,hd0]
  refine pcall (past_p (i := 0) (Nat.zero_le _) hl') rfl (by simp [V.free,V.free1]) ?_
  have h0l := goneN_le false l
  have hS0 := hr.shift (n := goneN false l) (by rw [gone_idem,Nat.add_zero])
  simp only [Nat.zero_add] at hS0
  simp only [List.drop_zero,Nat.zero_add]
  have hG0 := gone_idem false l
  generalize goneN false l = g0 at h0l hS0 hG0
  simp only [c15,c15x1,c15x2,c15x3,c15x4,c15x5,RUA,RUB,RUC,RUD,RUE,RUF,if_true,if_false,Int.reduceEq,Int.reduceLT,Int.reduceLE,qC,qO,qA,qS,qU,Nat.reduceEqDiff,qT,E.at,qR,Nat.reduceAdd,Nat.reduceSub,Nat.reduceLeDiff,Nat.reduceMul,qI,qP,qQ]
  refine Lfp.inv call_le hy (fun a : Nat × List O × V => ⟨⟨[tV l,.dead,.dead,.dead,.dead,a.2.2,iV a.1,.dead,.dead,.dead,.dead,.dead,.dead,.dead,.dead,.dead,.dead,.dead,.dead,.dead,.dead,.dead,.dead,.dead,.dead,.dead,.dead,.dead,.dead,.dead,.dead,.dead,.dead,.dead,.dead,.dead,.dead,.dead,.dead,.dead],a.2.1⟩,[]⟩) (fun a => l.length - a.1)
    (fun a => a.1 ≤ l.length ∧ goneN false (l.drop a.1) = 0 ∧ ∃ acc A,RowAt a.2.1 3 a.2.2 (acc.map Sg.v) A ∧ SR (l.drop a.1) a.1 acc res ∧ acc.length ≤ a.1) (g0,[],nilV) ⟨h0l,hG0,[],[],.inl ⟨rfl,rfl,rfl⟩,hS0,Nat.zero_le _⟩ (by simp only [kill_L,killTs_nil,RUF] <;> rfl) ?_
  rintro ⟨j,o',out⟩ ⟨hj,hg,acc,A,hrow,hS,hacc⟩
  dsimp only at hj hg hrow hS hacc
  obtain ⟨hk3,hf3⟩ := sgs_ok acc
  by_cases hlt : j < l.length
  · have hd : decide ((j : Int) < (l.length : Int)) = true := by simpa using hlt
    have hx : l[j]? = some l[j] := List.getElem?_eq_getElem hlt
    generalize l[j] = c at hx
    have hdc := dc hx
    simp only [c15,c15x1,c15x2,c15x3,c15x4,c15x5,c15x6,c15x7,c15x8,c15x9,RUA,RUB,RUC,RUD,RUE,RUF,if_true,if_false,Int.reduceEq,Int.reduceLT,Int.reduceLE,qC,qO,qA,qS,qU,Nat.reduceEqDiff,qT,E.at,qR,Nat.reduceAdd,Nat.reduceSub,Nat.reduceLeDiff,Nat.reduceMul,qI,qP,qQ,hd]
    refine pcall (sgn_p hlt hl') rfl (by simp [V.free,V.free1]) ?_
    rw [hdc] at hS hg
    rcases hS.at hg with ⟨e,h1,rfl⟩ | ⟨k,m,h1,h2⟩
    · rw [← hdc] at h1
      have he : e ≠ 0 := by
        rw [hdc] at h1
        simp only [sgnS] at h1
        repeat' split at h1
        all_goals (cases h1; try omega)
      have hv : sgnV (l.drop j) j = .tup [.agg [iV 0,.sc (.string (ByteArray.mk #[])),iV 0],iV e] := by simp only [sgnV,h1]
      have hd2 : decide ((e : Int) = 0) = false := by simp; omega
      rw [hv]
      simp only [c15,c15x1,c15x2,c15x3,c15x4,c15x5,c15x6,c15x7,c15x8,c15x9,c15x10,c15x11,c15x12,c15x13,RUA,RUB,RUC,RUD,RUE,RUF,if_true,if_false,Int.reduceEq,Int.reduceLT,Int.reduceLE,qC,qO,qA,qS,qU,Nat.reduceEqDiff,qT,E.at,qR,Nat.reduceAdd,Nat.reduceSub,Nat.reduceLeDiff,Nat.reduceMul,qI,qP,qQ,hd2]
      exact ⟨_,_,frzT_3 rfl rfl rfl,rfl⟩
    · obtain ⟨hm1,hm2⟩ := sgnS_pos h1
      rw [← hdc] at h1 h2 hm2
      simp only [List.length_drop] at hm2
      have hv : sgnV (l.drop j) j = .tup [sgV k ((l.drop j).take m) j,iV 0] := by simp only [sgnV,h1]
      have hd2 : decide ((0 : Int) = 0) = true := rfl
      have hlm : ((l.drop j).take m).length = m := by simp; omega
      have hw : IntKind.i64.wrap ((j : Int) + (m : Int)) = ((j + m : Nat) : Int) := by rw [wrap_ok (by omega) (by omega)]; omega
      rw [List.drop_drop] at h2
      have hr' : RowAt (o' ++ [.cells [iV k,tV ((l.drop j).take m),iV j]]) 3 out (acc.map Sg.v) A := hrow.frm (.app _ _ []) (fun _ _ => by simp)
      obtain ⟨rv',o1,A2,ha,hr2,hfr,hA⟩ := hr'.push (b := 32) (f := true) (y := sgV k ((l.drop j).take m) j) rfl (by simp; unfold room; omega)
      have hbox : (o' ++ [O.cells [iV k,tV ((l.drop j).take m),iV j]])[o'.length]? = some (.cells [iV k,tV ((l.drop j).take m),iV j]) := get_new
      have hc1 := hfr.cells hbox (hr'.notCells hbox)
      rw [hv]
      unfold sgV at ha ⊢
      simp only [c15,c15x1,c15x2,c15x3,c15x4,c15x5,c15x6,c15x7,c15x8,c15x9,c15x10,c15x11,c15x12,c15x13,RUA,RUB,RUC,RUD,RUE,RUF,if_true,if_false,Int.reduceEq,Int.reduceLT,Int.reduceLE,qC,qO,qA,qS,qU,Nat.reduceEqDiff,qT,E.at,qR,Nat.reduceAdd,Nat.reduceSub,Nat.reduceLeDiff,Nat.reduceMul,qI,qP,qQ,hd2,ha,hc1,hlm,hw]
      refine pcall (past_p (i := j + m) (by omega) hl') rfl (by simp [V.free,V.free1]) ?_
      have hg2 := goneN_le false (l.drop (j + m))
      simp only [List.length_drop] at hg2
      have h3 := h2.shift (n := goneN false (l.drop (j + m))) (by rw [gone_idem,Nat.add_zero])
      have hG := gone_idem false (l.drop (j + m))
      rw [List.drop_drop] at h3 hG
      refine ⟨(j + m + goneN false (l.drop (j + m)),o1,rv'),⟨by simp only; omega,hG,acc ++ [⟨k,(l.drop j).take m,j⟩],A2,by simpa [Sg.v,sgV] using hr2,h3,by simp; omega⟩,by simp only; omega,rfl⟩
  · have hd : decide ((j : Int) < (l.length : Int)) = false := by simpa using hlt
    rw [List.drop_of_length_le (by omega)] at hS
    have := hS.nilI
    subst this
    obtain ⟨w,o1,hz,hw⟩ := RowAt.frzD hrow hf3
    simp only [c15,c15x1,c15x2,c15x3,c15x4,c15x5,c15x6,c15x7,c15x8,c15x9,c15x10,c15x11,c15x12,c15x13,RUA,RUB,RUC,RUD,RUE,RUF,if_true,if_false,Int.reduceEq,Int.reduceLT,Int.reduceLE,qC,qO,qA,qS,qU,Nat.reduceEqDiff,qT,E.at,qR,Nat.reduceAdd,Nat.reduceSub,Nat.reduceLeDiff,Nat.reduceMul,qI,qP,qQ,hd]
    exact ⟨_,_,frzT_3 hz rfl rfl,_,rfl,hw⟩

end Go.Proofs.YtjfnhpnfkknmoaaDoor
end

section
set_option linter.unusedVariables false
set_option linter.unusedSimpArgs false
set_option maxRecDepth 100000
set_option maxHeartbeats 4000000
open Go.Proofs.Pe renaming putCells → qC, bslOf → qO, bsaOf → qA, bslS → qS, isUpto → qU, step → qT, intOf → qI, iop → qP, sop → qQ
open List renaming replicate → qR
open Go.Proofs.Pe.V renaming dead → qD
namespace Go.Proofs.YtjfnhpnfkknmoaaDoor
open Go.Proofs.Pe

theorem words_p : PFn Tryd.prog T 90 [] fun z => z = .sl 1 true kV := by
  intro yi hy
  refine Call.step hy ?_
  rw [body_eq t90]
  simp only [c90,c90x1,RUA,RUB,RUC,RUD,RUE,RUF,if_true,if_false,Int.reduceEq,Int.reduceLT,Int.reduceLE,qC,qO,qA,qS,qU,Nat.reduceEqDiff,qT,E.at,qR,Nat.reduceAdd,Nat.reduceSub,Nat.reduceLeDiff,Nat.reduceMul,qI,qP,qQ]
  exact ⟨_,_,rfl,rfl⟩
theorem index_p {s : List UInt8} : PFn Tryd.prog T 66 [.sl 1 true kV,tV s] fun z => ∃ k : Int,z = iV k ∧ decide (0 ≤ k) = isKey s := by
  have hr : ∀ o,rowOf o (.sl 1 true kV) = some kV := fun o => rfl
  have hlen : kV.length = 16 := rfl
  intro yi hy
  refine Call.step hy ?_
  rw [body_eq t66]
  simp only [c66,c66x1,c66x2,RUA,RUB,RUC,RUD,RUE,RUF,if_true,if_false,Int.reduceEq,Int.reduceLT,Int.reduceLE,qC,qO,qA,qS,qU,Nat.reduceEqDiff,qT,E.at,qR,Nat.reduceAdd,Nat.reduceSub,Nat.reduceLeDiff,Nat.reduceMul,qI,qP,qQ,hr,hlen]
  refine Lfp.inv call_le hy (fun k : Nat => ⟨⟨[.sl 1 true kV,tV s,.dead,.dead,.dead,.dead,.dead,iV 16,iV k,.dead,.dead,.dead,.dead,.dead,.dead,.dead,.dead,.dead,.dead],[]⟩,[]⟩) (fun k => 16 - k)
    (fun k => k ≤ 16 ∧ ∀ j,j < k → kW[j]? ≠ some s) 0 ⟨Nat.zero_le _,fun j h => by omega⟩ (by simp only [kill_L,killTs_nil,RUF] <;> rfl) ?_
  rintro k ⟨hk,hno⟩
  by_cases hlt : k < 16
  · have hd : decide ((k : Int) < 16) = true := by simp; omega
    have hdk : kW[k]? = some kW[k] := List.getElem?_eq_getElem hlt
    have hdv : kV[k]? = some (tV kW[k]) := by simp [kV,hdk]
    have hI : ∀ o,ixOf 1 o (.sl 1 true kV) (iV k) = some (.ep [tV kW[k]],o) := fun o => IsSl.ix (.inr ⟨_,rfl⟩) o hdv
    have hmem : kW[k] ∈ kW := List.getElem_mem hlt
    have hw1 : IntKind.i64.wrap ((k : Int) + 1) = ((k + 1 : Nat) : Int) := wrap_succ (by omega)
    generalize kW[k] = d at hdk hI hmem hdv
    by_cases he : s = d
    · have hb : (s == d) = true := by simpa using he
      simp only [c66,c66x1,c66x2,c66x3,c66x4,c66x5,c66x6,c66x7,c66x8,c66x9,RUA,RUB,RUC,RUD,RUE,RUF,if_true,if_false,Int.reduceEq,Int.reduceLT,Int.reduceLE,qC,qO,qA,qS,qU,Nat.reduceEqDiff,qT,E.at,qR,Nat.reduceAdd,Nat.reduceSub,Nat.reduceLeDiff,Nat.reduceMul,qI,qP,qQ,hd,hI,hb]
      refine ⟨_,_,rfl,(k : Int),rfl, ?_⟩
      have : isKey s = true := by unfold isKey; rw [he]; simpa using hmem
      rw [this]; simp
    · have hb : (s == d) = false := by simpa using he
      simp only [c66,c66x1,c66x2,c66x3,c66x4,c66x5,c66x6,c66x7,c66x8,c66x9,RUA,RUB,RUC,RUD,RUE,RUF,if_true,if_false,Int.reduceEq,Int.reduceLT,Int.reduceLE,qC,qO,qA,qS,qU,Nat.reduceEqDiff,qT,E.at,qR,Nat.reduceAdd,Nat.reduceSub,Nat.reduceLeDiff,Nat.reduceMul,qI,qP,qQ,hd,hI,hb,hw1]
      refine ⟨k + 1,⟨by omega,fun j hj => ?_⟩,by omega,rfl⟩
      by_cases h : j = k
      · rw [h,hdk]; intro e; exact he (Option.some.inj e).symm
      · exact hno j (by omega)
  · have hd : decide ((k : Int) < 16) = false := by simp; omega
    simp only [c66,c66x1,c66x2,c66x3,c66x4,c66x5,c66x6,c66x7,c66x8,c66x9,RUA,RUB,RUC,RUD,RUE,RUF,if_true,if_false,Int.reduceEq,Int.reduceLT,Int.reduceLE,qC,qO,qA,qS,qU,Nat.reduceEqDiff,qT,E.at,qR,Nat.reduceAdd,Nat.reduceSub,Nat.reduceLeDiff,Nat.reduceMul,qI,qP,qQ,hd]
    refine ⟨_,_,rfl,(-1 : Int),rfl, ?_⟩
    have : isKey s = false := by
      cases hc : isKey s with
      | false => rfl
      | true =>
        unfold isKey at hc
        have hm : s ∈ kW := by simpa using hc
        obtain ⟨j,hj,e⟩ := List.getElem_of_mem hm
        have hj16 : j < 16 := hj
        exact (hno j (by omega) (by rw [List.getElem?_eq_getElem hj,e])).elim
    rw [this]; rfl
theorem key_p (s : List UInt8) : PFn Tryd.prog T 78 [tV s] fun z => z = bV (isKey s) := by
  have hin : PFn Tryd.prog T 52 [.sl 1 true kV,tV s] fun z => z = bV (isKey s) := by
    intro yi hy
    refine Call.step hy ?_
    rw [body_eq t52]
    simp only [c52,c52x1,RUA,RUB,RUC,RUD,RUE,RUF,if_true,if_false,Int.reduceEq,Int.reduceLT,Int.reduceLE,qC,qO,qA,qS,qU,Nat.reduceEqDiff,qT,E.at,qR,Nat.reduceAdd,Nat.reduceSub,Nat.reduceLeDiff,Nat.reduceMul,qI,qP,qQ]
    refine index_p.callF rfl (by simp [V.free,V.free1]) fun z hz => ?_
    obtain ⟨k,rfl,hk⟩ := hz
    simp only [c52,c52x1,RUA,RUB,RUC,RUD,RUE,RUF,if_true,if_false,Int.reduceEq,Int.reduceLT,Int.reduceLE,qC,qO,qA,qS,qU,Nat.reduceEqDiff,qT,E.at,qR,Nat.reduceAdd,Nat.reduceSub,Nat.reduceLeDiff,Nat.reduceMul,qI,qP,qQ,hk]
    exact ⟨_,_,rfl,rfl⟩
  intro yi hy
  refine Call.step hy ?_
  rw [body_eq t78]
  simp only [c78,c78x1,RUA,RUB,RUC,RUD,RUE,RUF,if_true,if_false,Int.reduceEq,Int.reduceLT,Int.reduceLE,qC,qO,qA,qS,qU,Nat.reduceEqDiff,qT,E.at,qR,Nat.reduceAdd,Nat.reduceSub,Nat.reduceLeDiff,Nat.reduceMul,qI,qP,qQ]
  refine pcall words_p rfl (by simp) ?_
  refine pcall hin rfl (by simp [V.free,V.free1]) ?_
  exact ⟨_,_,rfl,rfl⟩
theorem q_srng {T : Tab} {ca : Ca} {yi : Nat → Sem'} {t : List V} {o : List O} {K : V → List O → Prop} {x : E} : evK Tryd.prog T ca yi (.srng x) t o K = oK (Pe.step Tryd.prog ⟨t,o⟩ (.srng x)) K := propext Iff.rfl
theorem q_snxt {T : Tab} {ca : Ca} {yi : Nat → Sem'} {t : List V} {o : List O} {K : V → List O → Prop} {x : E} : evK Tryd.prog T ca yi (.snxt x) t o K = oK (Pe.step Tryd.prog ⟨t,o⟩ (.snxt x)) K := propext Iff.rfl
theorem name_p {s : List UInt8} (hl : s.length ≤ lim) : PFn Tryd.prog T 69 [tV s] fun z => z = bV (isName s) := by
  have hk := key_p s
  unfold lim at hl
  intro yi hy
  refine Call.step hy ?_
  rw [body_eq t69]
  by_cases h1 : s.length < 1
  · have d1 : decide ((s.length : Int) < 1) = true := decide_eq_true (by omega)
    simp only [c69,c69x1,c69x2,c69x3,c69x4,c69x5,c69x6,c69x7,c69x8,c69x9,c69x10,RUA,RUB,RUC,RUD,RUE,RUF,if_true,if_false,Int.reduceEq,Int.reduceLT,Int.reduceLE,qC,qO,qA,qS,qU,Nat.reduceEqDiff,qT,E.at,qR,Nat.reduceAdd,Nat.reduceSub,Nat.reduceLeDiff,Nat.reduceMul,qI,qP,qQ,d1]
    exact ⟨_,_,rfl,by rw [name_short h1]⟩
  have d1 : decide ((s.length : Int) < 1) = false := decide_eq_false (by omega)
  by_cases h2 : 20 < s.length
  · have d2 : decide ((20 : Int) < (s.length : Int)) = true := decide_eq_true (by omega)
    simp only [c69,c69x1,c69x2,c69x3,c69x4,c69x5,c69x6,c69x7,c69x8,c69x9,c69x10,RUA,RUB,RUC,RUD,RUE,RUF,if_true,if_false,Int.reduceEq,Int.reduceLT,Int.reduceLE,qC,qO,qA,qS,qU,Nat.reduceEqDiff,qT,E.at,qR,Nat.reduceAdd,Nat.reduceSub,Nat.reduceLeDiff,Nat.reduceMul,qI,qP,qQ,d1,d2]
    exact ⟨_,_,rfl,by rw [name_long h2]⟩
  have d2 : decide ((20 : Int) < (s.length : Int)) = false := decide_eq_false (by omega)
  simp only [c69,c69x1,RUA,RUB,RUC,RUD,RUE,RUF,if_true,if_false,Int.reduceEq,Int.reduceLT,Int.reduceLE,qC,qO,qA,qS,qU,Nat.reduceEqDiff,qT,E.at,qR,Nat.reduceAdd,Nat.reduceSub,Nat.reduceLeDiff,Nat.reduceMul,qI,qP,qQ,d1,d2]
  refine pcall hk rfl (by simp [V.free,V.free1]) ?_
  cases hkk : isKey s with
  | true =>
    simp only [c69,c69x1,c69x2,c69x3,c69x4,c69x5,c69x6,c69x7,c69x8,c69x9,c69x10,RUA,RUB,RUC,RUD,RUE,RUF,if_true,if_false,Int.reduceEq,Int.reduceLT,Int.reduceLE,qC,qO,qA,qS,qU,Nat.reduceEqDiff,qT,E.at,qR,Nat.reduceAdd,Nat.reduceSub,Nat.reduceLeDiff,Nat.reduceMul,qI,qP,qQ]
    exact ⟨_,_,rfl,by rw [name_key hkk]⟩
  | false =>
    have hn := name_w h1 h2 hkk
    simp only [c69,c69x1,c69x2,c69x3,RUA,RUB,RUC,RUD,RUE,RUF,if_true,if_false,Int.reduceEq,Int.reduceLT,Int.reduceLE,qC,qO,qA,qS,qU,Nat.reduceEqDiff,qT,E.at,qR,Nat.reduceAdd,Nat.reduceSub,Nat.reduceLeDiff,Nat.reduceMul,qI,qP,qQ,q_srng]
    refine Lfp.inv call_le hy (fun i : Nat => ⟨⟨[.dead,.dead,.dead,.dead,.dead,.dead,.dead,.dead,.dead,.dead,.dead,.dead,.dead,.dead,.dead,.dead,.dead,.dead,.it 0,.dead,.dead,.dead,.dead,.dead,.dead,.dead,.dead,.dead,.dead,.dead,.dead,.dead,.dead,.dead,.dead,.dead,.dead,.dead,.dead,.dead,.dead],[.dfd (.it ⟨s.toArray⟩ i)]⟩,[]⟩) (fun i => s.length - i)
      (fun i => i ≤ s.length ∧ ∀ j c,j < i → s[j]? = some c → okB (j == 0) c = true) 0 ⟨Nat.zero_le _,fun j c h => by omega⟩ (by simp only [kill_L,killTs_nil,RUF] <;> rfl) ?_
    rintro i ⟨hi,hok⟩
    by_cases hlt : i < s.length
    · have hx : s[i]? = some s[i] := List.getElem?_eq_getElem hlt
      generalize s[i] = c at hx
      by_cases hc : c.toNat < 128
      · have hdec := dec_lo hx hc
        have e1 : decide ((127 : Int) < (c.toNat : Int)) = false := decide_eq_false (by omega)
        have hwu : IntKind.u8.wrap (c.toNat : Int) = (c.toNat : Int) := by
          have := c.toNat_lt
          simp [IntKind.wrap,IntKind.bits,IntKind.signed]
          try omega
        have bad : okB (i == 0) c = false → wordy s = false := fun h => wordy_f hx h
        have next : okB (i == 0) c = true → ∃ a',(a' ≤ s.length ∧ ∀ j d,j < a' → s[j]? = some d → okB (j == 0) d = true) ∧ s.length - a' < s.length - i ∧ a' = i + 1 := fun ho =>
          ⟨i + 1,⟨by omega,fun j d hj hd => by
            by_cases e : j = i
            · subst e; rw [hx] at hd; cases hd; exact ho
            · exact hok j d (by omega) hd⟩,by omega,rfl⟩
        by_cases h0 : i = 0
        · have e2 : decide ((i : Int) = 0) = true := decide_eq_true (by omega)
          simp only [c69,c69x1,c69x2,c69x3,c69x4,c69x5,c69x6,c69x7,c69x8,c69x9,RUA,RUB,RUC,RUD,RUE,RUF,if_true,if_false,Int.reduceEq,Int.reduceLT,Int.reduceLE,qC,qO,qA,qS,qU,Nat.reduceEqDiff,qT,E.at,qR,Nat.reduceAdd,Nat.reduceSub,Nat.reduceLeDiff,Nat.reduceMul,qI,qP,qQ,q_snxt,if_pos hlt,hdec,e1,e2,hwu]
          refine pcall (small_p c) rfl (by simp [V.free,V.free1]) ?_
          cases hs : isSm c with
          | false =>
            have ho : okB (i == 0) c = false := by rw [h0]; exact hs
            simp only [c69,c69x1,c69x2,c69x3,c69x4,c69x5,c69x6,c69x7,c69x8,c69x9,c69x10,RUA,RUB,RUC,RUD,RUE,RUF,if_true,if_false,Int.reduceEq,Int.reduceLT,Int.reduceLE,qC,qO,qA,qS,qU,Nat.reduceEqDiff,qT,E.at,qR,Nat.reduceAdd,Nat.reduceSub,Nat.reduceLeDiff,Nat.reduceMul,qI,qP,qQ,hwu]
            exact ⟨_,_,rfl,by rw [hn,bad ho]⟩
          | true =>
            have ho : okB (i == 0) c = true := by rw [h0]; exact hs
            have hi1 : isIn c = true := by simp [isIn,hs]
            simp only [c69,c69x1,c69x2,c69x3,c69x4,c69x5,c69x6,c69x7,c69x8,c69x9,c69x10,RUA,RUB,RUC,RUD,RUE,RUF,if_true,if_false,Int.reduceEq,Int.reduceLT,Int.reduceLE,qC,qO,qA,qS,qU,Nat.reduceEqDiff,qT,E.at,qR,Nat.reduceAdd,Nat.reduceSub,Nat.reduceLeDiff,Nat.reduceMul,qI,qP,qQ,hwu]
            refine pcall (inner_p c) rfl (by simp [V.free,V.free1]) ?_
            rw [hi1]
            obtain ⟨a',n1,n2,n3⟩ := next ho
            simp only [c69,c69x1,c69x2,c69x3,c69x4,c69x5,c69x6,c69x7,c69x8,c69x9,c69x10,RUA,RUB,RUC,RUD,RUE,RUF,if_true,if_false,Int.reduceEq,Int.reduceLT,Int.reduceLE,qC,qO,qA,qS,qU,Nat.reduceEqDiff,qT,E.at,qR,Nat.reduceAdd,Nat.reduceSub,Nat.reduceLeDiff,Nat.reduceMul,qI,qP,qQ]
            exact ⟨a',n1,n2,by rw [n3]⟩
        · have e2 : decide ((i : Int) = 0) = false := decide_eq_false (by omega)
          have h00 : (i == 0) = false := by simpa using h0
          simp only [c69,c69x1,c69x2,c69x3,c69x4,c69x5,c69x6,c69x7,c69x8,c69x9,RUA,RUB,RUC,RUD,RUE,RUF,if_true,if_false,Int.reduceEq,Int.reduceLT,Int.reduceLE,qC,qO,qA,qS,qU,Nat.reduceEqDiff,qT,E.at,qR,Nat.reduceAdd,Nat.reduceSub,Nat.reduceLeDiff,Nat.reduceMul,qI,qP,qQ,q_snxt,if_pos hlt,hdec,e1,e2,hwu]
          refine pcall (inner_p c) rfl (by simp [V.free,V.free1]) ?_
          cases hs : isIn c with
          | false =>
            have ho : okB (i == 0) c = false := by rw [h00]; exact hs
            simp only [c69,c69x1,c69x2,c69x3,c69x4,c69x5,c69x6,c69x7,c69x8,c69x9,c69x10,RUA,RUB,RUC,RUD,RUE,RUF,if_true,if_false,Int.reduceEq,Int.reduceLT,Int.reduceLE,qC,qO,qA,qS,qU,Nat.reduceEqDiff,qT,E.at,qR,Nat.reduceAdd,Nat.reduceSub,Nat.reduceLeDiff,Nat.reduceMul,qI,qP,qQ]
            exact ⟨_,_,rfl,by rw [hn,bad ho]⟩
          | true =>
            have ho : okB (i == 0) c = true := by rw [h00]; exact hs
            obtain ⟨a',n1,n2,n3⟩ := next ho
            simp only [c69,c69x1,c69x2,c69x3,c69x4,c69x5,c69x6,c69x7,c69x8,c69x9,c69x10,RUA,RUB,RUC,RUD,RUE,RUF,if_true,if_false,Int.reduceEq,Int.reduceLT,Int.reduceLE,qC,qO,qA,qS,qU,Nat.reduceEqDiff,qT,E.at,qR,Nat.reduceAdd,Nat.reduceSub,Nat.reduceLeDiff,Nat.reduceMul,qI,qP,qQ]
            exact ⟨a',n1,n2,by rw [n3]⟩
      · obtain ⟨r,w,hdec,hr⟩ := dec_hi hx (by omega)
        have e1 : decide ((127 : Int) < (r : Int)) = true := decide_eq_true (by omega)
        have ho : okB (i == 0) c = false := by
          have a1 : isSm c = false := by simp [isSm]; omega
          have a2 : isIn c = false := by simp [isIn,a1,isDg]; omega
          unfold okB; split <;> assumption
        simp only [c69,c69x1,c69x2,c69x3,c69x4,c69x5,c69x6,c69x7,c69x8,c69x9,c69x10,RUA,RUB,RUC,RUD,RUE,RUF,if_true,if_false,Int.reduceEq,Int.reduceLT,Int.reduceLE,qC,qO,qA,qS,qU,Nat.reduceEqDiff,qT,E.at,qR,Nat.reduceAdd,Nat.reduceSub,Nat.reduceLeDiff,Nat.reduceMul,qI,qP,qQ,q_snxt,if_pos hlt,hdec,e1]
        exact ⟨_,_,rfl,by rw [hn,wordy_f hx ho]⟩
    · simp only [c69,c69x1,c69x2,c69x3,c69x4,c69x5,c69x6,c69x7,c69x8,c69x9,c69x10,RUA,RUB,RUC,RUD,RUE,RUF,if_true,if_false,Int.reduceEq,Int.reduceLT,Int.reduceLE,qC,qO,qA,qS,qU,Nat.reduceEqDiff,qT,E.at,qR,Nat.reduceAdd,Nat.reduceSub,Nat.reduceLeDiff,Nat.reduceMul,qI,qP,qQ,q_snxt,if_neg hlt]
      exact ⟨_,_,rfl,by rw [hn,wordy_t fun j c hc => hok j c (by have := (List.getElem?_eq_some_iff.1 hc).1; omega) hc]⟩
end Go.Proofs.YtjfnhpnfkknmoaaDoor
end

section
set_option linter.unusedVariables false
namespace Go.Proofs.Pe
variable {P : Program}
/-! ### Raw processes -/
inductive R3 where
  | mk (k a b : Int) (e : List Rw) (l : List R3)
mutual
def IsR3 : R3 → V → Prop
  | .mk k a b e l,v => ∃ ev evs lv vs,v = .agg [iV k,iV a,iV b,ev,lv] ∧ IsSl 3 ev evs ∧ evs.length ≤ maxLen ∧ All2 IsRw e evs ∧ IsSl 5 lv vs ∧ vs.length ≤ maxLen ∧ IsR3s l vs
def IsR3s : List R3 → List V → Prop
  | [],vs => vs = []
  | x :: l,vs => ∃ v ws,vs = v :: ws ∧ IsR3 x v ∧ IsR3s l ws
end
theorem IsR3.ok {x : R3} {v : V} (h : IsR3 x v) : v.free = true ∧ v.cells.length = 5 := by
  cases x; obtain ⟨ev,evs,lv,vs,rfl,h1,_,_,h2,_⟩ := h
  exact ⟨by simp only [free_agg,List.all_cons,List.all_nil,free1_sc,h1.free,h2.free,Bool.and_self],rfl⟩
structure R3Types (P : Program) (tr tl r3 l3 : TypeId) : Prop where
  rw : RwTypes P tr tl
  sl : P.underlying l3 = some (.slice r3)
  ce : P.cellsOf r3 = 5
  st : ∃ fs,P.underlying r3 = some (.struct fs) ∧ fs.toList.map (·.type) = [3,3,3,tl,l3]
/-! ### Processes by names -/
inductive Pr where
  | mk (k : Int) (nm to : ByteArray) (e : Ex) (l : List Pr)
mutual
def IsPr : Pr → V → Prop
  | .mk k nm to (.mk ek en em el) l,v => ∃ ev evs lv vs,v = .agg [iV k,sV nm,sV to,iV ek,iV en,sV em,ev,lv] ∧ IsSl 4 ev evs ∧ evs.length ≤ cap ∧ IsExs el evs ∧ IsSl 8 lv vs ∧ vs.length ≤ cap ∧ IsPrs l vs
def IsPrs : List Pr → List V → Prop
  | [],vs => vs = []
  | x :: l,vs => ∃ v ws,vs = v :: ws ∧ IsPr x v ∧ IsPrs l ws
end
theorem IsPr.ok {x : Pr} {v : V} (h : IsPr x v) : v.free = true ∧ v.cells.length = 8 := by
  rcases x with ⟨_,_,_,⟨_,_,_,_⟩,_⟩; obtain ⟨ev,evs,lv,vs,rfl,h1,_,_,h2,_⟩ := h
  exact ⟨by simp only [free_agg,List.all_cons,List.all_nil,free1_sc,h1.free,h2.free,Bool.and_self],rfl⟩
theorem IsPr.solid {x : Pr} {v : V} (h : IsPr x v) : v.solid = true := by
  rcases x with ⟨_,_,_,⟨_,_,_,_⟩,_⟩; obtain ⟨ev,evs,lv,vs,rfl,h1,_,_,h2,_⟩ := h
  simp only [solid_agg,List.all_cons,List.all_nil,one_sc,free1_one h1.free,free1_one h2.free,Bool.and_true]
inductive PrOk : Pr → Prop where
  | mk {k : Int} {nm to : ByteArray} {e : Ex} {l : List Pr} : l.length ≤ 2 → (k = 12 → l.length = 2) → (∀ x ∈ l,PrOk x) → PrOk (.mk k nm to e l)
def prP (z : V) : Prop := ∃ p,IsPr p z ∧ PrOk p
theorem prP.ok {z : V} (h : prP z) : z.free = true ∧ z.cells.length = 8 ∧ z.solid = true := by
  obtain ⟨p,h1,_⟩ := h
  exact ⟨h1.ok.1,h1.ok.2,h1.solid⟩
theorem prP.fr {z : V} (h : prP z) (o : List O) : ∃ w o2,freezeT o z = some (w,o2) ∧ prP w := ⟨z,o,frzT_free h.ok.1,h⟩
end Go.Proofs.Pe
end

section
set_option linter.unusedVariables false
namespace Go.Proofs.Pe
/-! ### Names and their numbers -/
theorem ba_list (a : ByteArray) : a.toList = a.data.toList := by
  rcases a with ⟨⟨l⟩⟩
  exact btl l
theorem ba_eq (a b : ByteArray) : (a.toList == b.toList) = decide (a = b) := by
  rw [ba_list,ba_list]
  by_cases h : a = b
  · subst h; simp
  · have : ¬ a.data.toList = b.data.toList := fun e => h (by
      rcases a with ⟨⟨l⟩⟩; rcases b with ⟨⟨l'⟩⟩; simp at e; subst e; rfl)
    rw [decide_eq_false h]; simpa using this
def nmsV (ns : List ByteArray) : List V := ns.map sV
theorem nms_free (ns : List ByteArray) : (nmsV ns).all V.free = true := by
  simp [nmsV,List.all_eq_true,V.free,V.free1]
theorem nms_snoc (ns : List ByteArray) (s : ByteArray) : nmsV ns ++ [sV s] = nmsV (ns ++ [s]) := by simp [nmsV]
theorem nms_len (ns : List ByteArray) : (nmsV ns).length = ns.length := by simp [nmsV]
theorem nms_get {ns : List ByteArray} {i : Nat} {s : ByteArray} (h : ns[i]? = some s) : (nmsV ns)[i]? = some (sV s) := by simp [nmsV,h]
def findO : List ByteArray → ByteArray → Option Nat
  | [],_ => none
  | x :: xs,s => if x = s then some 0 else (findO xs s).map (· + 1)
def findI (ns : List ByteArray) (s : ByteArray) : Int := match findO ns s with
  | some k => k
  | none => -1
/-! ### By numbers -/
mutual
def lowE (V : List ByteArray) : Ex → Ex
  | .mk k n m l => .mk k (if k = 2 then findI V m else n) emp (lowEs V l)
def lowEs (V : List ByteArray) : List Ex → List Ex
  | [] => []
  | x :: l => lowE V x :: lowEs V l
end
mutual
def badE (V : List ByteArray) : Ex → Bool
  | .mk k n m l => (decide (k = 2) && decide (findI V m < 0)) || badEs V l
def badEs (V : List ByteArray) : List Ex → Bool
  | [] => false
  | x :: l => badE V x || badEs V l
end
def zE : Ex := .mk 0 0 emp []
def lowA (V S D : List ByteArray) (k : Int) (nm to : ByteArray) : Int :=
  if k = 1 then (if to = emp then -1 else findI V to) else if k = 2 then findI V to else if k = 3 ∨ k = 4 ∨ k = 5 ∨ k = 6 then findI S nm else if k = 13 then findI D nm else 0
def lowB (S : List ByteArray) (k : Int) (to : ByteArray) : Int := if k = 6 then findI S to else 0
def badA (V S D : List ByteArray) (k : Int) (nm to : ByteArray) : Bool :=
  if k = 1 then !decide (to = emp) && decide (findI V to < 0) else if k = 2 then decide (findI V to < 0) else if k = 3 ∨ k = 4 ∨ k = 5 then decide (findI S nm < 0) else if k = 6 then (decide (findI S nm < 0) || decide (findI S to < 0)) else if k = 13 then decide (findI D nm < 0) else false
mutual
def lowP (V S D : List ByteArray) : Pr → Tm
  | .mk k nm to e l => .mk k (lowA V S D k nm to) (lowB S k to) (if k = 1 then nm else emp) (if k = 2 ∨ k = 9 then lowE V e else zE) (lowPs V S D l)
def lowPs (V S D : List ByteArray) : List Pr → List Tm
  | [] => []
  | x :: l => lowP V S D x :: lowPs V S D l
end
mutual
def badP (V S D : List ByteArray) : Pr → Bool
  | .mk k nm to e l => (badA V S D k nm to || (decide (k = 2 ∨ k = 9) && badE V e)) || badPs V S D l
def badPs (V S D : List ByteArray) : List Pr → Bool
  | [] => false
  | x :: l => badP V S D x || badPs V S D l
end
end Go.Proofs.Pe
end

section
set_option linter.unusedVariables false
namespace Go.Proofs.Pe
/-! ### All that an expression is made of, from left to right -/
mutual
def nodes : Ex → List Ex
  | .mk k n m l => .mk k n m l :: nodesL l
def nodesL : List Ex → List Ex
  | [] => []
  | x :: l => nodes x ++ nodesL l
end
theorem nodesL_append : ∀ (a b : List Ex),nodesL (a ++ b) = nodesL a ++ nodesL b
  | [],b => rfl
  | x :: a,b => by simp [nodesL,nodesL_append a b]
theorem nodesL_take {l : List Ex} {i : Nat} {x : Ex} (h : l[i]? = some x) : nodesL (l.take (i + 1)) = nodesL (l.take i) ++ nodes x := by
  rw [List.take_add_one,h,nodesL_append]; simp [nodesL]
/-! ### Whether an expression may be -/
end Go.Proofs.Pe
end

section
set_option linter.unusedVariables false
set_option linter.unusedSimpArgs false
namespace Go.Proofs.Pe
theorem zIs : IsEx (.mk 0 0 emp []) (.agg [iV 0,iV 0,sV emp,nilV]) := ⟨nilV,[],rfl,.inl ⟨rfl,rfl⟩,by simp,rfl⟩
theorem ex_agg {x : Ex} {z : V} (h : IsEx x z) : ∃ a b c d,z = .agg [iV a,iV b,sV c,d] ∧ d.one = true := by
  rcases x with ⟨k,n,nm,l⟩
  obtain ⟨lv,vs,rfl,h1,_⟩ := h
  exact ⟨_,_,_,_,rfl,free1_one h1.free⟩
theorem ex_one {k : Int} {x : Ex} {z : V} (h : IsEx x z) : IsEx (.mk k 0 emp [x]) (.agg [iV k,iV 0,sV emp,.sl 4 true [z]]) :=
  ⟨_,[z],rfl,.inr ⟨_,rfl⟩,by simp [cap],z,[],rfl,h,rfl⟩
theorem ex_two {k : Int} {x y : Ex} {z u : V} (h : IsEx x z) (h2 : IsEx y u) : IsEx (.mk k 0 emp [x,y]) (.agg [iV k,iV 0,sV emp,.sl 4 true [z,u]]) :=
  ⟨_,[z,u],rfl,.inr ⟨_,rfl⟩,by simp [cap],z,[u],rfl,h,u,[],rfl,h2,rfl⟩
theorem catOk {n : Nat} (h : n ≤ 1000000000) : (((n : Nat) : Int) > IntKind.i64.max) = False := by
  apply eq_false
  show ¬ ((n : Int) > 9223372036854775807)
  omega
theorem numI_take {t : List UInt8} {k : Nat} {c : UInt8} (h : t[k]? = some c) : numI (t.take (k + 1)) = 10 * numI (t.take k) + (c.toNat - 48) := by
  rw [List.take_add_one,h,Option.toList_some,numI_snoc]
theorem numI_lt {t : List UInt8} (h : ∀ c ∈ t,isDg c = true) : ∀ k,k ≤ t.length → numI (t.take k) < 10 ^ k
  | 0,_ => by simp [numI]
  | k + 1,hk => by
    have hx : t[k]? = some t[k] := List.getElem?_eq_getElem (by omega)
    have hc := h _ (List.getElem_mem (l := t) (n := k) (by omega))
    have ih := numI_lt h k (by omega)
    rw [numI_take hx,Nat.pow_succ]
    simp [isDg] at hc
    omega
theorem pow18 {k : Nat} (h : k ≤ 18) : 10 ^ k ≤ 1000000000000000000 := Nat.pow_le_pow_right (by omega) h
theorem br_len (x : Ex) (t : List UInt8) : t.length ≤ (brE x t).length ∧ (brE x t).length ≤ t.length + 2 := by
  unfold brE; split
  · simp; omega
  · exact ⟨Nat.le_refl _,by omega⟩
theorem br_not {k n : Int} {nm : ByteArray} {l : List Ex} {t : List UInt8} (h : l.length ≠ 2) : brE (.mk k n nm l) t = t := by
  unfold brE; split
  · rename_i e; cases e; simp at h
  · rfl
def isTx (t : List UInt8) (y : V) : Bool := match y with
  | .sc (.string s) => s.toList == t
  | _ => false
theorem isTx_eq {t : List UInt8} {y : V} (h : isTx t y = true) : y = tV t := by
  unfold isTx at h
  split at h
  · rename_i s
    have := eq_of_beq h
    rw [← this]
    show V.sc (.string s) = V.sc (.string ⟨s.toList.toArray⟩)
    rw [ba_list]
  · cases h

/-! ### Names, each once -/
noncomputable instance memD (s : ByteArray) (l : List ByteArray) : Decidable (s ∈ l) := Classical.propDecidable _
noncomputable def addN (out : List ByteArray) (s : ByteArray) : List ByteArray := if s ∈ out then out else out ++ [s]
noncomputable def ddN (l : List ByteArray) : List ByteArray := l.foldl addN []
theorem addN_mem {out : List ByteArray} {s a : ByteArray} : a ∈ addN out s ↔ a ∈ out ∨ a = s := by
  unfold addN; split
  · rename_i h
    constructor
    · exact .inl
    · rintro (h1 | rfl)
      · exact h1
      · exact h
  · simp
theorem foldN_mem : ∀ {l out : List ByteArray} {a : ByteArray},a ∈ l.foldl addN out ↔ a ∈ out ∨ a ∈ l
  | [],out,a => by simp
  | s :: l,out,a => by
    rw [List.foldl_cons,foldN_mem,addN_mem,List.mem_cons,or_assoc]
theorem ddN_snoc (l : List ByteArray) (s : ByteArray) : ddN (l ++ [s]) = addN (ddN l) s := by simp [ddN,List.foldl_append]
theorem dd_merge (out : List ByteArray) (l : List ByteArray) : (ddN l).foldl addN out = l.foldl addN out := by
  suffices h : ∀ r : List ByteArray,(ddN r.reverse).foldl addN out = r.reverse.foldl addN out by
    have := h l.reverse
    rwa [List.reverse_reverse] at this
  intro r
  induction r with
  | nil => rfl
  | cons s r ih =>
    rw [List.reverse_cons,ddN_snoc,List.foldl_append,List.foldl_cons,List.foldl_nil]
    by_cases h : s ∈ ddN r.reverse
    · have h2 : s ∈ r.reverse.foldl addN out := foldN_mem.2 (.inr (by
        have := foldN_mem.1 h
        simpa using this))
      rw [show addN (ddN r.reverse) s = ddN r.reverse from if_pos h,ih,show addN (r.reverse.foldl addN out) s = _ from if_pos h2]
    · rw [show addN (ddN r.reverse) s = ddN r.reverse ++ [s] from if_neg h,List.foldl_append,ih]; rfl
def varN : Ex → List ByteArray
  | .mk k _ nm _ => if k = 2 then [nm] else []
def varsN (l : List Ex) : List ByteArray := l.flatMap varN
theorem addN_len (out : List ByteArray) (s : ByteArray) : (addN out s).length ≤ out.length + 1 := by unfold addN; split <;> simp
theorem foldN_len : ∀ (l out : List ByteArray),(l.foldl addN out).length ≤ out.length + l.length
  | [],out => by simp
  | s :: l,out => by
    have h1 := foldN_len l (addN out s)
    have h2 := addN_len out s
    simp; omega
end Go.Proofs.Pe
end

section
set_option linter.unusedVariables false
set_option linter.unusedSimpArgs false
set_option maxRecDepth 100000
set_option maxHeartbeats 4000000
open Go.Proofs.Pe renaming putCells → qC, bslOf → qO, bsaOf → qA, bslS → qS, isUpto → qU, step → qT, intOf → qI, iop → qP, sop → qQ
open List renaming replicate → qR
open Go.Proofs.Pe.V renaming dead → qD
namespace Go.Proofs.YtjfnhpnfkknmoaaDoor
open Go.Proofs.Pe

/-! ### The reader of expressions: what stands here -/
def sgnsV : List V := (List.range 18).map fun k => tV (kTxt k)
def lvlsV : List V := (List.range 5).map fun k => .agg [iV (lvLo k),iV (lvHi k)]
theorem signs_l : PFn Tryd.prog T 44 [] fun z => z = .sl 1 true sgnsV := by
  intro yi hy
  refine Call.step hy ?_
  rw [body_eq t44]
  simp only [c44,c44x1,RUA,RUB,RUC,RUD,RUE,RUF,if_true,if_false,Int.reduceEq,Int.reduceLT,Int.reduceLE,qC,qO,qA,qS,qU,Nat.reduceEqDiff,qT,E.at,qR,Nat.reduceAdd,Nat.reduceSub,Nat.reduceLeDiff,Nat.reduceMul,qI,qP,qQ]
  exact ⟨_,_,rfl,rfl⟩
theorem levels_p : PFn Tryd.prog T 57 [] fun z => z = .sl 2 true lvlsV := by
  intro yi hy
  refine Call.step hy ?_
  rw [body_eq t57]
  simp only [c57,c57x1,RUA,RUB,RUC,RUD,RUE,RUF,if_true,if_false,Int.reduceEq,Int.reduceLT,Int.reduceLE,qC,qO,qA,qS,qU,Nat.reduceEqDiff,qT,E.at,qR,Nat.reduceAdd,Nat.reduceSub,Nat.reduceLeDiff,Nat.reduceMul,qI,qP,qQ]
  exact ⟨_,_,rfl,rfl⟩
theorem sgns_get {k : Nat} (h : k < 18) : sgnsV[k]? = some (tV (kTxt k)) := by simp [sgnsV,h]
theorem lvls_get {k : Nat} (h : k < 5) : lvlsV[k]? = some (.agg [iV (lvLo k),iV (lvHi k)]) := by simp [lvlsV,h]

section
variable {o : List O} {p : Nat} {w d e : V} {l : List Sg} {i : Nat} {yi : Nat → Sem'} {K : V → List O → Prop}
theorem sg_ix (hw : IsSl 3 w (l.map Sg.v)) {s : Sg} (h : l[i]? = some s) (o : List O) : ixOf 3 o w (iV i) = some (.ep [iV s.k,tV s.t,iV s.i],o) := by
  have := hw.ix o (n := i) (y := s.v) (by rw [List.getElem?_map,h]; rfl)
  exact this
theorem pmark_c (hy : YLe yi yi) (hw : IsSl 3 w (l.map Sg.v)) (ho : o[p]? = some (.cells [w,iV i,d,e])) (hK : K (tV (markAt l i)) o) : Pe.Call Tryd.prog T yi 74 [.pt p 0] o K := by
  have hrow := fun o => hw.row o
  have hlen : (l.map Sg.v).length = l.length := by simp
  refine Call.step hy ?_
  rw [body_eq t74]
  by_cases hlt : i < l.length
  · have hx : l[i]? = some l[i] := List.getElem?_eq_getElem hlt
    generalize l[i] = s at hx
    have hI := fun o => sg_ix hw hx o
    have hd : decide ((i : Int) < (l.length : Int)) = true := by simpa using hlt
    by_cases hk : s.k = 3
    · have hkd : decide ((s.k : Int) = 3) = true := by simp; omega
      have hm : markAt l i = s.t := by simp only [markAt,hx,hk,if_true]
      rw [hm] at hK
      simp only [c74,c74x1,c74x2,c74x3,RUA,RUB,RUC,RUD,RUE,RUF,if_true,if_false,Int.reduceEq,Int.reduceLT,Int.reduceLE,qC,qO,qA,qS,qU,Nat.reduceEqDiff,qT,E.at,qR,Nat.reduceAdd,Nat.reduceSub,Nat.reduceLeDiff,Nat.reduceMul,qI,qP,qQ,ho,hrow,hlen,hd,hI,hkd]
      exact hK
    · have hkd : decide ((s.k : Int) = 3) = false := by simp; omega
      have hm : markAt l i = [] := by simp only [markAt,hx,if_neg hk]
      rw [hm] at hK
      simp only [c74,c74x1,c74x2,c74x3,RUA,RUB,RUC,RUD,RUE,RUF,if_true,if_false,Int.reduceEq,Int.reduceLT,Int.reduceLE,qC,qO,qA,qS,qU,Nat.reduceEqDiff,qT,E.at,qR,Nat.reduceAdd,Nat.reduceSub,Nat.reduceLeDiff,Nat.reduceMul,qI,qP,qQ,ho,hrow,hlen,hd,hI,hkd]
      exact hK
  · have hd : decide ((i : Int) < (l.length : Int)) = false := by simpa using hlt
    have hm : markAt l i = [] := by simp only [markAt,List.getElem?_eq_none (Nat.le_of_not_lt hlt)]
    rw [hm] at hK
    simp only [c74,c74x1,c74x2,c74x3,RUA,RUB,RUC,RUD,RUE,RUF,if_true,if_false,Int.reduceEq,Int.reduceLT,Int.reduceLE,qC,qO,qA,qS,qU,Nat.reduceEqDiff,qT,E.at,qR,Nat.reduceAdd,Nat.reduceSub,Nat.reduceLeDiff,Nat.reduceMul,qI,qP,qQ,ho,hrow,hlen,hd]
    exact hK
theorem lv_ok : ∀ lv,lv < 5 → 5 ≤ lvLo lv ∧ lvLo lv ≤ lvHi lv ∧ lvHi lv ≤ 17 := by decide
theorem pkind_c (hy : YLe yi yi) (hw : IsSl 3 w (l.map Sg.v)) {lv : Nat} (hlv : lv < 5) (ho : o[p]? = some (.cells [w,iV i,d,e])) (hK : ∀ b,K (iV (kindM lv (markAt l i))) (o ++ [b])) :
    Pe.Call Tryd.prog T yi 59 [.pt p 0,.agg [iV (lvLo lv),iV (lvHi lv)]] o K := by
  obtain ⟨hl1,hl2,hl3⟩ := lv_ok lv hlv
  have hnil := kind_nil lv hlv
  refine Call.step hy ?_
  rw [body_eq t59]
  simp only [c59,c59x1,RUA,RUB,RUC,RUD,RUE,RUF,if_true,if_false,Int.reduceEq,Int.reduceLT,Int.reduceLE,qC,qO,qA,qS,qU,Nat.reduceEqDiff,qT,E.at,qR,Nat.reduceAdd,Nat.reduceSub,Nat.reduceLeDiff,Nat.reduceMul,qI,qP,qQ]
  refine call3 rfl (cm_pt cm_nil) (pmark_c noY_le hw (get_app ho) ⟨Sim.refl _ _, ?_⟩)
  generalize hmm : markAt l i = m at hK
  generalize hkk : kindM lv m = kk at hK
  have hK' := hK (.cells [.agg [iV (lvLo lv),iV (lvHi lv)]])
  simp only [c59,c59x1,c59x2,c59x3,RUA,RUB,RUC,RUD,RUE,RUF,if_true,if_false,Int.reduceEq,Int.reduceLT,Int.reduceLE,qC,qO,qA,qS,qU,Nat.reduceEqDiff,qT,E.at,qR,Nat.reduceAdd,Nat.reduceSub,Nat.reduceLeDiff,Nat.reduceMul,qI,qP,qQ]
  refine Lfp.inv call_le hy (fun k : Nat => ⟨⟨[.dead,.dead,.dead,.pt o.length 0,.dead,tV m,iV k,.dead,.dead,.dead,.dead,.dead,.dead,.dead,.dead,.dead,.dead,.dead,.dead,.dead,.dead,.dead,.dead,.dead,.dead,.dead,.dead,.dead],o ++ [.cells [iV (lvLo lv),iV (lvHi lv)]]⟩,[]⟩) (fun k => lvHi lv + 1 - k)
    (fun k => lvLo lv ≤ k ∧ k ≤ lvHi lv + 1 ∧ kindG (lvHi lv + 1 - k) k m = kk) (lvLo lv) ⟨Nat.le_refl _,by omega,hkk⟩ (by simp only [kill_L,killTs_nil,RUF] <;> rfl) ?_
  rintro k ⟨hk1,hk2,hf⟩
  have fin0 : kk = 0 → K (iV 0) (o ++ [.cells [iV (lvLo lv),iV (lvHi lv)]]) := fun h => by
    have := hK (.cells [iV (lvLo lv),iV (lvHi lv)])
    rw [h] at this; exact this
  by_cases h1 : k ≤ lvHi lv
  · have hd : decide ((k : Int) ≤ (lvHi lv : Int)) = true := by simpa using h1
    have e1 : lvHi lv + 1 - k = (lvHi lv + 1 - (k + 1)) + 1 := by omega
    by_cases hm0 : m = []
    · have hb : (m == ([] : List UInt8)) = true := by simpa using hm0
      have hz : kk = 0 := by rw [← hkk,hm0]; exact hnil
      simp only [c59,c59x1,c59x2,c59x3,c59x4,c59x5,c59x6,c59x7,c59x8,c59x9,RUA,RUB,RUC,RUD,RUE,RUF,if_true,if_false,Int.reduceEq,Int.reduceLT,Int.reduceLE,qC,qO,qA,qS,qU,Nat.reduceEqDiff,qT,E.at,qR,Nat.reduceAdd,Nat.reduceSub,Nat.reduceLeDiff,Nat.reduceMul,qI,qP,qQ,hd,hb]
      exact fin0 hz
    · have hb : (m == ([] : List UInt8)) = false := by simpa using hm0
      have hI : ∀ o,ixOf 1 o (.sl 1 true sgnsV) (iV k) = some (.ep [tV (kTxt k)],o) := fun o => IsSl.ix (.inr ⟨_,rfl⟩) o (sgns_get (by omega))
      have hw1 : IntKind.i64.wrap ((k : Int) + 1) = ((k + 1 : Nat) : Int) := wrap_succ (by omega)
      rw [e1] at hf
      simp only [c59,c59x1,c59x2,c59x3,c59x4,c59x5,c59x6,RUA,RUB,RUC,RUD,RUE,RUF,if_true,if_false,Int.reduceEq,Int.reduceLT,Int.reduceLE,qC,qO,qA,qS,qU,Nat.reduceEqDiff,qT,E.at,qR,Nat.reduceAdd,Nat.reduceSub,Nat.reduceLeDiff,Nat.reduceMul,qI,qP,qQ,hd,hb]
      refine pcall signs_l rfl (by simp) ?_
      simp only [c59,c59x1,c59x2,c59x3,c59x4,c59x5,c59x6,c59x7,c59x8,c59x9,RUA,RUB,RUC,RUD,RUE,RUF,if_true,if_false,Int.reduceEq,Int.reduceLT,Int.reduceLE,qC,qO,qA,qS,qU,Nat.reduceEqDiff,qT,E.at,qR,Nat.reduceAdd,Nat.reduceSub,Nat.reduceLeDiff,Nat.reduceMul,qI,qP,qQ,hI]
      by_cases he : kTxt k = m
      · have hq : (kTxt k == m) = true := by simpa using he
        have hz : kk = k := by rw [← hf,kindG,if_pos hq]
        simp only [c59,c59x1,c59x2,c59x3,c59x4,c59x5,c59x6,c59x7,c59x8,c59x9,RUA,RUB,RUC,RUD,RUE,RUF,if_true,if_false,Int.reduceEq,Int.reduceLT,Int.reduceLE,qC,qO,qA,qS,qU,Nat.reduceEqDiff,qT,E.at,qR,Nat.reduceAdd,Nat.reduceSub,Nat.reduceLeDiff,Nat.reduceMul,qI,qP,qQ,hq]
        rw [← hz]
        exact hK _
      · have hq : (kTxt k == m) = false := by simpa using he
        simp only [c59,c59x1,c59x2,c59x3,c59x4,c59x5,c59x6,c59x7,c59x8,c59x9,RUA,RUB,RUC,RUD,RUE,RUF,if_true,if_false,Int.reduceEq,Int.reduceLT,Int.reduceLE,qC,qO,qA,qS,qU,Nat.reduceEqDiff,qT,E.at,qR,Nat.reduceAdd,Nat.reduceSub,Nat.reduceLeDiff,Nat.reduceMul,qI,qP,qQ,hq,hw1]
        refine ⟨k + 1,⟨by omega,by omega, ?_⟩,by omega,rfl⟩
        rw [← hf,kindG,if_neg (by rw [hq]; simp)]
  · have hd : decide ((k : Int) ≤ (lvHi lv : Int)) = false := by simpa using h1
    have hz : kk = 0 := by rw [← hf,show lvHi lv + 1 - k = 0 by omega]; rfl
    simp only [c59,c59x1,c59x2,c59x3,c59x4,c59x5,c59x6,c59x7,c59x8,c59x9,RUA,RUB,RUC,RUD,RUE,RUF,if_true,if_false,Int.reduceEq,Int.reduceLT,Int.reduceLE,qC,qO,qA,qS,qU,Nat.reduceEqDiff,qT,E.at,qR,Nat.reduceAdd,Nat.reduceSub,Nat.reduceLeDiff,Nat.reduceMul,qI,qP,qQ,hd]
    exact fin0 hz
end
end Go.Proofs.YtjfnhpnfkknmoaaDoor
end

section
set_option linter.unusedVariables false
set_option maxRecDepth 100000
set_option maxHeartbeats 4000000
namespace Go.Proofs.YtjfnhpnfkknmoaaDoor
open Go.Proofs.Pe
theorem known_p : PFn Tryd.prog T 13 [] fun z => z = bV true := (PFn.ofB (test := isTrue) 400 (by kernel_rfl)).mono fun z h => isTrue_eq h
end Go.Proofs.YtjfnhpnfkknmoaaDoor
end

section
set_option linter.unusedVariables false
set_option linter.unusedSimpArgs false
set_option maxRecDepth 100000
set_option maxHeartbeats 4000000
open Go.Proofs.Pe renaming putCells → qC, bslOf → qO, bsaOf → qA, bslS → qS, isUpto → qU, step → qT, intOf → qI, iop → qP, sop → qQ
open List renaming replicate → qR
open Go.Proofs.Pe.V renaming dead → qD
namespace Go.Proofs.YtjfnhpnfkknmoaaDoor
open Go.Proofs.Pe

theorem within_p (a : Int) (n : Int) (hn : 0 < n) (hn2 : n ≤ 1000000) : PFn Tryd.prog T 14 [iV a,iV n] fun z => z = iV (withinI a n) := by
  intro yi hy
  refine Call.step hy ?_
  rw [body_eq t14]
  have h0 : ¬ n = 0 := by omega
  have h1 := Int.tmod_lt_of_pos a hn
  have h2 := neg_lt_tmod a hn
  by_cases hlt : a.tmod n < 0
  · have hd : decide (a.tmod n < 0) = true := by simpa using hlt
    have hw : IntKind.i64.wrap (a.tmod n + n) = withinI a n := by rw [wrap_ok (by omega) (by omega)]; unfold withinI; rw [if_pos hlt]
    simp only [c14,c14x1,c14x2,c14x3,c14x4,RUA,RUB,RUC,RUD,RUE,RUF,if_true,if_false,Int.reduceEq,Int.reduceLT,Int.reduceLE,qC,qO,qA,qS,qU,Nat.reduceEqDiff,qT,E.at,qR,Nat.reduceAdd,Nat.reduceSub,Nat.reduceLeDiff,Nat.reduceMul,qI,qP,qQ,h0,hd,hw]
    exact ⟨_,_,rfl,rfl⟩
  · have hw : a.tmod n = withinI a n := by unfold withinI; rw [if_neg hlt]
    have hd : decide (a.tmod n < 0) = false := by simpa using hlt
    simp only [c14,c14x1,c14x2,c14x3,c14x4,RUA,RUB,RUC,RUD,RUE,RUF,if_true,if_false,Int.reduceEq,Int.reduceLT,Int.reduceLE,qC,qO,qA,qS,qU,Nat.reduceEqDiff,qT,E.at,qR,Nat.reduceAdd,Nat.reduceSub,Nat.reduceLeDiff,Nat.reduceMul,qI,qP,qQ,h0,hd]
    exact ⟨_,_,rfl,by rw [hw]⟩
end Go.Proofs.YtjfnhpnfkknmoaaDoor
end

section
set_option linter.unusedVariables false
set_option linter.unusedSimpArgs false
set_option maxRecDepth 100000
set_option maxHeartbeats 4000000
namespace Go.Proofs.YtjfnhpnfkknmoaaDoor
open Go.Proofs.Pe

end Go.Proofs.YtjfnhpnfkknmoaaDoor
end

section
set_option linter.unusedVariables false
set_option linter.unusedSimpArgs false
set_option maxRecDepth 100000
set_option maxHeartbeats 4000000
open Go.Proofs.Pe renaming putCells → qC, bslOf → qO, bsaOf → qA, bslS → qS, isUpto → qU, step → qT, intOf → qI, iop → qP, sop → qQ
open List renaming replicate → qR
open Go.Proofs.Pe.V renaming dead → qD
namespace Go.Proofs.YtjfnhpnfkknmoaaDoor
open Go.Proofs.Pe

/-! ### Rows of texts -/
theorem index_g {w : V} {ns : List ByteArray} (hw : IsSl 1 w (nmsV ns)) (hl : ns.length ≤ lim) (s : ByteArray) : PFn Tryd.prog T 66 [w,sV s] fun z => ∃ k : Int,z = iV k ∧ decide (0 ≤ k) = decide (s ∈ ns) := by
  unfold lim at hl
  have hrow := fun o => hw.row o
  have hnl := nms_len ns
  intro yi hy
  refine Call.step hy ?_
  rw [body_eq t66]
  simp only [c66,c66x1,c66x2,RUA,RUB,RUC,RUD,RUE,RUF,if_true,if_false,Int.reduceEq,Int.reduceLT,Int.reduceLE,qC,qO,qA,qS,qU,Nat.reduceEqDiff,qT,E.at,qR,Nat.reduceAdd,Nat.reduceSub,Nat.reduceLeDiff,Nat.reduceMul,qI,qP,qQ,hrow]
  refine Lfp.inv call_le hy (fun i : Nat => ⟨⟨[w,sV s,.dead,.dead,.dead,.dead,.dead,iV (nmsV ns).length,iV i,.dead,.dead,.dead,.dead,.dead,.dead,.dead,.dead,.dead,.dead],[]⟩,[]⟩) (fun i => ns.length - i)
    (fun i => i ≤ ns.length ∧ s ∉ ns.take i) 0 ⟨Nat.zero_le _,by simp⟩ (by simp only [kill_L,killTs_nil,RUF] <;> rfl) ?_
  rintro i ⟨hi,hno⟩
  by_cases hlt : i < ns.length
  · have hd : decide ((i : Int) < ((nmsV ns).length : Int)) = true := by rw [hnl]; simpa using hlt
    have hx : ns[i]? = some ns[i] := List.getElem?_eq_getElem hlt
    have hmem : ns[i] ∈ ns := List.getElem_mem hlt
    have htk : ns.take (i + 1) = ns.take i ++ [ns[i]] := by rw [List.take_add_one,hx]; rfl
    generalize ns[i] = a at hx hmem htk
    have hI := fun o => hw.ix o (nms_get hx)
    have hw1 : IntKind.i64.wrap ((i : Int) + 1) = ((i + 1 : Nat) : Int) := wrap_succ (by omega)
    by_cases he : s = a
    · have hb : decide (s = a) = true := by simpa using he
      simp only [c66,c66x1,c66x2,c66x3,c66x4,c66x5,c66x6,c66x7,c66x8,c66x9,RUA,RUB,RUC,RUD,RUE,RUF,if_true,if_false,Int.reduceEq,Int.reduceLT,Int.reduceLE,qC,qO,qA,qS,qU,Nat.reduceEqDiff,qT,E.at,qR,Nat.reduceAdd,Nat.reduceSub,Nat.reduceLeDiff,Nat.reduceMul,qI,qP,qQ,hd,hI,ba_eq,hb]
      refine ⟨_,_,frzT_free rfl,i,rfl, ?_⟩
      have : s ∈ ns := by rw [he]; exact hmem
      simp [this]
    · have hb : decide (s = a) = false := by simpa using he
      simp only [c66,c66x1,c66x2,c66x3,c66x4,c66x5,c66x6,c66x7,c66x8,c66x9,RUA,RUB,RUC,RUD,RUE,RUF,if_true,if_false,Int.reduceEq,Int.reduceLT,Int.reduceLE,qC,qO,qA,qS,qU,Nat.reduceEqDiff,qT,E.at,qR,Nat.reduceAdd,Nat.reduceSub,Nat.reduceLeDiff,Nat.reduceMul,qI,qP,qQ,hd,hI,ba_eq,hb,hw1]
      exact ⟨i + 1,⟨by omega,by rw [htk]; simp [hno,he]⟩,by omega,rfl⟩
  · have hd : decide ((i : Int) < ((nmsV ns).length : Int)) = false := by rw [hnl]; simpa using hlt
    rw [List.take_of_length_le (by omega)] at hno
    simp only [c66,c66x1,c66x2,c66x3,c66x4,c66x5,c66x6,c66x7,c66x8,c66x9,RUA,RUB,RUC,RUD,RUE,RUF,if_true,if_false,Int.reduceEq,Int.reduceLT,Int.reduceLE,qC,qO,qA,qS,qU,Nat.reduceEqDiff,qT,E.at,qR,Nat.reduceAdd,Nat.reduceSub,Nat.reduceLeDiff,Nat.reduceMul,qI,qP,qQ,hd]
    exact ⟨_,_,frzT_free rfl,-1,rfl,by simp [hno]⟩
theorem contains_g {w : V} {ns : List ByteArray} (hw : IsSl 1 w (nmsV ns)) (hl : ns.length ≤ lim) (s : ByteArray) : PFn Tryd.prog T 52 [w,sV s] fun z => z = bV (decide (s ∈ ns)) := by
  intro yi hy
  refine Call.step hy ?_
  rw [body_eq t52]
  simp only [c52,c52x1,RUA,RUB,RUC,RUD,RUE,RUF,if_true,if_false,Int.reduceEq,Int.reduceLT,Int.reduceLE,qC,qO,qA,qS,qU,Nat.reduceEqDiff,qT,E.at,qR,Nat.reduceAdd,Nat.reduceSub,Nat.reduceLeDiff,Nat.reduceMul,qI,qP,qQ]
  refine (index_g hw hl s).callF rfl (fun x hx => by simp only [List.mem_cons,List.not_mem_nil,or_false] at hx; rcases hx with rfl | rfl <;> first | exact hw.freeV | rfl) fun z hz => ?_
  obtain ⟨k,rfl,hk⟩ := hz
  simp only [c52,c52x1,RUA,RUB,RUC,RUD,RUE,RUF,if_true,if_false,Int.reduceEq,Int.reduceLT,Int.reduceLE,qC,qO,qA,qS,qU,Nat.reduceEqDiff,qT,E.at,qR,Nat.reduceAdd,Nat.reduceSub,Nat.reduceLeDiff,Nat.reduceMul,qI,qP,qQ,hk]
  exact ⟨_,_,frzT_free rfl,rfl⟩
theorem nms_row (ns : List ByteArray) : okRow 1 (nmsV ns) := by
  unfold okRow
  simp only [List.all_eq_true,Bool.and_eq_true,decide_eq_true_eq]
  intro v hv
  obtain ⟨s,_,rfl⟩ := List.mem_map.1 hv
  exact ⟨rfl,rfl⟩
theorem cloneS_p {v : V} {ns : List ByteArray} (hv : IsSl 1 v (nmsV ns)) (hs : ns.length ≤ lim) : PFn Tryd.prog T 53 [v] fun z => IsSl 1 z (nmsV ns) := by
  unfold lim at hs
  have hk := nms_row ns
  have hf := nms_free ns
  have hlen := nms_len ns
  generalize nmsV ns = vs at hv hk hf hlen
  intro yi hy
  refine Call.step hy ?_
  rw [body_eq t53]
  rcases hv with ⟨rfl,hn⟩ | ⟨f,rfl⟩
  · simp only [c53,c53x1,c53x2,c53x3,RUA,RUB,RUC,RUD,RUE,RUF,if_true,if_false,Int.reduceEq,Int.reduceLT,Int.reduceLE,qC,qO,qA,qS,qU,Nat.reduceEqDiff,qT,E.at,qR,Nat.reduceAdd,Nat.reduceSub,Nat.reduceLeDiff,Nat.reduceMul,qI,qP,qQ]
    exact ⟨_,_,rfl,.inl ⟨rfl,hn⟩⟩
  · by_cases h0 : vs = []
    · have ha : appOf 1 16 [] (.sl 1 true []) (.sl 1 f vs) = some (.sl 1 true [],[]) := ap_none (by rw [h0]; rfl) (.inl ⟨[],.inr ⟨_,rfl⟩⟩)
      simp only [c53,c53x1,c53x2,c53x3,RUA,RUB,RUC,RUD,RUE,RUF,if_true,if_false,Int.reduceEq,Int.reduceLT,Int.reduceLE,qC,qO,qA,qS,qU,Nat.reduceEqDiff,qT,E.at,qR,Nat.reduceAdd,Nat.reduceSub,Nat.reduceLeDiff,Nat.reduceMul,qI,qP,qQ,ha]
      exact ⟨_,_,rfl,.inr ⟨true,by rw [h0]⟩⟩
    · have ha : appOf 1 16 [] (.sl 1 true []) (.sl 1 f vs) = some (.ar 0 0,[] ++ [O.arr 0 true 1 ([] ++ vs)]) := ap_full rfl hk h0 (by simp [room]; omega)
      simp only [c53,c53x1,c53x2,c53x3,RUA,RUB,RUC,RUD,RUE,RUF,if_true,if_false,Int.reduceEq,Int.reduceLT,Int.reduceLE,qC,qO,qA,qS,qU,Nat.reduceEqDiff,qT,E.at,qR,Nat.reduceAdd,Nat.reduceSub,Nat.reduceLeDiff,Nat.reduceMul,qI,qP,qQ,ha]
      refine ⟨.sl 1 false vs,[O.arr 0 false 1 vs], ?_,.inr ⟨false,rfl⟩⟩
      simp [freezeT,freezeD,hf]
theorem cm_row2 {o : List O} {rv : V} {ns : List ByteArray} {A : List Nat} (h : RowAt o 1 rv (nmsV ns) A) (s : ByteArray) : ∃ w o1,commits o [rv,sV s] = some ([w,sV s],o1) ∧ IsSl 1 w (nmsV ns) := by
  obtain ⟨w,o1,h1,h2,h3⟩ := h.frz (nms_free ns)
  refine ⟨w,o1, ?_,h2⟩
  have h4 : Pe.freeze o1 (sV s) = some (sV s,o1) := rfl
  simp [commits,step.freezes',h1,h4]

/-! ### A walk whose rounds may write an array anew -/
def FrmC (o o' : List O) (S : List Nat) : Prop := o.length ≤ o'.length ∧ ∀ (l : Nat) (cs : List V),o[l]? = some (.cells cs) → l ∉ S → o'[l]? = some (.cells cs)
theorem FrmC.app (o l : List O) (S : List Nat) : FrmC o (o ++ l) S := ⟨by simp,fun i cs h _ => get_app h⟩
theorem FrmC.trans {o o1 o2 : List O} {S : List Nat} (a : FrmC o o1 S) (b : FrmC o1 o2 S) : FrmC o o2 S := ⟨Nat.le_trans a.1 b.1,fun l cs h hn => b.2 l cs (a.2 l cs h hn) hn⟩
theorem nodesL_split {l : List Ex} {i : Nat} {x : Ex} (h : l[i]? = some x) : nodesL l = nodesL (l.take i) ++ (nodes x ++ nodesL (l.drop (i + 1))) := by
  have hlt := (List.getElem?_eq_some_iff.1 h).1
  conv => lhs; rw [← List.take_append_drop (i + 1) l,nodesL_append,nodesL_take h]
  simp
theorem walk2_c {yi : Nat → Sem'} (hy : YLe yi yi) {lp : Nat} (S : List Nat) (N : List Ex) (J : List Ex → List O → Prop) (F : List O → Prop) (hJ : ∀ d o o',J d o → Frm o o' [] → J d o')
    (step : ∀ d x u o K,(∃ r,N = d ++ x :: r) → J d o → IsEx x u → (∀ o',J (d ++ [x]) o' → FrmC o o' S → K (bV true) o') → (∀ o',F o' → K (bV false) o') → yi lp [u] o K) :
    ∀ (x : Ex) (d : List Ex) (u : V) (o : List O) (K : V → List O → Prop),(∃ r,N = d ++ (nodes x ++ r)) → J d o → (∀ i ∈ S,i < o.length) → IsEx x u → (∀ o',J (d ++ nodes x) o' → FrmC o o' S → K (bV true) o') → (∀ o',F o' → K (bV false) o') →
      Pe.Call Tryd.prog T yi 65 [u,.fn (.yield lp) [] []] o K
  | .mk k n nm l,d,u,o,K,hN,hj,hS,hu,hK,hF => by
    have hu' := hu
    obtain ⟨lv,vs,rfl,h1,h2,h3⟩ := hu
    rw [isExs_all] at h3
    have ih : ∀ x ∈ l,∀ (d : List Ex) (u : V) (o : List O) (K : V → List O → Prop),(∃ r,N = d ++ (nodes x ++ r)) → J d o → (∀ i ∈ S,i < o.length) → IsEx x u → (∀ o',J (d ++ nodes x) o' → FrmC o o' S → K (bV true) o') → (∀ o',F o' → K (bV false) o') →
      Pe.Call Tryd.prog T yi 65 [u,.fn (.yield lp) [] []] o K := fun x hx => walk2_c hy S N J F hJ step x
    have hlen := h3.len
    obtain ⟨r,hr⟩ := hN
    unfold cap at h2
    have hone : lv.one = true := free1_one h1.free
    have hg : (o ++ [O.cells [iV k,iV n,sV nm,lv]])[o.length]? = some (O.cells [iV k,iV n,sV nm,lv]) := get_new
    refine Call.step hy ?_
    rw [body_eq t65]
    simp only [c65,c65x1,RUA,RUB,RUC,RUD,RUE,RUF,if_true,if_false,Int.reduceEq,Int.reduceLT,Int.reduceLE,qC,qO,qA,qS,qU,Nat.reduceEqDiff,qT,E.at,qR,Nat.reduceAdd,Nat.reduceSub,Nat.reduceLeDiff,Nat.reduceMul,qI,qP,qQ,hone,hg]
    refine call_yield (cm_free hu'.ok.1 cm_nil) (step d _ _ _ _ ⟨nodesL l ++ r,by rw [hr]; simp [nodes]⟩ (hJ _ _ _ hj (.app _ _ [])) hu' (fun o1 hj1 hf1 => ?_) fun o1 hf1 => ?_)
    · have hc1 := hf1.2 _ _ hg (fun hm => by have := hS _ hm; omega)
      have hrow := fun o => h1.row o
      have hfo : FrmC o o1 S := (FrmC.app o _ S).trans hf1
      simp only [c65,c65x1,c65x2,c65x3,c65x4,RUA,RUB,RUC,RUD,RUE,RUF,if_true,if_false,Int.reduceEq,Int.reduceLT,Int.reduceLE,qC,qO,qA,qS,qU,Nat.reduceEqDiff,qT,E.at,qR,Nat.reduceAdd,Nat.reduceSub,Nat.reduceLeDiff,Nat.reduceMul,qI,qP,qQ,hc1,hrow]
      refine Lfp.inv call_le hy (fun a : Nat × List O => ⟨⟨[.dead,.fn (.yield lp) [] [],.dead,.dead,.dead,.dead,.dead,.dead,.dead,.dead,.dead,.dead,lv,iV vs.length,iV a.1,.dead,.dead,.dead,.dead,.dead,.dead,.dead,.dead],a.2⟩,[]⟩) (fun a => vs.length - a.1)
        (fun a => a.1 ≤ vs.length ∧ J (d ++ (.mk k n nm l :: nodesL (l.take a.1))) a.2 ∧ FrmC o a.2 S) (0,o1) ⟨Nat.zero_le _,hj1,hfo⟩ (by simp only [kill_L,killTs_nil,RUF] <;> rfl) ?_
      rintro ⟨i,o'⟩ ⟨hi,hj',hf'⟩
      dsimp only at hi hj' hf'
      by_cases hlt : i < vs.length
      · have hd1 : decide ((i : Int) < (vs.length : Int)) = true := by simpa using hlt
        have hx : vs[i]? = some vs[i] := List.getElem?_eq_getElem hlt
        have hxl : l[i]? = some l[i] := List.getElem?_eq_getElem (by omega)
        have hmem : l[i] ∈ l := List.getElem_mem _
        have hE := h3.get hx hxl
        generalize hgv : vs[i] = u at hx hE
        generalize hgx : l[i] = x at hxl hE hmem
        have hE' := hE
        rcases x with ⟨k1,n1,m1,l1⟩
        obtain ⟨lv1,us,rfl,g1,g2,g3⟩ := hE
        have hone1 : lv1.one = true := free1_one g1.free
        have hI := fun o => h1.ix o hx
        have hw1 : IntKind.i64.wrap ((i : Int) + 1) = ((i + 1 : Nat) : Int) := wrap_succ (by omega)
        simp only [c65,c65x1,c65x2,c65x3,c65x4,c65x5,c65x6,c65x7,c65x8,c65x9,c65x10,c65x11,RUA,RUB,RUC,RUD,RUE,RUF,if_true,if_false,Int.reduceEq,Int.reduceLT,Int.reduceLE,qC,qO,qA,qS,qU,Nat.reduceEqDiff,qT,E.at,qR,Nat.reduceAdd,Nat.reduceSub,Nat.reduceLeDiff,Nat.reduceMul,qI,qP,qQ,hd1,hI,hone1]
        refine call2 rfl (cm_free hE'.ok.1 (cm_keep rfl cm_nil)) (ih _ hmem _ _ _ _ ⟨nodesL (l.drop (i + 1)) ++ r,by rw [hr,nodes,nodesL_split hxl]; simp⟩ (hJ _ _ _ hj' (.app _ _ [])) (fun a ha => by have := hS a ha; have := hf'.1; simp; omega) hE' (fun o2 hj2 hf2 => ?_) fun o2 hf2 => ?_)
        · simp only [c65,c65x1,c65x2,c65x3,c65x4,c65x5,c65x6,c65x7,c65x8,c65x9,c65x10,c65x11,RUA,RUB,RUC,RUD,RUE,RUF,if_true,if_false,Int.reduceEq,Int.reduceLT,Int.reduceLE,qC,qO,qA,qS,qU,Nat.reduceEqDiff,qT,E.at,qR,Nat.reduceAdd,Nat.reduceSub,Nat.reduceLeDiff,Nat.reduceMul,qI,qP,qQ,hw1]
          refine ⟨(i + 1,o2),⟨by simp only; omega, ?_,(hf'.trans (.app _ _ S)).trans hf2⟩,by simp only; omega,rfl⟩
          simp only
          rw [nodesL_take hxl]
          simpa using hj2
        · simp only [c65,c65x1,c65x2,c65x3,c65x4,c65x5,c65x6,c65x7,c65x8,c65x9,c65x10,c65x11,RUA,RUB,RUC,RUD,RUE,RUF,if_true,if_false,Int.reduceEq,Int.reduceLT,Int.reduceLE,qC,qO,qA,qS,qU,Nat.reduceEqDiff,qT,E.at,qR,Nat.reduceAdd,Nat.reduceSub,Nat.reduceLeDiff,Nat.reduceMul,qI,qP,qQ]
          exact hF _ hf2
      · have hd1 : decide ((i : Int) < (vs.length : Int)) = false := by simpa using hlt
        rw [List.take_of_length_le (by omega)] at hj'
        simp only [c65,c65x1,c65x2,c65x3,c65x4,c65x5,c65x6,c65x7,c65x8,c65x9,c65x10,c65x11,RUA,RUB,RUC,RUD,RUE,RUF,if_true,if_false,Int.reduceEq,Int.reduceLT,Int.reduceLE,qC,qO,qA,qS,qU,Nat.reduceEqDiff,qT,E.at,qR,Nat.reduceAdd,Nat.reduceSub,Nat.reduceLeDiff,Nat.reduceMul,qI,qP,qQ,hd1]
        exact hK _ hj' hf'
    · simp only [c65,c65x1,c65x2,c65x3,c65x4,c65x5,c65x6,c65x7,c65x8,c65x9,c65x10,c65x11,RUA,RUB,RUC,RUD,RUE,RUF,if_true,if_false,Int.reduceEq,Int.reduceLT,Int.reduceLE,qC,qO,qA,qS,qU,Nat.reduceEqDiff,qT,E.at,qR,Nat.reduceAdd,Nat.reduceSub,Nat.reduceLeDiff,Nat.reduceMul,qI,qP,qQ]
      exact hF _ hf1
termination_by x => SizeOf.sizeOf x
decreasing_by have := List.sizeOf_lt_of_mem hx; simp; omega
/-! ### The program's names -/
theorem all_c {yi : Nat → Sem'} (hy : YLe yi yi) {u : V} {o : List O} {K : V → List O → Prop} (hs : u.solid = true) (hK : K (.fn (.func 64) [] [.pt o.length 0]) (o ++ [.cells u.cells])) : Pe.Call Tryd.prog T yi 51 [u] o K := by
  refine Call.step hy ?_
  rw [body_eq t51]
  simp only [c51,c51x1,RUA,RUB,RUC,RUD,RUE,RUF,if_true,if_false,Int.reduceEq,Int.reduceLT,Int.reduceLE,qC,qO,qA,qS,qU,Nat.reduceEqDiff,qT,E.at,qR,Nat.reduceAdd,Nat.reduceSub,Nat.reduceLeDiff,Nat.reduceMul,qI,qP,qQ,hs]
  exact hK
theorem varsN_len : ∀ d : List Ex,(varsN d).length ≤ d.length
  | [] => by simp [varsN]
  | y :: d => by
    have ih := varsN_len d
    have e : varsN (y :: d) = varN y ++ varsN d := by simp [varsN]
    have : (varN y).length ≤ 1 := by rcases y with ⟨a,b,c,e⟩; unfold varN; by_cases h : a = 2 <;> simp [h]
    rw [e]; simp; omega
theorem names_p {x0 : Ex} {u0 : V} (hu0 : IsEx x0 u0) (hb : (nodes x0).length ≤ 1000) : PFn Tryd.prog T 27 [u0] fun z => IsSl 1 z (nmsV (ddN (varsN (nodes x0)))) := by
  have hu0' := hu0
  rcases x0 with ⟨k0,n0,m0,l0⟩
  obtain ⟨lv0,vs0,rfl,g1,g2,g3⟩ := hu0
  have hone0 : lv0.one = true := free1_one g1.free
  intro yi hy
  refine Call.step hy ?_
  rw [body_eq t27]
  simp only [c27,c27x1,c27x2,RUA,RUB,RUC,RUD,RUE,RUF,if_true,if_false,Int.reduceEq,Int.reduceLT,Int.reduceLE,qC,qO,qA,qS,qU,Nat.reduceEqDiff,qT,E.at,qR,Nat.reduceAdd,Nat.reduceSub,Nat.reduceLeDiff,Nat.reduceMul,qI,qP,qQ,hone0]
  refine call2 rfl (cm_free hu0'.ok.1 cm_nil) (all_c hy hu0'.solid ?_)
  simp only [c27,c27x1,c27x2,c27x3,RUA,RUB,RUC,RUD,RUE,RUF,if_true,if_false,Int.reduceEq,Int.reduceLT,Int.reduceLE,qC,qO,qA,qS,qU,Nat.reduceEqDiff,qT,E.at,qR,Nat.reduceAdd,Nat.reduceSub,Nat.reduceLeDiff,Nat.reduceMul,qI,qP,qQ]
  refine ev_rfun rfl ?_
  simp only [List.length_cons,List.length_nil,Nat.reduceAdd,List.cons_append,List.nil_append]
  refine call2 rfl (cm_keep rfl (cm_pt cm_nil)) ?_
  have hy2 := yl_le (ca := Pe.Call Tryd.prog T) (P := Tryd.prog) (T := T) (ps := #[7]) (assign := ra27x0) (body := rb27x0) (cass := c27x4) (cb := c27x5) call_le lfp_le hy 4
  refine Call.step hy2 ?_
  rw [body_eq t64]
  simp only [c64,RUA,RUB,RUC,RUD,RUE,RUF,if_true,if_false,Int.reduceEq,Int.reduceLT,Int.reduceLE,qC,qO,qA,qS,qU,Nat.reduceEqDiff,qT,E.at,qR,Nat.reduceAdd,Nat.reduceSub,Nat.reduceLeDiff,Nat.reduceMul,qI,qP,qQ,hone0]
  obtain ⟨ts,hts⟩ : ∃ ts : List V,ts = [V.agg [iV k0,iV n0,sV m0,lv0],V.pt 0 0,nilV,V.pt 1 0,.dead,V.agg [iV k0,iV n0,sV m0,lv0],V.fn (Fn.func 64) [] [V.pt 2 0],.dead,.dead,.dead,.dead,.dead,.dead,.dead,.dead,.dead,.dead,.dead,.dead,.dead,.dead,.dead,.dead,.dead,.dead] := ⟨_,rfl⟩
  rw [← hts]
  generalize hx0 : Ex.mk k0 n0 m0 l0 = x0 at hu0' hb ⊢
  let J : List Ex → List O → Prop := fun d o => o[4]? = some (.loop .ready none ts #[7] ra27x0 rb27x0 3) ∧ o[3]? = some (.dfd (.sh false)) ∧ ∃ rv A,o[1]? = some (.cells [rv]) ∧ RowAt o 1 rv (nmsV (ddN (varsN d))) A
  refine call2 rfl (cm_free hu0'.ok.1 (cm_keep rfl cm_nil)) ?_
  refine walk2_c hy2 [1,4] (nodes x0) J (fun _ => False) (fun d o o' hj hf => ?_) (fun d x u o K hmem hj hu hT hF => ?_) x0 [] _ _ _ ⟨[],by simp⟩ ⟨rfl,rfl,nilV,[],rfl,.inl ⟨rfl,rfl,rfl⟩⟩ (by simp) hu0' (fun o' hj hf => ?_) (fun o' hf => hf.elim)
  · obtain ⟨h4,h3,rv,A,h1,hr⟩ := hj
    exact ⟨hf.keep h4 (by simp) (fun _ _ _ _ e => by cases e),hf.keep h3 (by simp) (fun _ _ _ _ e => by cases e),rv,A,hf.cells h1 (by simp),hr.frm hf (fun _ _ => by simp)⟩
  · obtain ⟨h4,h3,rv,A,h1,hr⟩ := hj
    obtain ⟨rest,hrest⟩ := hmem
    have hdl : d.length < 1000 := by
      have := congrArg List.length hrest
      simp at this; omega
    rw [if_pos rfl]
    refine yl_in h4 rfl ?_
    have hu' := hu
    rcases x with ⟨k,n,nm,l⟩
    obtain ⟨lv,vs,rfl,e1,e2,e3⟩ := hu
    have hone : lv.one = true := free1_one e1.free
    have h4lt := get_lt h4
    have hO4 : (o ++ [O.cells [iV k,iV n,sV nm,lv]])[4]? = some (.loop .ready none ts #[7] ra27x0 rb27x0 3) := get_app h4
    have hB4 : ((o ++ [O.cells [iV k,iV n,sV nm,lv]]).set 4 (.loop .busy none ts #[7] ra27x0 rb27x0 3))[4]? = some (.loop .busy none ts #[7] ra27x0 rb27x0 3) := get_set hO4
    have hB3 : ((o ++ [O.cells [iV k,iV n,sV nm,lv]]).set 4 (.loop .busy none ts #[7] ra27x0 rb27x0 3))[3]? = some (.dfd (.sh false)) := get_set_ne (get_app h3) (by omega)
    have hB1 : ((o ++ [O.cells [iV k,iV n,sV nm,lv]]).set 4 (.loop .busy none ts #[7] ra27x0 rb27x0 3))[1]? = some (.cells [rv]) := get_set_ne (get_app h1) (by omega)
    have hBL : ((o ++ [O.cells [iV k,iV n,sV nm,lv]]).set 4 (.loop .busy none ts #[7] ra27x0 rb27x0 3))[o.length]? = some (O.cells [iV k,iV n,sV nm,lv]) := get_set_ne get_new (by omega)
    have hBf : Frm o ((o ++ [O.cells [iV k,iV n,sV nm,lv]]).set 4 (.loop .busy none ts #[7] ra27x0 rb27x0 3)) [4] := (Frm.app _ _ _).trans (.set (S := [4]) (by simp)) (fun i hi => .inl hi)
    have h4A : 4 ∉ A := hr.notIn h4 (fun _ _ _ _ e => by cases e)
    have hBr : RowAt ((o ++ [O.cells [iV k,iV n,sV nm,lv]]).set 4 (.loop .busy none ts #[7] ra27x0 rb27x0 3)) 1 rv (nmsV (ddN (varsN d))) A := hr.frm hBf (fun a ha hm => by simp at hm; subst hm; exact h4A ha)
    generalize hBB : (o ++ [O.cells [iV k,iV n,sV nm,lv]]).set 4 (.loop .busy none ts #[7] ra27x0 rb27x0 3) = B at hB4 hB3 hB1 hBL hBf hBr
    have hgo : ∀ (B' : List O) (rv' : V) (A' : List Nat),B'[4]? = some (.loop .busy none ts #[7] ra27x0 rb27x0 3) → B'[3]? = some (.dfd (.sh false)) → B'[1]? = some (.cells [rv']) → FrmC B B' [1,4] →
        RowAt B' 1 rv' (nmsV (ddN (varsN (d ++ [.mk k n nm l])))) A' → K (bV true) (B'.set 4 (.loop .ready none ts #[7] ra27x0 rb27x0 3)) := fun B' rv' A' q4 q3 q1 qf qr => by
      have h4A' : 4 ∉ A' := qr.notIn q4 (fun _ _ _ _ e => by cases e)
      have hff : FrmC o (B'.set 4 (.loop .ready none ts #[7] ra27x0 rb27x0 3)) [1,4] := by
        refine FrmC.trans (o1 := B) ⟨hBf.len,fun l cs h hn => hBf.cells h (by simp at hn ⊢; exact hn.2)⟩ (qf.trans ⟨by simp,fun l cs h hn => ?_⟩)
        rw [List.getElem?_set_ne (by simp at hn; omega)]; exact h
      exact hT _ ⟨get_set q4,get_set_ne q3 (by omega),rv',A',get_set_ne q1 (by omega),qr.frm (S := [4]) (.set (S := [4]) (by simp)) (fun a ha hm => by simp at hm; subst hm; exact h4A' ha)⟩ hff
    have hsame : ddN (varsN (d ++ [.mk k n nm l])) = ddN (varsN d) → K (bV true) (B.set 4 (.loop .ready none ts #[7] ra27x0 rb27x0 3)) := fun e =>
      hgo B rv A hB4 hB3 hB1 ⟨Nat.le_refl _,fun _ _ h _ => h⟩ (by rw [e]; exact hBr)
    have hvs : varsN (d ++ [.mk k n nm l]) = varsN d ++ varN (.mk k n nm l) := by simp [varsN]
    have hlen : (ddN (varsN d)).length ≤ 1000 := by
      have h1 := foldN_len (varsN d) []
      have h2 := varsN_len d
      have e : ddN (varsN d) = (varsN d).foldl addN [] := rfl
      rw [e]; simp at h1; omega
    have hB4' := hB4
    rw [hts] at hO4 hB4 hBB hgo hsame ⊢
    by_cases hk : k = 2
    · have hd : decide (k = 2) = true := by simpa using hk
      obtain ⟨w,o1,hc,hw⟩ := cm_row2 hBr nm
      have hvn : varN (.mk k n nm l) = [nm] := by simp [varN,hk]
      clear hy2 h4
      simp only [c27,c27x1,c27x2,c27x3,c27x4,c27x5,c27x6,c27x7,RUA,RUB,RUC,RUD,RUE,RUF,if_true,if_false,Int.reduceEq,Int.reduceLT,Int.reduceLE,qC,qO,qA,qS,qU,Nat.reduceEqDiff,qT,E.at,qR,Nat.reduceAdd,Nat.reduceSub,Nat.reduceLeDiff,Nat.reduceMul,qI,qP,qQ,List.zip_cons_cons,List.zip_nil_left,setTs,hO4,hBB,hB4,hB1,hBL,hone,hd]
      refine (contains_g hw (by unfold lim; omega) nm).callB rfl hc (fun z hz => by rw [hz]; rfl) (fun z hz => ?_)
      subst hz
      by_cases hin : nm ∈ ddN (varsN d)
      · have hb2 : decide (nm ∈ ddN (varsN d)) = true := by simpa using hin
        simp only [c27,c27x1,c27x2,c27x3,c27x4,c27x5,c27x6,c27x7,RUA,RUB,RUC,RUD,RUE,RUF,if_true,if_false,Int.reduceEq,Int.reduceLT,Int.reduceLE,qC,qO,qA,qS,qU,Nat.reduceEqDiff,qT,E.at,qR,Nat.reduceAdd,Nat.reduceSub,Nat.reduceLeDiff,Nat.reduceMul,qI,qP,qQ,hb2,hB4,jumpOf,Option.isNone_none]
        exact hsame (by rw [hvs,hvn,ddN_snoc]; exact if_pos hin)
      · have hb2 : decide (nm ∈ ddN (varsN d)) = false := by simpa using hin
        obtain ⟨rv',B1,A',ha,hr2,hfr,hA'⟩ := hBr.push (b := 16) (f := true) (y := sV nm) rfl (by rw [nms_len]; unfold room; omega)
        have g1 := hfr.cells hB1 (hBr.notCells hB1)
        have g4 := hfr.keep hB4 (hBr.notIn hB4 (fun _ _ _ _ e => by cases e)) (fun _ _ _ _ e => by cases e)
        have g3 := hfr.keep hB3 (hBr.notIn hB3 (fun _ _ _ _ e => by cases e)) (fun _ _ _ _ e => by cases e)
        have hs1 : rv'.solid = true ∧ rv'.cells = [rv'] := RowV.solid (.inr hr2)
        have gS : (B1.set 1 (.cells [rv']))[4]? = some (.loop .busy none [V.agg [iV k0,iV n0,sV m0,lv0],V.pt 0 0,nilV,V.pt 1 0,.dead,V.agg [iV k0,iV n0,sV m0,lv0],V.fn (Fn.func 64) [] [V.pt 2 0],.dead,.dead,.dead,.dead,.dead,.dead,.dead,.dead,.dead,.dead,.dead,.dead,.dead,.dead,.dead,.dead,.dead,.dead] #[7] ra27x0 rb27x0 3) := get_set_ne g4 (by omega)
        simp only [c27,c27x1,c27x2,c27x3,c27x4,c27x5,c27x6,c27x7,RUA,RUB,RUC,RUD,RUE,RUF,if_true,if_false,Int.reduceEq,Int.reduceLT,Int.reduceLE,qC,qO,qA,qS,qU,Nat.reduceEqDiff,qT,E.at,qR,Nat.reduceAdd,Nat.reduceSub,Nat.reduceLeDiff,Nat.reduceMul,qI,qP,qQ,hb2,hB1,hBL,ha,hs1,g1,gS,jumpOf,Option.isNone_none]
        refine hgo _ rv' A' gS (get_set_ne g3 (by omega)) (get_set g1) ?_ ?_
        · refine FrmC.trans (o1 := B1) ⟨hfr.len,fun l cs h hn => hfr.cells h (hBr.notCells h)⟩ ⟨by simp,fun l cs h hn => ?_⟩
          rw [List.getElem?_set_ne (by simp at hn; omega)]; exact h
        · rw [hvs,hvn,ddN_snoc,show addN (ddN (varsN d)) nm = ddN (varsN d) ++ [nm] from if_neg hin,← nms_snoc]
          exact hr2.frm (S := [1]) (.set (S := [1]) (by simp)) (fun a ha hm => by simp at hm; subst hm; exact hr2.notCells g1 ha)
    · have hd : decide (k = 2) = false := by simpa using hk
      have hvn : varN (.mk k n nm l) = [] := by simp [varN,hk]
      clear hy2 h4
      simp only [c27,c27x1,c27x2,c27x3,c27x4,c27x5,c27x6,c27x7,RUA,RUB,RUC,RUD,RUE,RUF,if_true,if_false,Int.reduceEq,Int.reduceLT,Int.reduceLE,qC,qO,qA,qS,qU,Nat.reduceEqDiff,qT,E.at,qR,Nat.reduceAdd,Nat.reduceSub,Nat.reduceLeDiff,Nat.reduceMul,qI,qP,qQ,List.zip_cons_cons,List.zip_nil_left,setTs,hO4,hBB,hB4,hB1,hBL,hone,hd,jumpOf,Option.isNone_none]
      exact hsame (by rw [hvs,hvn,List.append_nil])
  · obtain ⟨h4,h3,rv,A,h1,hr⟩ := hj
    rw [List.nil_append] at hr
    have h4A : 4 ∉ A := hr.notIn h4 (fun _ _ _ _ e => by cases e)
    refine rEnd_in h4 (by simp) rfl ?_
    have k3 : (o'.set (3 + 1) (.loop .exhausted none ts #[7] ra27x0 rb27x0 3))[3]? = some (.dfd (.sh false)) := get_set_ne h3 (by omega)
    have k1 : (o'.set (3 + 1) (.loop .exhausted none ts #[7] ra27x0 rb27x0 3))[1]? = some (.cells [rv]) := get_set_ne h1 (by omega)
    have kr : RowAt (o'.set (3 + 1) (.loop .exhausted none ts #[7] ra27x0 rb27x0 3)) 1 rv (nmsV (ddN (varsN (nodes x0)))) A := hr.frm (S := [4]) (.set (S := [4]) (by simp)) (fun a ha hm => by simp at hm; subst hm; exact h4A ha)
    generalize o'.set (3 + 1) (.loop .exhausted none ts #[7] ra27x0 rb27x0 3) = B at k3 k1 kr
    subst hts
    have hlen : (ddN (varsN (nodes x0))).length ≤ lim := by
      have h1 := foldN_len (varsN (nodes x0)) []
      have h2 := varsN_len (nodes x0)
      have e : ddN (varsN (nodes x0)) = (varsN (nodes x0)).foldl addN [] := rfl
      rw [e]; simp at h1; unfold lim; omega
    obtain ⟨w2,o2,hc2,hw2,hf3⟩ := kr.commit (nms_free _)
    have q3 := hf3.keep k3 (by simp) (fun _ _ _ _ e => by cases e)
    simp only [c27,c27x1,c27x2,c27x3,c27x4,c27x5,c27x6,c27x7,RUA,RUB,RUC,RUD,RUE,RUF,if_true,if_false,Int.reduceEq,Int.reduceLT,Int.reduceLE,qC,qO,qA,qS,qU,Nat.reduceEqDiff,qT,E.at,qR,Nat.reduceAdd,Nat.reduceSub,Nat.reduceLeDiff,Nat.reduceMul,qI,qP,qQ,k1]
    refine (cloneS_p hw2 hlen).call rfl hc2 (fun z hz => ?_)
    have fin : ∀ o : List O,∃ z' o',freezeT o z = some (z',o') ∧ IsSl 1 z' (nmsV (ddN (varsN (nodes x0)))) := fun o => ⟨z,o,frzT_free hz.freeV,hz⟩
    split
    · simp only [c27,c27x1,c27x2,c27x3,c27x4,c27x5,c27x6,c27x7,RUA,RUB,RUC,RUD,RUE,RUF,if_true,if_false,Int.reduceEq,Int.reduceLT,Int.reduceLE,qC,qO,qA,qS,qU,Nat.reduceEqDiff,qT,E.at,qR,Nat.reduceAdd,Nat.reduceSub,Nat.reduceLeDiff,Nat.reduceMul,qI,qP,qQ,retK_one k3,rets]
      exact fin _
    · simp only [c27,c27x1,c27x2,c27x3,c27x4,c27x5,c27x6,c27x7,RUA,RUB,RUC,RUD,RUE,RUF,if_true,if_false,Int.reduceEq,Int.reduceLT,Int.reduceLE,qC,qO,qA,qS,qU,Nat.reduceEqDiff,qT,E.at,qR,Nat.reduceAdd,Nat.reduceSub,Nat.reduceLeDiff,Nat.reduceMul,qI,qP,qQ,retK_one q3,rets]
      exact fin _
end Go.Proofs.YtjfnhpnfkknmoaaDoor
end
