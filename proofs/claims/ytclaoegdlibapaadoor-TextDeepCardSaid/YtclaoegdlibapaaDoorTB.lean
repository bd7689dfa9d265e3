/- Parts of the texts that the claim's proof needs: functions of the program as the evaluator reads them, and what they come to. Conditions: those that its theorems state. -/
import Derived.Test.YtclaoegdlibapaaDoorTA
import Derived.Test.YtclaoegdlibapaaDoorProg
import Derived.Laws.RangeAny

section
set_option linter.unusedVariables false
set_option maxRecDepth 100000
namespace Go.Proofs.YtclaoegdlibapaaDoor
open Go.Proofs.Pe
noncomputable def c84x3 : C := (.seq (.regs [⟨some 5, none, (.mv (.tmp 0))⟩, ⟨some 6, none, (.mv (.tmp 0))⟩, ⟨some 7, none, (.neg (.tmp 6))⟩, ⟨some 8, none, (.sca ⟨some 8, (.binOp .and 121 (.tmp 5) (.tmp 7) 121), 121, "bits.go:86", #[⟨0, .data⟩, ⟨2, .data⟩], none⟩)⟩, ⟨some 9, none, (.bin .mul (.tmp 8) (.lit (.sc (.int .u32 125613361))))⟩, ⟨some 10, none, (.sca ⟨some 10, (.binOp .shr 121 (.tmp 9) (.const (.int .u64 27)) 111), 121, "bits.go:86", #[⟨4, .data⟩], none⟩)⟩, ⟨some 11, none, .bad⟩, ⟨some 12, none, (.load (.tmp 11) false 1)⟩, ⟨some 13, none, (.cvi .i64 (.tmp 12))⟩, ⟨some 2, none, (.mv (.tmp 13))⟩]) .ret)
noncomputable def c84x2 : C := (.cond (.tmp 4) (.seq (.regs [⟨some 2,none,.mv (.lit (.sc (.int .i64 32)))⟩]) .ret) .skip)
noncomputable def c84x1 : C := (.seq (.seq (.regs [⟨some 3,none,.mv (.tmp 0)⟩,⟨some 4,none,.bin .eql (.tmp 3) (.lit (.sc (.int .u32 0)))⟩]) c84x2) c84x3)
noncomputable def c84 : CF := ⟨14,[(.tmp 2)],(.seq (.regs [⟨some 2,none,.mv (.lit (.sc (.int .i64 0)))⟩]) c84x1)⟩
noncomputable def c85x3 : C := (.seq (.regs [⟨some 5, none, (.mv (.tmp 0))⟩, ⟨some 6, none, (.mv (.tmp 0))⟩, ⟨some 7, none, (.neg (.tmp 6))⟩, ⟨some 8, none, (.sca ⟨some 8, (.binOp .and 100 (.tmp 5) (.tmp 7) 100), 100, "bits.go:105", #[⟨0, .data⟩, ⟨2, .data⟩], none⟩)⟩, ⟨some 9, none, (.bin .mul (.tmp 8) (.lit (.sc (.int .u64 285870213051353865))))⟩, ⟨some 10, none, (.sca ⟨some 10, (.binOp .shr 100 (.tmp 9) (.const (.int .u64 58)) 111), 100, "bits.go:105", #[⟨4, .data⟩], none⟩)⟩, ⟨some 11, none, .bad⟩, ⟨some 12, none, (.load (.tmp 11) false 1)⟩, ⟨some 13, none, (.cvi .i64 (.tmp 12))⟩, ⟨some 2, none, (.mv (.tmp 13))⟩]) .ret)
noncomputable def c85x2 : C := (.cond (.tmp 4) (.seq (.regs [⟨some 2,none,.mv (.lit (.sc (.int .i64 64)))⟩]) .ret) .skip)
noncomputable def c85x1 : C := (.seq (.seq (.regs [⟨some 3,none,.mv (.tmp 0)⟩,⟨some 4,none,.bin .eql (.tmp 3) (.lit (.sc (.int .u64 0)))⟩]) c85x2) c85x3)
noncomputable def c85 : CF := ⟨14,[(.tmp 2)],(.seq (.regs [⟨some 2,none,.mv (.lit (.sc (.int .i64 0)))⟩]) c85x1)⟩
noncomputable def c86x1 : C := (.seq (.regs [⟨some 1,none,.bld [(.sc (.int .i64 0)),(.sc (.int .i64 0))] [(0,(1,(.lit (.sc (.int .i64 17))))),(1,(1,(.lit (.sc (.int .i64 17)))))]⟩,⟨some 2,none,.bld [(.sc (.int .i64 0)),(.sc (.int .i64 0))] [(0,(1,(.lit (.sc (.int .i64 16))))),(1,(1,(.lit (.sc (.int .i64 16)))))]⟩,⟨some 3,none,.bld [(.sc (.int .i64 0)),(.sc (.int .i64 0))] [(0,(1,(.lit (.sc (.int .i64 10))))),(1,(1,(.lit (.sc (.int .i64 15)))))]⟩,⟨some 4,none,.bld [(.sc (.int .i64 0)),(.sc (.int .i64 0))] [(0,(1,(.lit (.sc (.int .i64 8))))),(1,(1,(.lit (.sc (.int .i64 9)))))]⟩,⟨some 5,none,.bld [(.sc (.int .i64 0)),(.sc (.int .i64 0))] [(0,(1,(.lit (.sc (.int .i64 5))))),(1,(1,(.lit (.sc (.int .i64 7)))))]⟩,⟨some 6,none,.bsl 2 5 [(.sc (.int .i64 0)),(.sc (.int .i64 0))] [(0,(.tmp 1)),(1,(.tmp 2)),(2,(.tmp 3)),(3,(.tmp 4)),(4,(.tmp 5))]⟩,⟨some 0,none,.mv (.tmp 6)⟩]) .ret)
noncomputable def c86 : CF := ⟨7,[(.tmp 0)],(.seq (.regs [⟨some 0,none,.mv (.lit (.sc (.slice none 0 0)))⟩]) c86x1)⟩
noncomputable def c87x16 : C := (.seq (.regs [⟨some 89,none,.load (.tmp 1) false 1⟩,⟨some 90,none,.call (.lit (.fn (.func 89) [] [])) [(.tmp 89),(.lit (.sc (.int .i64 2)))]⟩,⟨none,none,.store (.tmp 2) (.tmp 90) 4⟩]) .ret)
noncomputable def c87x15 : C := (.cond (.tmp 84) (.seq (.regs [⟨some 86,none,.load (.tmp 1) false 1⟩,⟨some 87,none,.mkf (.func 93) [] [(.tmp 1)]⟩,⟨some 88,none,.call (.lit (.fn (.func 90) [] [])) [(.tmp 86),(.tmp 87)]⟩,⟨none,none,.store (.tmp 2) (.tmp 88) 4⟩]) .ret) .skip)
noncomputable def c87x14 : C := (.cond (.tmp 79) (.seq (.regs [⟨some 81,none,.load (.tmp 1) false 1⟩,⟨some 82,none,.mkf (.func 92) [] [(.tmp 1)]⟩,⟨some 83,none,.call (.lit (.fn (.func 90) [] [])) [(.tmp 81),(.tmp 82)]⟩,⟨none,none,.store (.tmp 2) (.tmp 83) 4⟩]) .ret) (.seq (.regs [⟨some 85,none,.bin .eql (.tmp 73) (.lit (.sc (.string (ByteArray.mk #[40]))))⟩,⟨some 84,none,.mv (.tmp 85)⟩]) c87x15))
noncomputable def c87x13 : C := (.cond (.tmp 74) (.seq (.regs [⟨some 76,none,.load (.tmp 1) false 1⟩,⟨some 77,none,.mkf (.func 91) [] [(.tmp 1)]⟩,⟨some 78,none,.call (.lit (.fn (.func 90) [] [])) [(.tmp 76),(.tmp 77)]⟩,⟨none,none,.store (.tmp 2) (.tmp 78) 4⟩]) .ret) (.seq (.regs [⟨some 80,none,.bin .eql (.tmp 73) (.lit (.sc (.string (ByteArray.mk #[45]))))⟩,⟨some 79,none,.mv (.tmp 80)⟩]) c87x14))
noncomputable def c87x12 : C := (.block 1 (.seq (.regs [⟨some 75,none,.bin .eql (.tmp 73) (.lit (.sc (.string (ByteArray.mk #[33]))))⟩,⟨some 74,none,.mv (.tmp 75)⟩]) c87x13))
noncomputable def c87x11 : C := (.seq (.seq (.regs [⟨some 72,none,.fad (.tmp 3) 1⟩,⟨some 73,none,.load (.tmp 72) false 1⟩]) c87x12) c87x16)
noncomputable def c87x10 : C := (.cond (.tmp 66) (.seq (.regs [⟨some 70,none,.load (.tmp 1) false 1⟩,⟨some 71,none,.call (.lit (.fn (.func 89) [] [])) [(.tmp 70),(.lit (.sc (.int .i64 2)))]⟩,⟨none,none,.store (.tmp 2) (.tmp 71) 4⟩]) .ret) .skip)
noncomputable def c87x9 : C := (.seq (.regs [⟨some 63,none,.fad (.tmp 3) 1⟩,⟨some 64,none,.load (.tmp 63) false 1⟩,⟨some 65,none,.bld [(.sc (.int .i64 0)),(.sc (.int .i64 0)),(.sc (.string (ByteArray.mk #[]))),(.sc (.slice none 0 0))] [(0,(1,(.lit (.sc (.int .i64 2))))),(2,(1,(.tmp 64)))]⟩,⟨none,none,.store (.tmp 2) (.tmp 65) 4⟩]) .ret)
noncomputable def c87x8 : C := (.cond (.tmp 47) (.seq (.regs [⟨some 56,none,.load (.tmp 1) false 1⟩,⟨some 57,none,.nilck (.tmp 56)⟩,⟨some 58,none,.fad (.tmp 57) 1⟩,⟨some 59,none,.load (.tmp 58) false 1⟩,⟨some 60,none,.bin .add (.tmp 59) (.lit (.sc (.int .i64 1)))⟩,⟨some 61,none,.nilck (.tmp 56)⟩,⟨some 62,none,.fad (.tmp 61) 1⟩,⟨none,none,.store (.tmp 62) (.tmp 60) 1⟩]) c87x9) (.seq (.regs [⟨some 67,none,.fad (.tmp 3) 0⟩,⟨some 68,none,.load (.tmp 67) false 1⟩,⟨some 69,none,.bin .neq (.tmp 68) (.lit (.sc (.int .i64 3)))⟩,⟨some 66,none,.mv (.tmp 69)⟩]) c87x10))
noncomputable def c87x7 : C := (.seq (.regs [⟨some 45,none,.mv (.tmp 4)⟩,⟨some 46,none,.bld [(.sc (.int .i64 0)),(.sc (.int .i64 0)),(.sc (.string (ByteArray.mk #[]))),(.sc (.slice none 0 0))] [(0,(1,(.lit (.sc (.int .i64 1))))),(1,(1,(.tmp 45)))]⟩,⟨none,none,.store (.tmp 2) (.tmp 46) 4⟩]) .ret)
noncomputable def c87x6 : C := (.seq (.regs [⟨some 38,none,.load (.tmp 1) false 1⟩,⟨some 39,none,.nilck (.tmp 38)⟩,⟨some 40,none,.fad (.tmp 39) 1⟩,⟨some 41,none,.load (.tmp 40) false 1⟩,⟨some 42,none,.bin .add (.tmp 41) (.lit (.sc (.int .i64 1)))⟩,⟨some 43,none,.nilck (.tmp 38)⟩,⟨some 44,none,.fad (.tmp 43) 1⟩,⟨none,none,.store (.tmp 44) (.tmp 42) 1⟩]) c87x7)
noncomputable def c87x5 : C := (.cond (.tmp 28) (.seq (.regs [⟨some 33,none,.fad (.tmp 3) 1⟩,⟨some 34,none,.load (.tmp 33) false 1⟩,⟨some 35,none,.call (.lit (.fn (.func 33) [] [])) [(.tmp 34)]⟩,⟨some 32,none,.mv (.tmp 35)⟩,⟨some 36,none,.ext (.tmp 32) 0⟩,⟨some 37,none,.ext (.tmp 32) 1⟩,⟨some 4,none,.mv (.tmp 36)⟩,⟨some 5,none,.mv (.tmp 37)⟩]) c87x6) (.seq (.regs [⟨some 48,none,.fad (.tmp 3) 0⟩,⟨some 49,none,.load (.tmp 48) false 1⟩,⟨some 50,none,.bin .eql (.tmp 49) (.lit (.sc (.int .i64 1)))⟩,⟨some 51,none,.mv (.tmp 50)⟩,⟨some 52,some (51,true),.fad (.tmp 3) 1⟩,⟨some 53,some (51,true),.load (.tmp 52) false 1⟩,⟨some 54,some (51,true),.call (.lit (.fn (.func 32) [] [])) [(.tmp 53)]⟩,⟨some 55,none,.pick (.tmp 51) (.tmp 54) (.lit (.sc (.bool false)))⟩,⟨some 47,none,.mv (.tmp 55)⟩]) c87x8))
noncomputable def c87x4 : C := (.seq (.block 0 (.seq (.regs [⟨some 29,none,.fad (.tmp 3) 0⟩,⟨some 30,none,.load (.tmp 29) false 1⟩,⟨some 31,none,.bin .eql (.tmp 30) (.lit (.sc (.int .i64 2)))⟩,⟨some 28,none,.mv (.tmp 31)⟩]) c87x5)) c87x11)
noncomputable def c87x3 : C := (.seq (.regd (.rd 0 ⟨some 18,none,.load (.tmp 1) false 1⟩ 1 (.rd 1 ⟨some 19,none,.nilck (.tmp 18)⟩ 1 (.rd 2 ⟨some 20,none,.fad (.tmp 19) 0⟩ 1 (.rd 3 ⟨some 21,none,.load (.tmp 20) false 1⟩ 1 (.rd 4 ⟨some 22,none,.load (.tmp 1) false 1⟩ 1 (.rd 5 ⟨some 23,none,.nilck (.tmp 22)⟩ 1 (.rd 6 ⟨some 24,none,.fad (.tmp 23) 1⟩ 1 (.rd 7 ⟨some 25,none,.load (.tmp 24) false 1⟩ 1 (.rd 8 ⟨some 26,none,.iad (.tmp 21) (.tmp 25) 3⟩ 1 (.rd 9 ⟨some 27,none,.load (.tmp 26) true 3⟩ 1 (.alt [(.op 10 ⟨some 3,none,.alloc (.agg [(.sc (.int .i64 0)),(.sc (.string (ByteArray.mk #[]))),(.sc (.int .i64 0))])⟩ (.alt [(.op 11 ⟨none,none,.store (.tmp 3) (.tmp 27) 3⟩ .nil)]))])))))))))))) c87x4)
noncomputable def c87x2 : C := (.cond (.tmp 15) (.seq (.regs [⟨some 16,none,.load (.tmp 1) false 1⟩,⟨some 17,none,.call (.lit (.fn (.func 89) [] [])) [(.tmp 16),(.lit (.sc (.int .i64 2)))]⟩,⟨none,none,.store (.tmp 2) (.tmp 17) 4⟩]) .ret) .skip)
noncomputable def c87x1 : C := (.seq (.seq (.regd (.rd 0 ⟨some 6,none,.load (.tmp 1) false 1⟩ 1 (.rd 1 ⟨some 7,none,.nilck (.tmp 6)⟩ 1 (.rd 2 ⟨some 8,none,.fad (.tmp 7) 1⟩ 1 (.rd 3 ⟨some 9,none,.load (.tmp 8) false 1⟩ 1 (.rd 4 ⟨some 10,none,.load (.tmp 1) false 1⟩ 1 (.rd 5 ⟨some 11,none,.nilck (.tmp 10)⟩ 1 (.rd 6 ⟨some 12,none,.fad (.tmp 11) 0⟩ 1 (.rd 7 ⟨some 13,none,.load (.tmp 12) false 1⟩ 1 (.rd 8 ⟨some 14,none,.len (.tmp 13)⟩ 1 (.rd 9 ⟨some 15,none,.bin .geq (.tmp 9) (.tmp 14)⟩ 1 .nil))))))))))) c87x2) c87x3)
noncomputable def c87 : CF := ⟨91,[(.cell 2 true 4)],(.seq (.regs [⟨some 1,none,.box (.tmp 0)⟩,⟨some 2,none,.alloc (.agg [(.sc (.int .i64 0)),(.sc (.int .i64 0)),(.sc (.string (ByteArray.mk #[]))),(.sc (.slice none 0 0))])⟩]) c87x1)⟩
noncomputable def c88x9 : C := (.seq (.regs [⟨some 4,none,.mv (.lit (.sc (.int .i64 0)))⟩]) .ret)
noncomputable def c88x8 : C := (.regs [⟨some 19,none,.mv (.tmp 6)⟩,⟨some 20,none,.bin .add (.tmp 19) (.lit (.sc (.int .i64 1)))⟩,⟨some 6,none,.mv (.tmp 20)⟩])
noncomputable def c88x7 : C := (.cond (.tmp 26) (.seq (.regs [⟨some 27,none,.mv (.tmp 6)⟩,⟨some 4,none,.mv (.tmp 27)⟩]) .ret) .skip)
noncomputable def c88x6 : C := (.seq (.block 1 (.seq (.regs [⟨some 21,none,.call (.lit (.fn (.func 78) [] [])) []⟩,⟨some 22,none,.mv (.tmp 6)⟩,⟨some 23,none,.iad (.tmp 21) (.tmp 22) 1⟩,⟨some 24,none,.load (.tmp 23) false 1⟩,⟨some 25,none,.mv (.tmp 5)⟩,⟨some 26,none,.bin .eql (.tmp 24) (.tmp 25)⟩]) c88x7)) c88x8)
noncomputable def c88x5 : C := (.cond (.tmp 18) .skip (.exit 0))
noncomputable def c88x4 : C := (.seq (.seq (.regs [⟨some 11,none,.mv (.tmp 6)⟩,⟨some 12,none,.aia (.tmp 3) (.lit (.sc (.int .i64 1))) 1 2⟩,⟨some 13,none,.load (.tmp 12) false 1⟩,⟨some 14,none,.bin .leq (.tmp 11) (.tmp 13)⟩,⟨some 15,none,.mv (.tmp 14)⟩,⟨some 16,some (15,true),.mv (.tmp 5)⟩,⟨some 17,some (15,true),.bin .neq (.tmp 16) (.lit (.sc (.string (ByteArray.mk #[]))))⟩,⟨some 18,none,.pick (.tmp 15) (.tmp 17) (.lit (.sc (.bool false)))⟩]) c88x5) c88x6)
noncomputable def c88x3 : C := (.block 0 (.loop (.kill [0,1,2,4,7,8,9,10,11,12,13,14,15,16,17,18,19,20,21,22,23,24,25,26,27] c88x4)))
noncomputable def c88x2 : C := (.seq (.seq (.regs [⟨some 9,none,.aia (.tmp 3) (.lit (.sc (.int .i64 0))) 1 2⟩,⟨some 10,none,.load (.tmp 9) false 1⟩,⟨some 6,none,.mv (.tmp 10)⟩]) c88x3) c88x9)
noncomputable def c88x1 : C := (.seq (.regs [⟨some 7,none,.mv (.tmp 0)⟩,⟨some 8,none,.call (.lit (.fn (.func 94) [] [])) [(.tmp 7)]⟩,⟨some 5,none,.mv (.tmp 8)⟩]) c88x2)
noncomputable def c88 : CF := ⟨28,[(.tmp 4)],(.seq (.regs [⟨some 3,none,.box (.tmp 1)⟩,⟨some 4,none,.mv (.lit (.sc (.int .i64 0)))⟩]) c88x1)⟩
noncomputable def c89x3 : C := (.seq (.regs [⟨some 14,none,.bld [(.sc (.int .i64 0)),(.sc (.int .i64 0)),(.sc (.string (ByteArray.mk #[]))),(.sc (.slice none 0 0))] []⟩,⟨none,none,.store (.tmp 4) (.tmp 14) 4⟩]) .ret)
noncomputable def c89x2 : C := (.cond (.tmp 9) (.regs [⟨some 10,none,.mv (.tmp 0)⟩,⟨some 11,none,.mv (.tmp 1)⟩,⟨some 12,none,.nilck (.tmp 10)⟩,⟨some 13,none,.fad (.tmp 12) 3⟩,⟨none,none,.store (.tmp 13) (.tmp 11) 1⟩]) .skip)
noncomputable def c89x1 : C := (.seq (.seq (.regs [⟨some 5,none,.mv (.tmp 0)⟩,⟨some 6,none,.nilck (.tmp 5)⟩,⟨some 7,none,.fad (.tmp 6) 3⟩,⟨some 8,none,.load (.tmp 7) false 1⟩,⟨some 9,none,.bin .eql (.tmp 8) (.lit (.sc (.int .i64 0)))⟩]) c89x2) c89x3)
noncomputable def c89 : CF := ⟨15,[(.cell 4 true 4)],(.seq (.regs [⟨some 4,none,.alloc (.agg [(.sc (.int .i64 0)),(.sc (.int .i64 0)),(.sc (.string (ByteArray.mk #[]))),(.sc (.slice none 0 0))])⟩]) c89x1)⟩
noncomputable def c90x7 : C := (.seq (.regs [⟨some 36,none,.load (.tmp 5) true 4⟩,⟨none,none,.store (.tmp 4) (.tmp 36) 4⟩]) .ret)
noncomputable def c90x6 : C := (.seq (.regs [⟨some 29,none,.mv (.tmp 0)⟩,⟨some 30,none,.nilck (.tmp 29)⟩,⟨some 31,none,.fad (.tmp 30) 2⟩,⟨some 32,none,.load (.tmp 31) false 1⟩,⟨some 33,none,.bin .sub (.tmp 32) (.lit (.sc (.int .i64 1)))⟩,⟨some 34,none,.nilck (.tmp 29)⟩,⟨some 35,none,.fad (.tmp 34) 2⟩,⟨none,none,.store (.tmp 35) (.tmp 33) 1⟩]) c90x7)
noncomputable def c90x5 : C := (.seq (.regs [⟨some 27,none,.mv (.tmp 1)⟩,⟨some 28,none,.call (.tmp 27) []⟩,⟨some 5,none,.alloc (.agg [(.sc (.int .i64 0)),(.sc (.int .i64 0)),(.sc (.string (ByteArray.mk #[]))),(.sc (.slice none 0 0))])⟩,⟨none,none,.store (.tmp 5) (.tmp 28) 4⟩]) c90x6)
noncomputable def c90x4 : C := (.seq (.regs [⟨some 20,none,.mv (.tmp 0)⟩,⟨some 21,none,.nilck (.tmp 20)⟩,⟨some 22,none,.fad (.tmp 21) 2⟩,⟨some 23,none,.load (.tmp 22) false 1⟩,⟨some 24,none,.bin .add (.tmp 23) (.lit (.sc (.int .i64 1)))⟩,⟨some 25,none,.nilck (.tmp 20)⟩,⟨some 26,none,.fad (.tmp 25) 2⟩,⟨none,none,.store (.tmp 26) (.tmp 24) 1⟩]) c90x5)
noncomputable def c90x3 : C := (.seq (.regs [⟨some 13,none,.mv (.tmp 0)⟩,⟨some 14,none,.nilck (.tmp 13)⟩,⟨some 15,none,.fad (.tmp 14) 1⟩,⟨some 16,none,.load (.tmp 15) false 1⟩,⟨some 17,none,.bin .add (.tmp 16) (.lit (.sc (.int .i64 1)))⟩,⟨some 18,none,.nilck (.tmp 13)⟩,⟨some 19,none,.fad (.tmp 18) 1⟩,⟨none,none,.store (.tmp 19) (.tmp 17) 1⟩]) c90x4)
noncomputable def c90x2 : C := (.cond (.tmp 10) (.seq (.regs [⟨some 11,none,.mv (.tmp 0)⟩,⟨some 12,none,.call (.lit (.fn (.func 89) [] [])) [(.tmp 11),(.lit (.sc (.int .i64 3)))]⟩,⟨none,none,.store (.tmp 4) (.tmp 12) 4⟩]) .ret) .skip)
noncomputable def c90x1 : C := (.seq (.seq (.regs [⟨some 6,none,.mv (.tmp 0)⟩,⟨some 7,none,.nilck (.tmp 6)⟩,⟨some 8,none,.fad (.tmp 7) 2⟩,⟨some 9,none,.load (.tmp 8) false 1⟩,⟨some 10,none,.bin .geq (.tmp 9) (.lit (.sc (.int .i64 20)))⟩]) c90x2) c90x3)
noncomputable def c90 : CF := ⟨37,[(.cell 4 true 4)],(.seq (.regs [⟨some 4,none,.alloc (.agg [(.sc (.int .i64 0)),(.sc (.int .i64 0)),(.sc (.string (ByteArray.mk #[]))),(.sc (.slice none 0 0))])⟩]) c90x1)⟩
noncomputable def c91x1 : C := (.seq (.regs [⟨some 2,none,.load (.tmp 0) false 1⟩,⟨some 3,none,.call (.lit (.fn (.func 87) [] [])) [(.tmp 2)]⟩,⟨some 4,none,.bsl 4 1 [(.sc (.int .i64 0)),(.sc (.int .i64 0)),(.sc (.string (ByteArray.mk #[]))),(.sc (.slice none 0 0))] [(0,(.tmp 3))]⟩,⟨some 5,none,.bld [(.sc (.int .i64 0)),(.sc (.int .i64 0)),(.sc (.string (ByteArray.mk #[]))),(.sc (.slice none 0 0))] [(0,(1,(.lit (.sc (.int .i64 3))))),(3,(1,(.tmp 4)))]⟩,⟨none,none,.store (.tmp 1) (.tmp 5) 4⟩]) .ret)
noncomputable def c91 : CF := ⟨6,[(.cell 1 true 4)],(.seq (.regs [⟨some 1,none,.alloc (.agg [(.sc (.int .i64 0)),(.sc (.int .i64 0)),(.sc (.string (ByteArray.mk #[]))),(.sc (.slice none 0 0))])⟩]) c91x1)⟩
noncomputable def c92x1 : C := (.seq (.regs [⟨some 2,none,.load (.tmp 0) false 1⟩,⟨some 3,none,.call (.lit (.fn (.func 87) [] [])) [(.tmp 2)]⟩,⟨some 4,none,.bsl 4 1 [(.sc (.int .i64 0)),(.sc (.int .i64 0)),(.sc (.string (ByteArray.mk #[]))),(.sc (.slice none 0 0))] [(0,(.tmp 3))]⟩,⟨some 5,none,.bld [(.sc (.int .i64 0)),(.sc (.int .i64 0)),(.sc (.string (ByteArray.mk #[]))),(.sc (.slice none 0 0))] [(0,(1,(.lit (.sc (.int .i64 4))))),(3,(1,(.tmp 4)))]⟩,⟨none,none,.store (.tmp 1) (.tmp 5) 4⟩]) .ret)
noncomputable def c92 : CF := ⟨6,[(.cell 1 true 4)],(.seq (.regs [⟨some 1,none,.alloc (.agg [(.sc (.int .i64 0)),(.sc (.int .i64 0)),(.sc (.string (ByteArray.mk #[]))),(.sc (.slice none 0 0))])⟩]) c92x1)⟩
noncomputable def c93x6 : C := (.seq (.regs [⟨some 29,none,.load (.tmp 2) true 4⟩,⟨none,none,.store (.tmp 1) (.tmp 29) 4⟩]) .ret)
noncomputable def c93x5 : C := (.cond (.tmp 21) (.regs [⟨some 22,none,.load (.tmp 0) false 1⟩,⟨some 23,none,.nilck (.tmp 22)⟩,⟨some 24,none,.fad (.tmp 23) 1⟩,⟨some 25,none,.load (.tmp 24) false 1⟩,⟨some 26,none,.bin .add (.tmp 25) (.lit (.sc (.int .i64 1)))⟩,⟨some 27,none,.nilck (.tmp 22)⟩,⟨some 28,none,.fad (.tmp 27) 1⟩,⟨none,none,.store (.tmp 28) (.tmp 26) 1⟩]) .skip)
noncomputable def c93x4 : C := (.seq (.seq (.regs [⟨some 17,none,.load (.tmp 0) false 1⟩,⟨some 18,none,.nilck (.tmp 17)⟩,⟨some 19,none,.fad (.tmp 18) 3⟩,⟨some 20,none,.load (.tmp 19) false 1⟩,⟨some 21,none,.bin .eql (.tmp 20) (.lit (.sc (.int .i64 0)))⟩]) c93x5) c93x6)
noncomputable def c93x3 : C := (.cond (.tmp 14) (.seq (.regs [⟨some 15,none,.load (.tmp 0) false 1⟩,⟨some 16,none,.call (.lit (.fn (.func 89) [] [])) [(.tmp 15),(.lit (.sc (.int .i64 2)))]⟩,⟨none,none,.store (.tmp 1) (.tmp 16) 4⟩]) .ret) .skip)
noncomputable def c93x2 : C := (.seq (.seq (.regs [⟨some 5,none,.load (.tmp 0) false 1⟩,⟨some 6,none,.nilck (.tmp 5)⟩,⟨some 7,none,.fad (.tmp 6) 3⟩,⟨some 8,none,.load (.tmp 7) false 1⟩,⟨some 9,none,.bin .eql (.tmp 8) (.lit (.sc (.int .i64 0)))⟩,⟨some 10,none,.mv (.tmp 9)⟩,⟨some 11,some (10,true),.load (.tmp 0) false 1⟩,⟨some 12,some (10,true),.call (.lit (.fn (.func 94) [] [])) [(.tmp 11)]⟩,⟨some 13,some (10,true),.bin .neq (.tmp 12) (.lit (.sc (.string (ByteArray.mk #[41]))))⟩,⟨some 14,none,.pick (.tmp 10) (.tmp 13) (.lit (.sc (.bool false)))⟩]) c93x3) c93x4)
noncomputable def c93x1 : C := (.seq (.regs [⟨some 3,none,.load (.tmp 0) false 1⟩,⟨some 4,none,.call (.lit (.fn (.func 83) [] [])) [(.tmp 3),(.lit (.sc (.int .i64 0)))]⟩,⟨some 2,none,.alloc (.agg [(.sc (.int .i64 0)),(.sc (.int .i64 0)),(.sc (.string (ByteArray.mk #[]))),(.sc (.slice none 0 0))])⟩,⟨none,none,.store (.tmp 2) (.tmp 4) 4⟩]) c93x2)
noncomputable def c93 : CF := ⟨30,[(.cell 1 true 4)],(.seq (.regs [⟨some 1,none,.alloc (.agg [(.sc (.int .i64 0)),(.sc (.int .i64 0)),(.sc (.string (ByteArray.mk #[]))),(.sc (.slice none 0 0))])⟩]) c93x1)⟩
noncomputable def c94x3 : C := (.seq (.regs [⟨some 2,none,.mv (.lit (.sc (.string (ByteArray.mk #[]))))⟩]) .ret)
noncomputable def c94x2 : C := (.cond (.tmp 26) (.seq (.regd (.rd 0 ⟨some 27,none,.mv (.tmp 0)⟩ 1 (.rd 1 ⟨some 28,none,.nilck (.tmp 27)⟩ 1 (.rd 2 ⟨some 29,none,.fad (.tmp 28) 0⟩ 1 (.rd 3 ⟨some 30,none,.load (.tmp 29) false 1⟩ 1 (.rd 4 ⟨some 31,none,.mv (.tmp 0)⟩ 1 (.rd 5 ⟨some 32,none,.nilck (.tmp 31)⟩ 1 (.rd 6 ⟨some 33,none,.fad (.tmp 32) 1⟩ 1 (.rd 7 ⟨some 34,none,.load (.tmp 33) false 1⟩ 1 (.rd 8 ⟨some 35,none,.iad (.tmp 30) (.tmp 34) 3⟩ 1 (.rd 9 ⟨some 36,none,.fad (.tmp 35) 1⟩ 1 (.rd 10 ⟨some 37,none,.load (.tmp 36) false 1⟩ 1 (.rd 11 ⟨some 2,none,.mv (.tmp 37)⟩ 1 .nil))))))))))))) .ret) .skip)
noncomputable def c94x1 : C := (.seq (.seq (.regd (.rd 0 ⟨some 3,none,.mv (.tmp 0)⟩ 1 (.rd 1 ⟨some 4,none,.nilck (.tmp 3)⟩ 1 (.rd 2 ⟨some 5,none,.fad (.tmp 4) 1⟩ 1 (.rd 3 ⟨some 6,none,.load (.tmp 5) false 1⟩ 1 (.rd 4 ⟨some 7,none,.mv (.tmp 0)⟩ 1 (.rd 5 ⟨some 8,none,.nilck (.tmp 7)⟩ 1 (.rd 6 ⟨some 9,none,.fad (.tmp 8) 0⟩ 1 (.rd 7 ⟨some 10,none,.load (.tmp 9) false 1⟩ 1 (.rd 8 ⟨some 11,none,.len (.tmp 10)⟩ 1 (.rd 9 ⟨some 12,none,.bin .lss (.tmp 6) (.tmp 11)⟩ 1 (.rd 10 ⟨some 13,none,.mv (.tmp 12)⟩ 1 (.rd 11 ⟨some 14,some (13,true),.mv (.tmp 0)⟩ 1 (.rd 12 ⟨some 15,some (13,true),.nilck (.tmp 14)⟩ 1 (.rd 13 ⟨some 16,some (13,true),.fad (.tmp 15) 0⟩ 1 (.rd 14 ⟨some 17,some (13,true),.load (.tmp 16) false 1⟩ 1 (.rd 15 ⟨some 18,some (13,true),.mv (.tmp 0)⟩ 1 (.rd 16 ⟨some 19,some (13,true),.nilck (.tmp 18)⟩ 1 (.rd 17 ⟨some 20,some (13,true),.fad (.tmp 19) 1⟩ 1 (.rd 18 ⟨some 21,some (13,true),.load (.tmp 20) false 1⟩ 1 (.rd 19 ⟨some 22,some (13,true),.iad (.tmp 17) (.tmp 21) 3⟩ 1 (.rd 20 ⟨some 23,some (13,true),.fad (.tmp 22) 0⟩ 1 (.rd 21 ⟨some 24,some (13,true),.load (.tmp 23) false 1⟩ 1 (.rd 22 ⟨some 25,some (13,true),.bin .eql (.tmp 24) (.lit (.sc (.int .i64 3)))⟩ 1 (.rd 23 ⟨some 26,none,.pick (.tmp 13) (.tmp 25) (.lit (.sc (.bool false)))⟩ 1 .nil))))))))))))))))))))))))) c94x2) c94x3)
noncomputable def c94 : CF := ⟨38,[(.tmp 2)],(.seq (.regs [⟨some 2,none,.mv (.lit (.sc (.string (ByteArray.mk #[]))))⟩]) c94x1)⟩
end Go.Proofs.YtclaoegdlibapaaDoor
end

section
set_option linter.unusedVariables false
set_option maxRecDepth 100000
namespace Go.Proofs.YtclaoegdlibapaaDoor
open Go.Proofs.Pe
noncomputable def mds : List (Nat × Nat) := [(6,0),(7,0),(8,0),(9,0),(10,0),(11,0),(17,0),(18,0),(19,0),(20,0),(21,0),(22,0),(23,0),(24,0),(25,0),(26,0),(27,0),(28,0),(29,0),(30,0),(32,0),(33,0),(36,0),(37,0),(38,0),(39,0),(40,0),(41,0),(42,0),(43,0),(46,0),(48,0),(49,0),(50,0),(51,0),(52,0),(53,0),(54,0),(55,0),(56,0),(57,0),(60,0),(61,0),(62,0),(63,0),(65,0),(66,0),(67,0),(68,0),(69,0),(70,0),(71,0),(72,0),(73,0),(74,0),(75,0),(76,0),(77,0),(78,0),(79,0),(80,0),(81,0),(82,0),(84,0),(85,0),(86,0),(1000001,7),(83,5),(87,5),(89,5),(90,5),(91,5),(92,5),(93,5),(88,3),(94,3),(31,3),(12,5),(34,5),(13,5),(14,5),(58,5),(16,5),(15,5),(35,5),(44,5)]
noncomputable def ans : List (Nat × List (Nat × List Nat)) := [(4,[(0,[0,1,2,7,8,9,10,11,12,13,14,15,16,17,18,19,20,21,22,23,24,25,26,27,28,29,30,31,32,33,34,35,36,37,38,39,40,41,42,43,44,45,46,47,48,49,50,51,52,53,54,55,56,57,58,59,60,61,62,63])]),
  (5,[(0,[2,3,4,7,8,9,10,11,12,13,14,15,16,17,18,19,20,21,22,23,24,25,26,27,28,29,30,31,32,33,34,35,36,37,38,39,40,41,42,43,44,45,46,47,48,49,50,51,52,53,54,55,56,57,58,59,60,61,62,63,64,65])]),
  (8,[(0,[0,1,3,4,7,8,9,10,11,12,13,14,15,16,17,18,19,20,21,22,23,24,25,26,27,28,29,30,31,32,33,34,35,36,37,38,39,40,41,42,43,44,45,46,47,48,49,50,51,52,53,54,55,56,57,58,59,60,61,62,63,64,65,66,67,68,69,70,71,72,73,74,75,76,77,78,79,80,81,82,83,84,85,86,87,88,89,90,91,92,93,94,95,96,97,98,99,100,101,102,103,104,105,106,107,108,109,110,111,112,113,114,115,116,117,118,119,120,121])]),
  (9,[(0,[0,2,4,5,6,7,8,9,10,14,15,16,17,18,19,20,21,22,23,24,25,26,27,28,29,30,31,32,33,34,35,36,37,38,39,40,41,42,43,44,45,46,47,48,49,50,51,52,53,54,55,56,57,58,59,60,61]),(2,[0,2,4,5,6,7,8,9,10,11,12,13,14,15,16,17,18,19,20,21,22,23,24,25,26,27,28,29,33,34,35,36,37,38,39,40,41,42,43,44,45,46,47,48,49,50,51,52,53,54,55,56,57,58,59,60,61]),(4,[0,1,2,4,5,6,7,8,9,10,11,12,13,14,15,16,17,18,19,20,21,22,23,24,25,26,27,28,29,30,31,32,33,34,35,36,37,38,39,40,41,42,46,47,48,49,50,51,52,53,54,55,56,57,58,59,60,61])]),
  (10,[(0,[0,1,4,6,7,8,9,10,11,12,13,14,15,16,17,18,19,20,21,22,23,24,25,26,27,28,29,30,31,32,33,34,35,36,37,38,39,40,41,42,43,44,45,46,47,48,49,50,51,52,53,54,55,56,57,58,59,60,61,62,63,64,65,66,67,68,69,70,71,72,73,74,75,76,77,78,79,80,81,82,83,84]),(2,[0,1,4,5,7,8,9,10,11,12,13,14,15,16,17,18,19,20,21,22,23,24,25,26,27,28,29,30,31,32,33,34,35,36,37,38,39,40,41,42,43,44,45,46,47,48,49,50,51,52,53,54,55,56,57,58,59,60,61,62,63,64,65,66,67,68,69,70,71,72,73,74,75,76,77,78,79,80,81,82,83,84])]),
  (11,[(0,[1,3,4,6,7,8,9,10,11,12,13,14,15,16,17,18,19,20,21,22,23,24,25,26,27,28,29,30,31,32,33,34,35,36,37,38,39,40,41,42,43,44,45,46,47,48,49,50,51,52,53,54,55,56,57,58,59,60,61,62,63,64,65,66,67,68,69,70,71,72,73,74,75,76,77,78,79,80,81,82,83,84,85,86,87,88,89,90,91,92,93,94,95,96,97,98,99,100,101,102,103,104,105,106,107,108,109])]),
  (22,[(0,[2,3,4,6,7,8,9,10,11,12,13,14,15,16,17,18,19,20,21,22,23,24,25])]),
  (23,[(0,[0,1,4,6,7,8,9,10,11,12,13,14,15,16,17,18,19,20,21,22,23,24,25,26,27,28,29,30,31,32,33,34,35,36,37,38,39,40,41,42,43,44,45,46,47,48,49,50,51,52,53,54,55,56,57,58,59,60])]),
  (24,[(0,[3,4,5,6,8,9,10,11,12,13,14,15,16,17,18,19,20,21,22,23,24,25])]),
  (29,[(0,[2,3,4,5,6,10,11,12,13,14,15,16,17,18,19,20,21,22,23,24,25,26,27,28,29])]),
  (32,[(0,[0,1,2,3,4,5,6,7,8,9,10,11,12,13,14,15,16,17,19,20,21,22,23,24,25,26,27,28,29,30,31,32,33,34,35,36,37,38,39,40])]),
  (35,[(0,[1,4,5,7,8,9,10,11,12,13,14,15,16,17,18,19,20,21,22,23,24,25,26,27,28,29,30,31,32,33,34,35])]),
  (38,[(0,[0,1,4,6,7,8,9,10,11,12,13,14,15,16,17,18,19,20,21,22,23,24,25,26,27,28,29,30,31,32,33,34,35,36,37,38,39,40,41,42,43,44,45,46,47,48,49,50,51,52])]),
  (42,[(0,[0,1,2,3,4,7,8,9,10,11,12,13,14,15,16,17,18,19,20,21,22,23,24,25,26,27,28,29,30,31,32,33,34,35,36,37,38,39,40,41,42,43,44,45,46,50,51,52,53,54,55,56,57,58,59,60,61,62,63,64,65,66,67,68,69,70,71,72,73,74,75,76])]),
  (59,[(0,[2,4,5,6,7,8,9,10,11,12,13,14,15,16,17,18])]),
  (62,[(0,[2,3,5,6,7,8,9,10,11,12,13,14,15,16,17,18,19,20,21,22,23,24,25,26,27,28,29,30,31,32,33,34,35,36,37,38,39,40,41,42,43,44,45,46,47,48,49,50,51,52,53,54,55,56,57,58,59,60,61,62,63,64,65,66,67,68,69,70,71,72,73,74,75,76,77,78,79,80,81,82,83,84,85,86,87,88,89,90,91,92,93,94,95,96,97,98,99,100,101,102,103,104,105,106,107,108,109,110,111,112,113,114,115,116,117,118,119,120,121,122,123,124,125,126,127,128,129,130,131,132,133,134,135,136,137,138,139,140,141,142,143,144,145,146,147,148,149,150,151,152,153,154,155,156,157,158,159,160,161,162,163,164,165,166])]),
  (63,[(0,[2,5,6,7,8,9,17,18,19,20,21,22,23,24,25,26,27,28,29,30,31,32,33,34,35,36,37,38,39,40,41,42,43,44,45,46,47,48,49,50,51,52,53,54,55,56,57,58,59,60,61,62,63,64,65,66,67,68,69,70,71,72,73,74,75,76,77,78,79,80,81,82,83,84,85,86,87,88,89,90,91,92,93,94,95,96,97,98,99,100,101]),(2,[2,5,6,7,8,9,14,15,16,18,19,20,21,22,23,24,25,26,27,28,29,30,31,32,33,34,35,36,37,38,39,40,41,42,43,44,45,46,47,48,49,50,51,52,53,54,55,56,57,58,59,60,61,62,63,64,65,66,67,68,69,70,71,72,73,74,75,76,77,78,79,80,81,82,83,84,85,86,87,88,89,90,91,92,93,94,95,96,97,98,99,100,101])]),
  (64,[(0,[2,3,4,5,6,7,8,9,10,11,12,13,14,15,16,17,18,19,20,21,22,23,24,25])]),
  (68,[(0,[2,3,4,5,6,9,10,11,12,13,14,15,16,17,18])]),
  (69,[(3,[0,2,3,4,5,6,7,14,15,16,17,18,19,20,21,22,23,24,25,26,27,28,29,30,31,32,33,34,35,36,37,38,39,40,41,42,43,44,45,46,47,48,49,50,51,52,53,54,55,56,57,58,59,60,61,62,63,64,65,66,67,68,69,70,71,72,73,74,75,76,77,78,79,80,81,82,83,84,85,86,87,88,89,90,91,92,93,94,95,96,97,98,102,103,104,105,106,107,108,109,110,111,112,113,114,115,116,117,118,119,120,121,122,123,124,125,126,127,128,129,130,131,132,133,134,135,136,137,138,139,140,141,142,143,144,145,146,147,148,149,150,151,152,153,154,155,156,157,158,159,160,161,162,163,164,165,166,167,168,169,170,171])]),
  (82,[(0,[1,2,6,7,8,9,10,11,12,13,14,15,16,17,18,19,20,21,22,23,24,25,26,27,28,29,30,31,32,33,34,35,36,37,38,39,40,41,42,43,44,45,46,47,48,49,50,51,52,53,54,55,56,57,58,59,60,61,62,63,64,65,66,67,68,69,70,71,72,73,74,75,76,77,78,79,80,81,82,83,84,85,86,87,88,89,90,91,92,93])]),
  (88,[(0,[0,1,2,4,7,8,9,10,11,12,13,14,15,16,17,18,19,20,21,22,23,24,25,26,27])])]
noncomputable def cfs : List (Nat × CF) := [(3,c3),(4,c4),(5,c5),(6,c6),(7,c7),(8,c8),(9,c9),(10,c10),(11,c11),(12,c12),(13,c13),(14,c14),(15,c15),(16,c16),(17,c17),(18,c18),(19,c19),(20,c20),(21,c21),(22,c22),(23,c23),(24,c24),(25,c25),(26,c26),(27,c27),(28,c28),(29,c29),(30,c30),(31,c31),(32,c32),(33,c33),(34,c34),(35,c35),(36,c36),(37,c37),(38,c38),(39,c39),(40,c40),(41,c41),(42,c42),(43,c43),(44,c44),(45,c45),(46,c46),(47,c47),(48,c48),(49,c49),(50,c50),(51,c51),(52,c52),(53,c53),(54,c54),(55,c55),(56,c56),(57,c57),(58,c58),(59,c59),(60,c60),(61,c61),(62,c62),(63,c63),(64,c64),(65,c65),(66,c66),(68,c68),(69,c69),(70,c70),(71,c71),(72,c72),(73,c73),(74,c74),(75,c75),(76,c76),(77,c77),(78,c78),(79,c79),(80,c80),(81,c81),(82,c82),(83,c83),(84,c84),(85,c85),(86,c86),(87,c87),(88,c88),(89,c89),(90,c90),(91,c91),(92,c92),(93,c93),(94,c94)]
noncomputable def T : Tab := mkTab mds ans cfs
theorem k3 : compF Tryd.prog T.mode T.an 3 = some c3 := by kernel_rfl
theorem k4 : compF Tryd.prog T.mode T.an 4 = some c4 := by kernel_rfl
theorem k5 : compF Tryd.prog T.mode T.an 5 = some c5 := by kernel_rfl
theorem k6 : compF Tryd.prog T.mode T.an 6 = some c6 := by kernel_rfl
theorem k7 : compF Tryd.prog T.mode T.an 7 = some c7 := by kernel_rfl
theorem k8 : compF Tryd.prog T.mode T.an 8 = some c8 := by kernel_rfl
theorem k9 : compF Tryd.prog T.mode T.an 9 = some c9 := by kernel_rfl
theorem k10 : compF Tryd.prog T.mode T.an 10 = some c10 := by kernel_rfl
theorem k11 : compF Tryd.prog T.mode T.an 11 = some c11 := by kernel_rfl
theorem k12 : compF Tryd.prog T.mode T.an 12 = some c12 := by kernel_rfl
theorem k13 : compF Tryd.prog T.mode T.an 13 = some c13 := by kernel_rfl
theorem k14 : compF Tryd.prog T.mode T.an 14 = some c14 := by kernel_rfl
theorem k15 : compF Tryd.prog T.mode T.an 15 = some c15 := by kernel_rfl
theorem k16 : compF Tryd.prog T.mode T.an 16 = some c16 := by kernel_rfl
theorem k17 : compF Tryd.prog T.mode T.an 17 = some c17 := by kernel_rfl
theorem k18 : compF Tryd.prog T.mode T.an 18 = some c18 := by kernel_rfl
theorem k19 : compF Tryd.prog T.mode T.an 19 = some c19 := by kernel_rfl
theorem k20 : compF Tryd.prog T.mode T.an 20 = some c20 := by kernel_rfl
theorem k21 : compF Tryd.prog T.mode T.an 21 = some c21 := by kernel_rfl
theorem k22 : compF Tryd.prog T.mode T.an 22 = some c22 := by kernel_rfl
theorem k23 : compF Tryd.prog T.mode T.an 23 = some c23 := by kernel_rfl
theorem k24 : compF Tryd.prog T.mode T.an 24 = some c24 := by kernel_rfl
theorem k25 : compF Tryd.prog T.mode T.an 25 = some c25 := by kernel_rfl
theorem k26 : compF Tryd.prog T.mode T.an 26 = some c26 := by kernel_rfl
theorem k27 : compF Tryd.prog T.mode T.an 27 = some c27 := by kernel_rfl
theorem k28 : compF Tryd.prog T.mode T.an 28 = some c28 := by kernel_rfl
theorem k29 : compF Tryd.prog T.mode T.an 29 = some c29 := by kernel_rfl
theorem k30 : compF Tryd.prog T.mode T.an 30 = some c30 := by kernel_rfl
theorem k31 : compF Tryd.prog T.mode T.an 31 = some c31 := by kernel_rfl
theorem k32 : compF Tryd.prog T.mode T.an 32 = some c32 := by kernel_rfl
theorem k33 : compF Tryd.prog T.mode T.an 33 = some c33 := by kernel_rfl
theorem k34 : compF Tryd.prog T.mode T.an 34 = some c34 := by kernel_rfl
theorem k35 : compF Tryd.prog T.mode T.an 35 = some c35 := by kernel_rfl
theorem k36 : compF Tryd.prog T.mode T.an 36 = some c36 := by kernel_rfl
theorem k37 : compF Tryd.prog T.mode T.an 37 = some c37 := by kernel_rfl
theorem k38 : compF Tryd.prog T.mode T.an 38 = some c38 := by kernel_rfl
theorem k39 : compF Tryd.prog T.mode T.an 39 = some c39 := by kernel_rfl
theorem k40 : compF Tryd.prog T.mode T.an 40 = some c40 := by kernel_rfl
theorem k41 : compF Tryd.prog T.mode T.an 41 = some c41 := by kernel_rfl
theorem k42 : compF Tryd.prog T.mode T.an 42 = some c42 := by kernel_rfl
theorem k43 : compF Tryd.prog T.mode T.an 43 = some c43 := by kernel_rfl
theorem k44 : compF Tryd.prog T.mode T.an 44 = some c44 := by kernel_rfl
theorem k45 : compF Tryd.prog T.mode T.an 45 = some c45 := by kernel_rfl
theorem k46 : compF Tryd.prog T.mode T.an 46 = some c46 := by kernel_rfl
theorem k47 : compF Tryd.prog T.mode T.an 47 = some c47 := by kernel_rfl
theorem k48 : compF Tryd.prog T.mode T.an 48 = some c48 := by kernel_rfl
theorem k49 : compF Tryd.prog T.mode T.an 49 = some c49 := by kernel_rfl
theorem k50 : compF Tryd.prog T.mode T.an 50 = some c50 := by kernel_rfl
theorem k51 : compF Tryd.prog T.mode T.an 51 = some c51 := by kernel_rfl
theorem k52 : compF Tryd.prog T.mode T.an 52 = some c52 := by kernel_rfl
theorem k53 : compF Tryd.prog T.mode T.an 53 = some c53 := by kernel_rfl
theorem k54 : compF Tryd.prog T.mode T.an 54 = some c54 := by kernel_rfl
theorem k55 : compF Tryd.prog T.mode T.an 55 = some c55 := by kernel_rfl
theorem k56 : compF Tryd.prog T.mode T.an 56 = some c56 := by kernel_rfl
theorem k57 : compF Tryd.prog T.mode T.an 57 = some c57 := by kernel_rfl
theorem k58 : compF Tryd.prog T.mode T.an 58 = some c58 := by kernel_rfl
theorem k59 : compF Tryd.prog T.mode T.an 59 = some c59 := by kernel_rfl
theorem k60 : compF Tryd.prog T.mode T.an 60 = some c60 := by kernel_rfl
theorem k61 : compF Tryd.prog T.mode T.an 61 = some c61 := by kernel_rfl
theorem k62 : compF Tryd.prog T.mode T.an 62 = some c62 := by kernel_rfl
theorem k63 : compF Tryd.prog T.mode T.an 63 = some c63 := by kernel_rfl
theorem k64 : compF Tryd.prog T.mode T.an 64 = some c64 := by kernel_rfl
theorem k65 : compF Tryd.prog T.mode T.an 65 = some c65 := by kernel_rfl
theorem k66 : compF Tryd.prog T.mode T.an 66 = some c66 := by kernel_rfl
theorem k68 : compF Tryd.prog T.mode T.an 68 = some c68 := by kernel_rfl
theorem k69 : compF Tryd.prog T.mode T.an 69 = some c69 := by kernel_rfl
theorem k70 : compF Tryd.prog T.mode T.an 70 = some c70 := by kernel_rfl
theorem k71 : compF Tryd.prog T.mode T.an 71 = some c71 := by kernel_rfl
theorem k72 : compF Tryd.prog T.mode T.an 72 = some c72 := by kernel_rfl
theorem k73 : compF Tryd.prog T.mode T.an 73 = some c73 := by kernel_rfl
theorem k74 : compF Tryd.prog T.mode T.an 74 = some c74 := by kernel_rfl
theorem k75 : compF Tryd.prog T.mode T.an 75 = some c75 := by kernel_rfl
theorem k76 : compF Tryd.prog T.mode T.an 76 = some c76 := by kernel_rfl
theorem k77 : compF Tryd.prog T.mode T.an 77 = some c77 := by kernel_rfl
theorem k78 : compF Tryd.prog T.mode T.an 78 = some c78 := by kernel_rfl
theorem k79 : compF Tryd.prog T.mode T.an 79 = some c79 := by kernel_rfl
theorem k80 : compF Tryd.prog T.mode T.an 80 = some c80 := by kernel_rfl
theorem k81 : compF Tryd.prog T.mode T.an 81 = some c81 := by kernel_rfl
theorem k82 : compF Tryd.prog T.mode T.an 82 = some c82 := by kernel_rfl
theorem k83 : compF Tryd.prog T.mode T.an 83 = some c83 := by kernel_rfl
theorem k84 : compF Tryd.prog T.mode T.an 84 = some c84 := by kernel_rfl
theorem k85 : compF Tryd.prog T.mode T.an 85 = some c85 := by kernel_rfl
theorem k86 : compF Tryd.prog T.mode T.an 86 = some c86 := by kernel_rfl
theorem k87 : compF Tryd.prog T.mode T.an 87 = some c87 := by kernel_rfl
theorem k88 : compF Tryd.prog T.mode T.an 88 = some c88 := by kernel_rfl
theorem k89 : compF Tryd.prog T.mode T.an 89 = some c89 := by kernel_rfl
theorem k90 : compF Tryd.prog T.mode T.an 90 = some c90 := by kernel_rfl
theorem k91 : compF Tryd.prog T.mode T.an 91 = some c91 := by kernel_rfl
theorem k92 : compF Tryd.prog T.mode T.an 92 = some c92 := by kernel_rfl
theorem k93 : compF Tryd.prog T.mode T.an 93 = some c93 := by kernel_rfl
theorem k94 : compF Tryd.prog T.mode T.an 94 = some c94 := by kernel_rfl
theorem tOk : TOk Tryd.prog T := tok ⟨k3,k4,k5,k6,k7,k8,k9,k10,k11,k12,k13,k14,k15,k16,k17,k18,k19,k20,k21,k22,k23,k24,k25,k26,k27,k28,k29,k30,k31,k32,k33,k34,k35,k36,k37,k38,k39,k40,k41,k42,k43,k44,k45,k46,k47,k48,k49,k50,k51,k52,k53,k54,k55,k56,k57,k58,k59,k60,k61,k62,k63,k64,k65,k66,k68,k69,k70,k71,k72,k73,k74,k75,k76,k77,k78,k79,k80,k81,k82,k83,k84,k85,k86,k87,k88,k89,k90,k91,k92,k93,k94,trivial⟩
theorem t3 : T.cf 3 = some c3 := rfl
theorem t4 : T.cf 4 = some c4 := rfl
theorem t7 : T.cf 7 = some c7 := rfl
theorem t8 : T.cf 8 = some c8 := rfl
theorem t11 : T.cf 11 = some c11 := rfl
theorem t12 : T.cf 12 = some c12 := rfl
theorem t13 : T.cf 13 = some c13 := rfl
theorem t15 : T.cf 15 = some c15 := rfl
theorem t16 : T.cf 16 = some c16 := rfl
theorem t17 : T.cf 17 = some c17 := rfl
theorem t18 : T.cf 18 = some c18 := rfl
theorem t19 : T.cf 19 = some c19 := rfl
theorem t24 : T.cf 24 = some c24 := rfl
theorem t29 : T.cf 29 = some c29 := rfl
theorem t30 : T.cf 30 = some c30 := rfl
theorem t31 : T.cf 31 = some c31 := rfl
theorem t32 : T.cf 32 = some c32 := rfl
theorem t33 : T.cf 33 = some c33 := rfl
theorem t34 : T.cf 34 = some c34 := rfl
theorem t35 : T.cf 35 = some c35 := rfl
theorem t39 : T.cf 39 = some c39 := rfl
theorem t41 : T.cf 41 = some c41 := rfl
theorem t42 : T.cf 42 = some c42 := rfl
theorem t44 : T.cf 44 = some c44 := rfl
theorem t45 : T.cf 45 = some c45 := rfl
theorem t49 : T.cf 49 = some c49 := rfl
theorem t51 : T.cf 51 = some c51 := rfl
theorem t52 : T.cf 52 = some c52 := rfl
theorem t59 : T.cf 59 = some c59 := rfl
theorem t68 : T.cf 68 = some c68 := rfl
theorem t78 : T.cf 78 = some c78 := rfl
theorem t83 : T.cf 83 = some c83 := rfl
theorem t86 : T.cf 86 = some c86 := rfl
theorem t87 : T.cf 87 = some c87 := rfl
theorem t88 : T.cf 88 = some c88 := rfl
theorem t89 : T.cf 89 = some c89 := rfl
theorem t90 : T.cf 90 = some c90 := rfl
theorem t91 : T.cf 91 = some c91 := rfl
theorem t92 : T.cf 92 = some c92 := rfl
theorem t93 : T.cf 93 = some c93 := rfl
theorem t94 : T.cf 94 = some c94 := rfl
theorem mixed : Tryd.prog.follows .mixedOrders = true := by kernel_rfl
end Go.Proofs.YtclaoegdlibapaaDoor
end

section
set_option linter.unusedVariables false
namespace Go.Proofs.Pe
variable {P : Program} {T : Tab} {ca : Ca} {yi : Nat → Sem'}

/-! ### Calls to which objects are handed over (mode 5) -/
def outI (n : Nat) (N : List Nat) (i : Nat) : Option Nat := if i < n then some i else if i ∈ N then some (n + N.idxOf i) else none
def outT (S : List Nat) (n m i : Nat) : Option Nat := if i < n then S[i]? else some (m + (i - n))
def Fin5 (n : Nat) (y : V) (o' : List O) (z : V) (os' : List O) : Prop :=
  ∃ z0 o2 N,(freezeT o' y = some (z0,o2) ∨ (y = z0 ∧ o' = o2)) ∧ N.Nodup ∧ (∀ i ∈ N,n ≤ i) ∧ z0.mv (outI n N) = some z ∧
    mapO (fun i => (o2[i]?).bind (mvO (outI n N))) (List.range n ++ N) = some os'
def SFn (P : Program) (T : Tab) (f : FuncId) (xs : List V) (os : List O) (Q : V → List O → Prop) : Prop :=
  ∀ yi,YLe yi yi → Call P T yi f xs os fun y o' => ∃ z os',Fin5 os.length y o' z os' ∧ Q z os'

theorem mapO_comp {α β γ : Type} {f : α → Option β} {g : β → Option γ} {h : α → Option γ} (hh : ∀ x y z,f x = some y → g y = some z → h x = some z) : ∀ {xs : List α} {ys : List β} {zs : List γ},mapO f xs = some ys → mapO g ys = some zs → mapO h xs = some zs
  | [],ys,zs,h1,h2 => by simp [mapO] at h1; subst h1; exact h2
  | x :: xs,ys,zs,h1,h2 => by
    simp only [mapO] at h1
    split at h1
    · cases h1
    · rename_i y e1
      split at h1
      · cases h1
      · rename_i ys' e2
        cases h1
        simp only [mapO] at h2
        split at h2
        · cases h2
        · rename_i z e3
          split at h2
          · cases h2
          · rename_i zs' e4
            cases h2
            simp only [mapO,hh _ _ _ e1 e3,mapO_comp hh e2 e4]
theorem mv0_comp {ρ σ τ : Nat → Option Nat} (hh : ∀ i j k,ρ i = some j → σ j = some k → τ i = some k) (x y z : V) (h1 : x.mv0 ρ = some y) (h2 : y.mv0 σ = some z) : x.mv0 τ = some z := by
  cases x <;> simp only [V.mv0,Option.map_eq_some_iff] at h1
  case pt =>
    obtain ⟨l',e,rfl⟩ := h1
    simp only [V.mv0,Option.map_eq_some_iff] at h2 ⊢
    obtain ⟨l2,e2,rfl⟩ := h2
    exact ⟨_,hh _ _ _ e e2,rfl⟩
  case ar =>
    obtain ⟨l',e,rfl⟩ := h1
    simp only [V.mv0,Option.map_eq_some_iff] at h2 ⊢
    obtain ⟨l2,e2,rfl⟩ := h2
    exact ⟨_,hh _ _ _ e e2,rfl⟩
  all_goals
    split at h1
    · rename_i hf
      cases h1
      simp only [V.mv0,hf,if_true] at h2 ⊢
      exact h2
    · cases h1
theorem mv1_comp {ρ σ τ : Nat → Option Nat} (hh : ∀ i j k,ρ i = some j → σ j = some k → τ i = some k) (x y z : V) (h1 : x.mv1 ρ = some y) (h2 : y.mv1 σ = some z) : x.mv1 τ = some z := by
  unfold V.mv1 at h1
  split at h1
  · split at h1
    · rename_i az' bs' e1 e2
      cases h1
      unfold V.mv1 at h2
      simp only at h2
      split at h2
      · rename_i e3 e4
        cases h2
        simp only [V.mv1,mapO_comp (mv0_comp hh) e1 e3,mapO_comp (mv0_comp hh) e2 e4]
      · cases h2
    · cases h1
  · rename_i hne
    have hy : y.mv1 σ = y.mv0 σ := by
      cases x <;> simp only [V.mv0,Option.map_eq_some_iff] at h1
      case pt => obtain ⟨l',e,rfl⟩ := h1; rfl
      case ar => obtain ⟨l',e,rfl⟩ := h1; rfl
      case fn f az bs =>
        split at h1
        · cases h1
          unfold V.mv1
          split
          · rename_i e; exact absurd e (hne _ _ _)
          · rfl
        · cases h1
      all_goals (split at h1 <;> cases h1; rfl)
    rw [hy] at h2
    have := mv0_comp hh x y z h1 h2
    unfold V.mv1
    split
    · exact absurd rfl (hne _ _ _)
    · exact this
theorem mv2_comp {ρ σ τ : Nat → Option Nat} (hh : ∀ i j k,ρ i = some j → σ j = some k → τ i = some k) (x y z : V) (h1 : x.mv2 ρ = some y) (h2 : y.mv2 σ = some z) : x.mv2 τ = some z := by
  by_cases hx : ∃ cs,x = .agg cs
  · obtain ⟨cs,rfl⟩ := hx
    simp only [V.mv2,Option.map_eq_some_iff] at h1
    obtain ⟨ds,e1,rfl⟩ := h1
    simp only [V.mv2,Option.map_eq_some_iff] at h2 ⊢
    obtain ⟨es,e2,rfl⟩ := h2
    exact ⟨_,mapO_comp (mv1_comp hh) e1 e2,rfl⟩
  · have e : ∀ ρ,x.mv2 ρ = x.mv1 ρ := fun ρ => by
      unfold V.mv2; split
      · exact absurd ⟨_,rfl⟩ hx
      · rfl
    rw [e] at h1 ⊢
    have ho := (mv1_one h1).2
    have e2 : y.mv2 σ = y.mv1 σ := by
      unfold V.mv2; split
      · cases ho
      · rfl
    rw [e2] at h2
    exact mv1_comp hh x y z h1 h2
theorem mv_comp {ρ σ τ : Nat → Option Nat} (hh : ∀ i j k,ρ i = some j → σ j = some k → τ i = some k) (x y z : V) (h1 : x.mv ρ = some y) (h2 : y.mv σ = some z) : x.mv τ = some z := by
  by_cases hx : ∃ cs,x = .tup cs
  · obtain ⟨cs,rfl⟩ := hx
    simp only [V.mv,Option.map_eq_some_iff] at h1
    obtain ⟨ds,e1,rfl⟩ := h1
    simp only [V.mv,Option.map_eq_some_iff] at h2 ⊢
    obtain ⟨es,e2,rfl⟩ := h2
    exact ⟨_,mapO_comp (mv2_comp hh) e1 e2,rfl⟩
  · have e : ∀ ρ,x.mv ρ = x.mv2 ρ := fun ρ => by
      unfold V.mv; split
      · exact absurd ⟨_,rfl⟩ hx
      · rfl
    rw [e] at h1 ⊢
    have e2 : y.mv σ = y.mv2 σ := by
      unfold V.mv; split
      · exfalso
        by_cases ha : ∃ cs,x = .agg cs
        · obtain ⟨cs,rfl⟩ := ha
          simp only [V.mv2,Option.map_eq_some_iff] at h1
          obtain ⟨ds,_,h1⟩ := h1; cases h1
        · have e3 : x.mv2 ρ = x.mv1 ρ := by
            unfold V.mv2; split
            · exact absurd ⟨_,rfl⟩ ha
            · rfl
          rw [e3] at h1
          have := (mv1_one h1).2
          cases this
      · rfl
    rw [e2] at h2
    exact mv2_comp hh x y z h1 h2
theorem mvO_comp {ρ σ τ : Nat → Option Nat} (hh : ∀ i j k,ρ i = some j → σ j = some k → τ i = some k) (x y z : O) (h1 : mvO ρ x = some y) (h2 : mvO σ y = some z) : mvO τ x = some z := by
  cases x <;> simp only [mvO,Option.map_eq_some_iff] at h1
  case cells =>
    obtain ⟨ds,e1,rfl⟩ := h1
    simp only [mvO,Option.map_eq_some_iff] at h2 ⊢
    obtain ⟨es,e2,rfl⟩ := h2
    exact ⟨_,mapO_comp (mv1_comp hh) e1 e2,rfl⟩
  case arr =>
    obtain ⟨ds,e1,rfl⟩ := h1
    simp only [mvO,Option.map_eq_some_iff] at h2 ⊢
    obtain ⟨es,e2,rfl⟩ := h2
    exact ⟨_,mapO_comp (mv2_comp hh) e1 e2,rfl⟩
  all_goals cases h1
theorem out_comp {S N : List Nat} {m : Nat} (i j k : Nat) (h1 : outI S.length N i = some j) (h2 : outT S S.length m j = some k) : outS S N m i = some k := by
  unfold outI at h1
  unfold outT at h2
  unfold outS
  split at h1
  · rename_i h; cases h1; rw [if_pos h] at h2 ⊢; exact h2
  · rename_i h
    rw [if_neg h]
    split at h1
    · rename_i hm; cases h1
      rw [if_neg (by omega)] at h2
      rw [if_pos hm]; cases h2; congr 1; omega
    · cases h1

theorem SFn.call {f : FuncId} {az bs xs ys zs : List V} {o o1 os : List O} {S : List Nat} {Q : V → List O → Prop} {K : V → List O → Prop} (h : SFn P T f zs os Q) (hm : T.mode f = 5 ∨ T.mode f = 6)
    (hc : evCallV.hand (T.mode f) o (az ++ xs ++ bs) = some (ys,o1)) (hn : S.Nodup) (hz : mapO (V.mv2 (inS S)) ys = some zs) (hos : mapO (fun l => (o1[l]?).bind (mvO (inS S))) S = some os)
    (hK : ∀ z os',Q z os' → ∃ z' os'',z.mv (outT S S.length o1.length) = some z' ∧ mapO (mvO (outT S S.length o1.length)) os' = some os'' ∧ K z' (putS o1 S os'' ++ os''.drop S.length)) :
    evCallV T (Call P T) yi (.fn (.func f) az bs) xs o K := by
  have h1 : ¬ T.mode f < 2 := by omega
  have h2 : ¬ T.mode f = 3 := by omega
  have h3 : ¬ T.mode f = 2 := by omega
  simp only [evCallV]
  rw [if_neg h1,if_neg h2,if_neg h3,if_pos hm,hc]
  refine ⟨S,zs,os,hn,hz,hos, ?_⟩
  refine call_le _ _ f (fun _ _ _ _ _ _ h => h) _ _ _ _ (fun y o' hy => ?_) (h _ (fun _ _ _ _ _ _ h => h))
  obtain ⟨z,os',⟨z0,o2,N,a1,a2,a3,a4,a5⟩,hq⟩ := hy
  obtain ⟨z',os'',b1,b2,b3⟩ := hK z os' hq
  have hl := mapO_len hos
  rw [hl] at a3 a4 a5
  exact ⟨z0,o2,N,z',os'',a1,a2,a3,mv_comp out_comp _ _ _ a4 b1,mapO_comp (f := fun i => (o2[i]?).bind (mvO (outI S.length N))) (g := mvO (outT S S.length o1.length)) (fun i y z e1 e2 => by
    simp only [Option.bind_eq_some_iff] at e1 ⊢
    obtain ⟨ob,e3,e4⟩ := e1
    exact ⟨ob,e3,mvO_comp out_comp _ _ _ e4 e2⟩) a5 b2,b3⟩

theorem mv0_free {ρ : Nat → Option Nat} {x : V} (h : x.free1 = true) : x.mv0 ρ = some x := by
  cases x <;> simp_all [V.mv0,V.free1]
theorem mapO_id {α : Type} {f : α → Option α} : ∀ {xs : List α},(∀ x ∈ xs,f x = some x) → mapO f xs = some xs
  | [],h => rfl
  | x :: xs,h => by
    have ih : mapO f xs = some xs := mapO_id fun y hy => h y (List.mem_cons_of_mem _ hy)
    simp only [mapO,h x (by simp),ih]
theorem mv1_free {ρ : Nat → Option Nat} {x : V} (h : x.free1 = true) : x.mv1 ρ = some x := by
  unfold V.mv1
  split
  · rename_i f az bs
    have e : az = [] ∧ bs = [] := by cases az <;> cases bs <;> simp_all [V.free1]
    obtain ⟨rfl,rfl⟩ := e
    rfl
  · exact mv0_free h
theorem mv2_free {ρ : Nat → Option Nat} {x : V} (h : x.free = true) : x.mv2 ρ = some x := by
  unfold V.mv2
  split
  · rename_i cs
    simp only [V.free,List.all_eq_true] at h
    rw [mapO_id (fun y hy => mv1_free (h y hy))]; rfl
  · exact mv1_free (by cases x <;> first | exact h | (rename_i hne; exact absurd rfl (hne _)))
theorem mv_free {ρ : Nat → Option Nat} {x : V} (h : x.freeT = true) : x.mv ρ = some x := by
  unfold V.mv
  split
  · rename_i cs
    simp only [V.freeT,List.all_eq_true] at h
    rw [mapO_id (fun y hy => mv2_free (h y hy))]; rfl
  · exact mv2_free (by cases x <;> first | exact h | (rename_i hne; exact absurd rfl (hne _)))
theorem mvC_free {ρ : Nat → Option Nat} {cs : List V} (h : cs.all V.free1 = true) : mvO ρ (.cells cs) = some (.cells cs) := by
  simp only [List.all_eq_true] at h
  simp only [mvO]; rw [mapO_id (fun y hy => mv1_free (h y hy))]; rfl

theorem SFn.call1 {f : FuncId} {xs : List V} {o : List O} {l : Nat} {cs : List V} {Q : V → List O → Prop} {K : V → List O → Prop} (h : SFn P T f (.pt 0 0 :: xs) [.cells cs] Q) (hm : T.mode f = 5)
    (hx : ∀ x ∈ xs,x.free = true) (hl : o[l]? = some (.cells cs)) (hcs : cs.all V.free1 = true)
    (hK : ∀ z os',Q z os' → ∃ cs',os' = [.cells cs'] ∧ cs'.all V.free1 = true ∧ z.freeT = true ∧ K z (o.set l (.cells cs'))) :
    evCallV T (Call P T) yi (.fn (.func f) [] []) (.pt l 0 :: xs) o K := by
  have hc : evCallV.commits' o xs = some (xs,o) := by
    clear h hK
    induction xs with
    | nil => rfl
    | cons x xs ih => exact cm_free (hx x (by simp)) (ih fun y hy => hx y (by simp [hy]))
  refine h.call (S := [l]) (ys := .pt l 0 :: xs) (o1 := o) (.inl hm) (by rw [hm]; simpa [evCallV.hand] using cm_pt hc) (by simp) ?_ ?_ fun z os' hq => ?_
  · simp only [mapO,V.mv2,V.mv1,V.mv0,inS,List.mem_singleton,if_true,List.idxOf_cons_self,Option.map_some]
    rw [mapO_id (fun y hy => mv2_free (hx y hy))]
  · simp only [mapO,hl,Option.bind_some,mvC_free hcs]
  · obtain ⟨cs',rfl,h1,h2,h3⟩ := hK z os' hq
    exact ⟨z,[.cells cs'],mv_free h2,by simp only [mapO,mvC_free h1],by simpa [putS] using h3⟩
theorem fin1 {z : V} {cs : List V} {r : List O} (h1 : cs.all V.free1 = true) (h2 : z.freeT = true) : Fin5 1 z (.cells cs :: r) z [.cells cs] :=
  ⟨z,.cells cs :: r,[],.inr ⟨rfl,rfl⟩,by simp,by simp,mv_free h2,by simp [mapO,mvC_free h1]⟩
end Go.Proofs.Pe
end

section
set_option linter.unusedVariables false
set_option linter.unusedSimpArgs false
set_option maxRecDepth 100000
set_option maxHeartbeats 1000000
namespace Go.Proofs.Pe

/-! ### Bytes, signs (plain) -/
def isSm (c : UInt8) : Bool := decide (97 ≤ c.toNat) && decide (c.toNat ≤ 122)
def isDg (c : UInt8) : Bool := decide (48 ≤ c.toNat) && decide (c.toNat ≤ 57)
def isIn (c : UInt8) : Bool := isSm c || isDg c || decide (c.toNat = 95)
def notNl (c : UInt8) : Bool := !decide (c.toNat = 10)
def isBl (c : UInt8) : Bool := decide (c.toNat = 32) || decide (c.toNat = 9) || decide (c.toNat = 10) || decide (c.toNat = 13)
def all256 (f : Nat → Bool) : Bool := (List.range 256).all f
theorem all256_get {f : Nat → Bool} (h : all256 f = true) (c : UInt8) : f c.toNat = true := by
  unfold all256 at h
  rw [List.all_eq_true] at h
  exact h _ (List.mem_range.2 c.toNat_lt)
def isBo (b : Bool) (y : V) : Bool := match y with
  | .sc (.bool c) => c == b
  | _ => false
theorem isBo_eq {b : Bool} {y : V} (h : isBo b y = true) : y = bV b := by
  unfold isBo at h
  split at h
  · simp at h; subst h; rfl
  · cases h
theorem ofNat_toNat (c : UInt8) : UInt8.ofNat c.toNat = c := by simp
def lim : Nat := 1000000
def dbls : List (List UInt8) := [[58,61],[45,62],[61,61],[33,61],[60,61],[62,61],[38,38],[124,124]]
def sngs : List UInt8 := [123,125,40,41,59,43,45,42,47,37,60,62,33]
def markN (r : List UInt8) : Nat := if dbls.contains (r.take 2) = true then 2 else match r with
  | [] => 0
  | c :: _ => if sngs.contains c = true then 1 else 0
theorem dbls_two {d : List UInt8} (h : d ∈ dbls) : d.length = 2 := by
  simp [dbls] at h; rcases h with rfl | rfl | rfl | rfl | rfl | rfl | rfl | rfl <;> rfl
def dV : List V := dbls.map fun d => tV d
def goneN : Bool → List UInt8 → Nat
  | _,[] => 0
  | false,c :: r => if isBl c = true then goneN false r + 1 else if c.toNat = 35 then goneN true r + 1 else 0
  | true,c :: r => if c.toNat = 10 then goneN false r + 1 else goneN true r + 1
theorem gone_bl {c : UInt8} {r : List UInt8} (h : isBl c = true) : goneN false (c :: r) = goneN false r + 1 := by simp only [goneN,h,if_true]
theorem gone_no {c : UInt8} {r : List UInt8} (h : isBl c = false) (h2 : c.toNat ≠ 35) : goneN false (c :: r) = 0 := by simp only [goneN,h,if_neg h2]; rfl
theorem gone_rem {c : UInt8} {r : List UInt8} (h : isBl c = false) (h2 : c.toNat = 35) : goneN false (c :: r) = goneN true (c :: r) := by
  simp only [goneN,h,if_pos h2,if_neg (show ¬ c.toNat = 10 by omega)]; rfl
theorem gone_nl {c : UInt8} {r : List UInt8} (h : c.toNat = 10) : goneN true (c :: r) = goneN false (c :: r) := by
  have : isBl c = true := by simp [isBl,h]
  simp only [goneN,this,h,if_true]
theorem gone_in {c : UInt8} {r : List UInt8} (h : c.toNat ≠ 10) : goneN true (c :: r) = goneN true r + 1 := by simp only [goneN,if_neg h]
theorem dc {l : List UInt8} {i : Nat} {c : UInt8} (h : l[i]? = some c) : l.drop i = c :: l.drop (i + 1) := by
  have hi := (List.getElem?_eq_some_iff.1 h).1
  rw [List.drop_eq_getElem_cons hi]
  rw [List.getElem?_eq_getElem hi] at h
  rw [Option.some.inj h]

inductive Sgn where
  | err (e : Nat)
  | ok (k n : Nat)
def sgnS (r : List UInt8) : Sgn := match r with
  | [] => .err 1
  | c :: _ => if isSm c = true then (if rnN isIn r > 20 then .err 3 else .ok 1 (rnN isIn r))
    else if isDg c = true then (if rnN isDg r > 18 then .err 3 else if rnN isDg r > 1 ∧ c.toNat = 48 then .err 1 else .ok 2 (rnN isDg r))
    else if markN r = 0 then .err 1 else .ok 3 (markN r)
def sgV (k : Nat) (t : List UInt8) (i : Nat) : V := .agg [iV k,tV t,iV i]
structure Sg where
  k : Nat
  t : List UInt8
  i : Nat
inductive Res where
  | err (i e : Nat)
  | ok (l : List Sg)
def Sg.v (s : Sg) : V := sgV s.k s.t s.i
inductive SR : List UInt8 → Nat → List Sg → Res → Prop
  | done {r : List UInt8} {i : Nat} {acc : List Sg} (h : r.drop (goneN false r) = []) : SR r i acc (.ok acc)
  | err {r r' : List UInt8} {c : UInt8} {i e : Nat} {acc : List Sg} (h : r.drop (goneN false r) = c :: r') (h2 : sgnS (c :: r') = .err e) : SR r i acc (.err (i + goneN false r) e)
  | one {r r' : List UInt8} {c : UInt8} {i k m : Nat} {acc : List Sg} {res : Res} (h : r.drop (goneN false r) = c :: r') (h2 : sgnS (c :: r') = .ok k m)
      (h3 : SR ((c :: r').drop m) (i + goneN false r + m) (acc ++ [⟨k,(c :: r').take m,i + goneN false r⟩]) res) : SR r i acc res
theorem sgnS_pos {r : List UInt8} {k m : Nat} (h : sgnS r = .ok k m) : 0 < m ∧ m ≤ r.length := by
  cases r with
  | nil => simp [sgnS] at h
  | cons c r =>
    have pos : ∀ p : UInt8 → Bool,p c = true → 0 < rnN p (c :: r) := fun p hp => by unfold rnN; rw [List.takeWhile_cons,if_pos hp]; simp
    simp only [sgnS] at h
    split at h
    · rename_i hs
      split at h
      · cases h
      · cases h; exact ⟨pos _ (by simp [isIn,hs]),rnN_le _ _⟩
    · split at h
      · rename_i hd
        split at h
        · cases h
        · split at h
          · cases h
          · cases h; exact ⟨pos _ hd,rnN_le _ _⟩
      · split at h
        · cases h
        · cases h
          refine ⟨by omega, ?_⟩
          unfold markN
          split
          · rename_i h2
            have := dbls_two (by simpa using h2)
            simp at this ⊢; omega
          · dsimp only; split <;> simp
theorem SR.shift {r : List UInt8} {i n : Nat} {acc : List Sg} {res : Res} (h : SR r i acc res) (hg : goneN false r = n + goneN false (r.drop n)) : SR (r.drop n) (i + n) acc res := by
  have hd : (r.drop n).drop (goneN false (r.drop n)) = r.drop (goneN false r) := by rw [List.drop_drop,hg]
  have hi : i + n + goneN false (r.drop n) = i + goneN false r := by omega
  cases h with
  | done h => exact .done (by rw [hd]; exact h)
  | err h h2 => rw [← hi]; exact .err (by rw [hd]; exact h) h2
  | one h h2 h3 => exact .one (by rw [hd]; exact h) h2 (by rw [hi]; exact h3)
theorem gone_run : ∀ r : List UInt8,goneN true r = rnN notNl r + goneN false (r.drop (rnN notNl r))
  | [] => rfl
  | c :: r => by
    unfold rnN
    rw [List.takeWhile_cons]
    by_cases h : c.toNat = 10
    · have : notNl c = false := by simp [notNl,h]
      simp only [this,Bool.false_eq_true,if_false,List.length_nil,List.drop_zero,Nat.zero_add]
      exact gone_nl h
    · have : notNl c = true := by simp [notNl,h]
      have ih := gone_run r
      unfold rnN at ih
      simp only [this,if_true,List.length_cons,List.drop_succ_cons]
      rw [gone_in h,ih]; omega
theorem SR.nilI {i : Nat} {acc : List Sg} {res : Res} (h : SR [] i acc res) : res = .ok acc := by
  cases h with
  | done h => rfl
  | err h h2 => simp at h
  | one h h2 h3 => simp at h
theorem SR.at {c : UInt8} {r : List UInt8} {i : Nat} {acc : List Sg} {res : Res} (h : SR (c :: r) i acc res) (hg : goneN false (c :: r) = 0) :
    (∃ e,sgnS (c :: r) = .err e ∧ res = .err i e) ∨ ∃ k m,sgnS (c :: r) = .ok k m ∧ SR ((c :: r).drop m) (i + m) (acc ++ [⟨k,(c :: r).take m,i⟩]) res := by
  cases h with
  | done h => rw [hg] at h; simp at h
  | err h h2 => rw [hg] at h; cases h; exact .inl ⟨_,h2,by rw [hg]; rfl⟩
  | one h h2 h3 => rw [hg] at h h3; cases h; exact .inr ⟨_,_,h2,h3⟩

def RV : Res → V → Prop
  | .err i e,z => z = .tup [nilV,iV i,iV e]
  | .ok l,z => ∃ w,z = .tup [w,iV 0,iV 0] ∧ IsSl 3 w (l.map Sg.v)
theorem frzT_3 {o : List O} {x y z w : V} {o1 : List O} (hx : freezeD o x = some (w,o1)) (hy : y.free = true) (hz : z.free = true) : freezeT o (.tup [x,y,z]) = some (.tup [w,y,z],o1) := by
  simp only [freezeT,freezeDs,hx,frzD_free hy,frzD_free hz,Option.map_some]
theorem Sg.okv (s : Sg) : s.v.free = true ∧ s.v.cells.length = 3 := ⟨rfl,rfl⟩
theorem sgs_ok (l : List Sg) : okRow 3 (l.map Sg.v) ∧ (l.map Sg.v).all V.free = true := by
  constructor
  · unfold okRow
    simp only [List.all_eq_true,Bool.and_eq_true,decide_eq_true_eq]
    intro v hv
    obtain ⟨s,_,rfl⟩ := List.mem_map.1 hv
    exact s.okv
  · simp only [List.all_eq_true]
    intro v hv
    obtain ⟨s,_,rfl⟩ := List.mem_map.1 hv
    exact s.okv.1
theorem lex_push {l : List UInt8} {i k m : Nat} {acc : List Sg} {o' : List O} {out : V} {A : List Nat} {kv : Int} (hkv : kv = (k : Int)) (hrow : RowAt o' 3 out (acc.map Sg.v) A) (hacc : acc.length ≤ i) (hl : i ≤ 4000) :
    ∃ rv' o1 A2,appOf 3 32 (o' ++ [O.cells [iV kv,tV ((l.drop i).take m),iV i]]) out (.sl 3 true [.agg [iV kv,tV ((l.drop i).take m),iV i]]) = some (rv',o1) ∧
      RowAt o1 3 rv' ((acc ++ [(⟨k,(l.drop i).take m,i⟩ : Sg)]).map Sg.v) A2 ∧ o1[o'.length]? = some (.cells [iV kv,tV ((l.drop i).take m),iV i]) := by
  subst hkv
  have hr' : RowAt (o' ++ [.cells [iV k,tV ((l.drop i).take m),iV i]]) 3 out (acc.map Sg.v) A := hrow.frm (.app _ _ []) (fun _ _ => by simp)
  obtain ⟨rv',o1,A2,ha,hr2,hfr,hA⟩ := hr'.push (b := 32) (f := true) (y := sgV k ((l.drop i).take m) i) rfl (by simp; unfold room; omega)
  have hbox : (o' ++ [O.cells [iV k,tV ((l.drop i).take m),iV i]])[o'.length]? = some (.cells [iV k,tV ((l.drop i).take m),iV i]) := get_new
  exact ⟨rv',o1,A2,ha,by simpa [Sg.v,sgV] using hr2,hfr.cells hbox (hr'.notCells hbox)⟩
def kW : List (List UInt8) := [[118,97,114],[115,116,97,99,107],[112,114,111,99],[115,107,105,112],[100,111],[112,117,115,104],[114,101,118,101,114,115,101],[97,99,99,101,112,116],[109,101,114,103,101],[98,108,111,99,107],[101,120,105,116],[105,102],[101,108,115,101],[99,104,111,111,115,101],[112,97,114],[99,97,108,108]]
def ks : List UInt8 := [32,118,97,114,32,115,116,97,99,107,32,112,114,111,99,32,115,107,105,112,32,100,111,32,112,117,115,104,32,114,101,118,101,114,115,101,32,97,99,99,101,112,116,32,109,101,114,103,101,32,98,108,111,99,107,32,101,120,105,116,32,105,102,32,101,108,115,101,32,99,104,111,111,115,101,32,112,97,114,32,99,97,108,108,32]
def isKey (s : List UInt8) : Bool := kW.contains s
def kV : List V := kW.map fun w => tV w
def okB (f : Bool) (c : UInt8) : Bool := if f then isSm c else isIn c
def wordy (s : List UInt8) : Bool := (List.range s.length).all fun j => match s[j]? with
  | some c => okB (j == 0) c
  | none => true
def isName (s : List UInt8) : Bool := decide (1 ≤ s.length) && decide (s.length ≤ 20) && !isKey s && wordy s
theorem wordy_t {s : List UInt8} (h : ∀ j c,s[j]? = some c → okB (j == 0) c = true) : wordy s = true := by
  unfold wordy
  rw [List.all_eq_true]
  intro j hj
  split
  · rename_i c hc; exact h j c hc
  · rfl
theorem wordy_f {s : List UInt8} {j : Nat} {c : UInt8} (hc : s[j]? = some c) (h : okB (j == 0) c = false) : wordy s = false := by
  cases hw : wordy s with
  | false => rfl
  | true =>
    have := List.all_eq_true.1 hw j (by simpa using (List.getElem?_eq_some_iff.1 hc).1)
    rw [hc] at this
    rw [show okB (j == 0) c = true from this] at h
    cases h
theorem name_short {s : List UInt8} (h : s.length < 1) : isName s = false := by
  unfold isName; rw [decide_eq_false (by omega)]; rfl
theorem name_long {s : List UInt8} (h : 20 < s.length) : isName s = false := by
  unfold isName; rw [decide_eq_false (p := s.length ≤ 20) (by omega)]; simp
theorem name_key {s : List UInt8} (h : isKey s = true) : isName s = false := by
  unfold isName; rw [h]; simp
theorem name_w {s : List UInt8} (h1 : ¬ s.length < 1) (h2 : ¬ 20 < s.length) (h : isKey s = false) : isName s = wordy s := by
  unfold isName; rw [h,decide_eq_true (p := 1 ≤ s.length) (by omega),decide_eq_true (p := s.length ≤ 20) (by omega)]; rfl
theorem dec_lo {s : List UInt8} {p : Nat} {c : UInt8} (h : s[p]? = some c) (hc : c.toNat < 128) : Utf8.decode ⟨s.toArray⟩ p = (c.toNat,1) := by
  obtain ⟨hp,e⟩ := List.getElem?_eq_some_iff.1 h
  have hb : (ByteArray.mk s.toArray)[p]'(by simpa [bsz] using hp) = c := by rw [← e]; rfl
  rw [decode_ascii _ p (by simpa [bsz] using hp) (by rw [hb]; exact hc),hb]
theorem dec_hi {s : List UInt8} {p : Nat} {c : UInt8} (h : s[p]? = some c) (hc : 128 ≤ c.toNat) : ∃ r w,Utf8.decode ⟨s.toArray⟩ p = (r,w) ∧ 128 ≤ r := by
  obtain ⟨hp,e⟩ := List.getElem?_eq_some_iff.1 h
  have hb : (ByteArray.mk s.toArray)[p]'(by simpa [bsz] using hp) = c := by rw [← e]; rfl
  exact ⟨_,_,rfl,(decode_high _ p (by simpa [bsz] using hp) (by rw [hb]; exact hc)).1⟩
end Go.Proofs.Pe
end

section
set_option linter.unusedVariables false
set_option linter.unusedSimpArgs false
set_option maxRecDepth 100000
set_option maxHeartbeats 4000000
open Go.Proofs.Pe renaming putCells → qC, bslOf → qO, bsaOf → qA, bslS → qS, isUpto → qU, step → qT, intOf → qI, iop → qP, sop → qQ
open List renaming replicate → qR
open Go.Proofs.Pe.V renaming dead → qD
namespace Go.Proofs.YtclaoegdlibapaaDoor
open Go.Proofs.Pe

theorem sm_all : all256 (fun n => evCallB Tryd.prog T 60 noYB 26 [.sc (.int .u8 n)] [] (froB (isBo (isSm (UInt8.ofNat n))))) = true := by kernel_rfl
theorem small_p (c : UInt8) : PFn Tryd.prog T 26 [cV c] fun z => z = bV (isSm c) := by
  have := all256_get sm_all c
  rw [ofNat_toNat] at this
  exact (PFn.ofB 60 this).mono fun z h => isBo_eq h
theorem dg_all : all256 (fun n => evCallB Tryd.prog T 60 noYB 28 [.sc (.int .u8 n)] [] (froB (isBo (isDg (UInt8.ofNat n))))) = true := by kernel_rfl
theorem digit_p (c : UInt8) : PFn Tryd.prog T 28 [cV c] fun z => z = bV (isDg c) := by
  have := all256_get dg_all c
  rw [ofNat_toNat] at this
  exact (PFn.ofB 60 this).mono fun z h => isBo_eq h
theorem in_all : all256 (fun n => evCallB Tryd.prog T 60 noYB 27 [.sc (.int .u8 n)] [] (froB (isBo (isIn (UInt8.ofNat n))))) = true := by kernel_rfl
theorem inner_p (c : UInt8) : PFn Tryd.prog T 27 [cV c] fun z => z = bV (isIn c) := by
  have := all256_get in_all c
  rw [ofNat_toNat] at this
  exact (PFn.ofB 60 this).mono fun z h => isBo_eq h
theorem nl_all : all256 (fun n => evCallB Tryd.prog T 60 noYB 25 [.sc (.int .u8 n)] [] (froB (isBo (notNl (UInt8.ofNat n))))) = true := by kernel_rfl
theorem notNl_p (c : UInt8) : PFn Tryd.prog T 25 [cV c] fun z => z = bV (notNl c) := by
  have := all256_get nl_all c
  rw [ofNat_toNat] at this
  exact (PFn.ofB 60 this).mono fun z h => isBo_eq h
theorem pcall {f : FuncId} {xs : List V} {y : V} {o : List O} {yi : Nat → Sem'} {K : V → List O → Prop} (h : PFn Tryd.prog T f xs fun z => z = y) (hm : T.mode f = 0) (hx : ∀ x,x ∈ xs → x.free = true) (hK : K y o) :
    evCallV T (Pe.Call Tryd.prog T) yi (.fn (.func f) [] []) xs o K := h.callF hm hx fun z hz => by subst hz; exact hK

theorem as_p {l : List UInt8} {i : Nat} {f : FuncId} {p : UInt8 → Bool} (hf : ∀ c,PFn Tryd.prog T f [cV c] fun z => z = bV (p c)) (hm : T.mode f = 0) (hi : i ≤ l.length) (hl : l.length ≤ lim) :
    PFn Tryd.prog T 24 [tV l,iV i,.fn (.func f) [] []] fun z => z = iV (rnN p (l.drop i)) := by
  unfold lim at hl
  intro yi hy
  refine Call.step hy ?_
  rw [body_eq t24]
  simp only [c24,c24x1,c24x2,RUA,RUB,RUC,RUD,RUE,RUF,if_true,if_false,Int.reduceEq,Int.reduceLT,Int.reduceLE,qC,qO,qA,qS,qU,Nat.reduceEqDiff,qT,E.at,qR,Nat.reduceAdd,Nat.reduceSub,Nat.reduceLeDiff,Nat.reduceMul,qI,qP,qQ]
  have hr := rnN_le p (l.drop i)
  simp only [List.length_drop] at hr
  refine Lfp.inv call_le hy (fun n : Nat => ⟨⟨[tV l,iV i,.fn (.func f) [] [],.dead,.dead,.dead,.dead,iV n,.dead,.dead,.dead,.dead,.dead,.dead,.dead,.dead,.dead,.dead,.dead,.dead,.dead,.dead,.dead,.dead,.dead,.dead],[]⟩,[]⟩) (fun n => rnN p (l.drop i) - n)
    (fun n => n ≤ rnN p (l.drop i)) 0 (Nat.zero_le _) (by simp only [kill_L,killTs_nil,RUF] <;> rfl) ?_
  intro n hn
  have hw : IntKind.i64.wrap ((i : Int) + (n : Int)) = ((i + n : Nat) : Int) := by rw [wrap_ok (by omega) (by omega)]; omega
  have hw1 : IntKind.i64.wrap ((n : Int) + 1) = ((n + 1 : Nat) : Int) := wrap_succ (by omega)
  by_cases hlt : n < rnN p (l.drop i)
  · obtain ⟨c,hc,hp⟩ := rnN_in p hlt
    rw [List.getElem?_drop] at hc
    have hd : decide (((i + n : Nat) : Int) < (l.length : Int)) = true := by simp; omega
    simp only [c24,c24x1,c24x2,c24x3,c24x4,c24x5,c24x6,RUA,RUB,RUC,RUD,RUE,RUF,if_true,if_false,Int.reduceEq,Int.reduceLT,Int.reduceLE,qC,qO,qA,qS,qU,Nat.reduceEqDiff,qT,E.at,qR,Nat.reduceAdd,Nat.reduceSub,Nat.reduceLeDiff,Nat.reduceMul,qI,qP,qQ,hw,hd,hc]
    refine pcall (hf c) hm (by simp [V.free,V.free1]) ?_
    rw [hp]
    simp only [c24,c24x1,c24x2,c24x3,c24x4,c24x5,c24x6,RUA,RUB,RUC,RUD,RUE,RUF,if_true,if_false,Int.reduceEq,Int.reduceLT,Int.reduceLE,qC,qO,qA,qS,qU,Nat.reduceEqDiff,qT,E.at,qR,Nat.reduceAdd,Nat.reduceSub,Nat.reduceLeDiff,Nat.reduceMul,qI,qP,qQ,hw1]
    exact ⟨n + 1,by omega,by omega,rfl⟩
  · have hne : n = rnN p (l.drop i) := by omega
    rcases rnN_out p (l.drop i) with h | ⟨c,hc,hp⟩
    · rw [List.length_drop] at h
      have hd : decide (((i + n : Nat) : Int) < (l.length : Int)) = false := by simp; omega
      simp only [c24,c24x1,c24x2,c24x3,c24x4,c24x5,c24x6,RUA,RUB,RUC,RUD,RUE,RUF,if_true,if_false,Int.reduceEq,Int.reduceLT,Int.reduceLE,qC,qO,qA,qS,qU,Nat.reduceEqDiff,qT,E.at,qR,Nat.reduceAdd,Nat.reduceSub,Nat.reduceLeDiff,Nat.reduceMul,qI,qP,qQ,hw,hd]
      exact ⟨_,_,rfl,by rw [hne]⟩
    · rw [List.getElem?_drop,← hne] at hc
      have hlt2 := (List.getElem?_eq_some_iff.1 hc).1
      have hd : decide (((i + n : Nat) : Int) < (l.length : Int)) = true := by simp; omega
      simp only [c24,c24x1,c24x2,c24x3,c24x4,c24x5,c24x6,RUA,RUB,RUC,RUD,RUE,RUF,if_true,if_false,Int.reduceEq,Int.reduceLT,Int.reduceLE,qC,qO,qA,qS,qU,Nat.reduceEqDiff,qT,E.at,qR,Nat.reduceAdd,Nat.reduceSub,Nat.reduceLeDiff,Nat.reduceMul,qI,qP,qQ,hw,hd,hc]
      refine pcall (hf c) hm (by simp [V.free,V.free1]) ?_
      rw [hp]
      simp only [c24,c24x1,c24x2,c24x3,c24x4,c24x5,c24x6,RUA,RUB,RUC,RUD,RUE,RUF,if_true,if_false,Int.reduceEq,Int.reduceLT,Int.reduceLE,qC,qO,qA,qS,qU,Nat.reduceEqDiff,qT,E.at,qR,Nat.reduceAdd,Nat.reduceSub,Nat.reduceLeDiff,Nat.reduceMul,qI,qP,qQ]
      exact ⟨_,_,rfl,by rw [hne]⟩
theorem hasPrefix_p (a b : List UInt8) : PFn Tryd.prog T 39 [tV a,tV b] fun z => z = bV (a.take b.length == b) := by
  intro yi hy
  refine Call.step hy ?_
  rw [body_eq t39]
  simp only [c39,c39x1,RUA,RUB,RUC,RUD,RUE,RUF,if_true,if_false,Int.reduceEq,Int.reduceLT,Int.reduceLE,qC,qO,qA,qS,qU,Nat.reduceEqDiff,qT,E.at,qR,Nat.reduceAdd,Nat.reduceSub,Nat.reduceLeDiff,Nat.reduceMul,qI,qP,qQ]
  have hin : PFn Tryd.prog T 49 [tV a,tV b] fun z => z = bV (a.take b.length == b) := by
    intro yi hy
    refine Call.step hy ?_
    rw [body_eq t49]
    by_cases h : b.length ≤ a.length
    · have hd : decide ((b.length : Int) ≤ (a.length : Int)) = true := by simpa using h
      simp only [c49,c49x1,RUA,RUB,RUC,RUD,RUE,RUF,if_true,if_false,Int.reduceEq,Int.reduceLT,Int.reduceLE,qC,qO,qA,qS,qU,Nat.reduceEqDiff,qT,E.at,qR,Nat.reduceAdd,Nat.reduceSub,Nat.reduceLeDiff,Nat.reduceMul,qI,qP,qQ,hd,ssl_hi h]
      exact ⟨_,_,rfl,rfl⟩
    · have hd : decide ((b.length : Int) ≤ (a.length : Int)) = false := by simpa using h
      have he : (a.take b.length == b) = false := by
        rw [List.take_of_length_le (by omega)]
        simp; intro e; rw [e] at h; omega
      simp only [c49,c49x1,RUA,RUB,RUC,RUD,RUE,RUF,if_true,if_false,Int.reduceEq,Int.reduceLT,Int.reduceLE,qC,qO,qA,qS,qU,Nat.reduceEqDiff,qT,E.at,qR,Nat.reduceAdd,Nat.reduceSub,Nat.reduceLeDiff,Nat.reduceMul,qI,qP,qQ,hd,he]
      exact ⟨_,_,rfl,rfl⟩
  exact pcall hin rfl (by simp [V.free,V.free1]) ⟨_,_,rfl,rfl⟩
theorem ib_all : all256 (fun n => evCallB Tryd.prog T 60 noYB 40 [tV sngs,.sc (.int .u8 n)] [] (froB (fun y => match y with
  | .sc (.int .i64 k) => decide (0 ≤ k) == sngs.contains (UInt8.ofNat n)
  | _ => false))) = true := by kernel_rfl
theorem ib_p (c : UInt8) : PFn Tryd.prog T 40 [tV sngs,cV c] fun z => ∃ k : Int,z = iV k ∧ decide (0 ≤ k) = sngs.contains c := by
  have := all256_get ib_all c
  rw [ofNat_toNat] at this
  refine (PFn.ofB 60 this).mono fun z h => ?_
  split at h
  · rename_i k; exact ⟨k,rfl,by simpa using h⟩
  · cases h
theorem mark_p {l : List UInt8} {i : Nat} (hi : i < l.length) (hl : l.length ≤ lim) : PFn Tryd.prog T 29 [tV l,iV i] fun z => z = tV ((l.drop i).take (markN (l.drop i))) := by
  unfold lim at hl
  have hx : l[i]? = some l[i] := List.getElem?_eq_getElem hi
  have hdr : l.drop i = l[i] :: l.drop (i + 1) := List.drop_eq_getElem_cons hi
  intro yi hy
  refine Call.step hy ?_
  rw [body_eq t29]
  simp only [c29,c29x1,c29x2,RUA,RUB,RUC,RUD,RUE,RUF,if_true,if_false,Int.reduceEq,Int.reduceLT,Int.reduceLE,qC,qO,qA,qS,qU,Nat.reduceEqDiff,qT,E.at,qR,Nat.reduceAdd,Nat.reduceSub,Nat.reduceLeDiff,Nat.reduceMul,qI,qP,qQ]
  refine Lfp.inv call_le hy (fun k : Nat => ⟨⟨[tV l,iV i,.dead,.dead,.dead,.dead,.dead,.sl 1 true dV,iV 8,iV k,.dead,.dead,.dead,.dead,.dead,.dead,.dead,.dead,.dead,.dead,.dead,.dead,.dead,.dead,.dead,.dead,.dead,.dead,.dead,.dead],[]⟩,[]⟩) (fun k => 8 - k)
    (fun k => k ≤ 8 ∧ ∀ j,j < k → dbls[j]? ≠ some ((l.drop i).take 2)) 0 ⟨Nat.zero_le _,fun j h => by omega⟩ (by simp only [kill_L,killTs_nil,RUF] <;> rfl) ?_
  rintro k ⟨hk,hno⟩
  by_cases hlt : k < 8
  · have hd : decide ((k : Int) < 8) = true := by simp; omega
    have hkd : k < dbls.length := hlt
    have hdk : dbls[k]? = some dbls[k] := List.getElem?_eq_getElem hkd
    have hdv : dV[k]? = some (tV dbls[k]) := by simp [dV,hdk]
    have hI : ∀ o,ixOf 1 o (.sl 1 true dV) (iV k) = some (.ep [tV dbls[k]],o) := fun o => IsSl.ix (.inr ⟨_,rfl⟩) o hdv
    have hmem : dbls[k] ∈ dbls := List.getElem_mem hkd
    have h2 := dbls_two hmem
    have hw1 : IntKind.i64.wrap ((k : Int) + 1) = ((k + 1 : Nat) : Int) := wrap_succ (by omega)
    generalize dbls[k] = d at hdk hI hmem h2 hdv
    simp only [c29,c29x1,c29x2,c29x3,c29x4,c29x5,c29x6,c29x7,c29x8,c29x9,c29x10,c29x11,RUA,RUB,RUC,RUD,RUE,RUF,if_true,if_false,Int.reduceEq,Int.reduceLT,Int.reduceLE,qC,qO,qA,qS,qU,Nat.reduceEqDiff,qT,E.at,qR,Nat.reduceAdd,Nat.reduceSub,Nat.reduceLeDiff,Nat.reduceMul,qI,qP,qQ,hd,hI,ssl_lo (Nat.le_of_lt hi)]
    refine pcall (hasPrefix_p (l.drop i) d) rfl (by simp [V.free,V.free1]) ?_
    rw [h2]
    by_cases he : (l.drop i).take 2 = d
    · have hb : ((l.drop i).take 2 == d) = true := by simpa using he
      have hm : markN (l.drop i) = 2 := by
        unfold markN
        rw [if_pos (by rw [he]; simpa using hmem)]
      simp only [c29,c29x1,c29x2,c29x3,c29x4,c29x5,c29x6,c29x7,c29x8,c29x9,c29x10,c29x11,RUA,RUB,RUC,RUD,RUE,RUF,if_true,if_false,Int.reduceEq,Int.reduceLT,Int.reduceLE,qC,qO,qA,qS,qU,Nat.reduceEqDiff,qT,E.at,qR,Nat.reduceAdd,Nat.reduceSub,Nat.reduceLeDiff,Nat.reduceMul,qI,qP,qQ,hb]
      exact ⟨_,_,rfl,by rw [hm,he]⟩
    · have hb : ((l.drop i).take 2 == d) = false := by simpa using he
      simp only [c29,c29x1,c29x2,c29x3,c29x4,c29x5,c29x6,c29x7,c29x8,c29x9,c29x10,c29x11,RUA,RUB,RUC,RUD,RUE,RUF,if_true,if_false,Int.reduceEq,Int.reduceLT,Int.reduceLE,qC,qO,qA,qS,qU,Nat.reduceEqDiff,qT,E.at,qR,Nat.reduceAdd,Nat.reduceSub,Nat.reduceLeDiff,Nat.reduceMul,qI,qP,qQ,hb,hw1]
      refine ⟨k + 1,⟨by omega,fun j hj => ?_⟩,by omega,rfl⟩
      by_cases hjk : j = k
      · subst hjk; rw [hdk]; intro e; cases e; exact he rfl
      · exact hno j (by omega)
  · have hd : decide ((k : Int) < 8) = false := by simp; omega
    have hnc : dbls.contains ((l.drop i).take 2) = false := by
      rw [Bool.eq_false_iff]
      intro h
      simp only [List.contains_iff_mem] at h
      obtain ⟨j,hj⟩ := List.getElem?_of_mem h
      have hjl : j < dbls.length := (List.getElem?_eq_some_iff.1 hj).1
      exact hno j (by have : dbls.length = 8 := rfl; omega) hj
    simp only [c29,c29x1,c29x2,c29x3,c29x4,c29x5,c29x6,c29x7,c29x8,c29x9,c29x10,c29x11,RUA,RUB,RUC,RUD,RUE,RUF,if_true,if_false,Int.reduceEq,Int.reduceLT,Int.reduceLE,qC,qO,qA,qS,qU,Nat.reduceEqDiff,qT,E.at,qR,Nat.reduceAdd,Nat.reduceSub,Nat.reduceLeDiff,Nat.reduceMul,qI,qP,qQ,hd,hx]
    refine (ib_p l[i]).callF rfl (fun x hx => by simp only [List.mem_cons,List.not_mem_nil,or_false] at hx; rcases hx with rfl | rfl <;> rfl) fun z hz => ?_
    obtain ⟨q,rfl,hq⟩ := hz
    have hm : markN (l.drop i) = if sngs.contains l[i] = true then 1 else 0 := by
      unfold markN
      rw [if_neg (by rw [hnc]; simp),hdr]
    cases hc : sngs.contains l[i] with
    | true =>
      rw [hc] at hq hm
      have hw : IntKind.i64.wrap ((i : Int) + 1) = ((i + 1 : Nat) : Int) := wrap_succ (by omega)
      simp only [c29,c29x1,c29x2,c29x3,c29x4,c29x5,c29x6,c29x7,c29x8,c29x9,c29x10,c29x11,RUA,RUB,RUC,RUD,RUE,RUF,if_true,if_false,Int.reduceEq,Int.reduceLT,Int.reduceLE,qC,qO,qA,qS,qU,Nat.reduceEqDiff,qT,E.at,qR,Nat.reduceAdd,Nat.reduceSub,Nat.reduceLeDiff,Nat.reduceMul,qI,qP,qQ,hq,hw,ssl_t (Nat.le_succ i) (show i + 1 ≤ l.length from hi)]
      refine ⟨_,_,rfl, ?_⟩
      rw [hm,if_pos rfl,List.drop_take]; congr 1; congr 1; simp
    | false =>
      rw [hc] at hq hm
      simp only [c29,c29x1,c29x2,c29x3,c29x4,c29x5,c29x6,c29x7,c29x8,c29x9,c29x10,c29x11,RUA,RUB,RUC,RUD,RUE,RUF,if_true,if_false,Int.reduceEq,Int.reduceLT,Int.reduceLE,qC,qO,qA,qS,qU,Nat.reduceEqDiff,qT,E.at,qR,Nat.reduceAdd,Nat.reduceSub,Nat.reduceLeDiff,Nat.reduceMul,qI,qP,qQ,hq]
      refine ⟨_,_,rfl, ?_⟩
      rw [hm]; rfl
theorem clone3 {v : V} {l : List Sg} (hv : IsSl 3 v (l.map Sg.v)) (hs : l.length ≤ lim) : PFn Tryd.prog T 30 [v] fun z => IsSl 3 z (l.map Sg.v) := by
  unfold lim at hs
  obtain ⟨hk,hf⟩ := sgs_ok l
  have hlen : (l.map Sg.v).length = l.length := by simp
  generalize l.map Sg.v = vs at hv hk hf hlen
  intro yi hy
  refine Call.step hy ?_
  rw [body_eq t30]
  rcases hv with ⟨rfl,hn⟩ | ⟨f,rfl⟩
  · simp only [c30,c30x1,c30x2,c30x3,RUA,RUB,RUC,RUD,RUE,RUF,if_true,if_false,Int.reduceEq,Int.reduceLT,Int.reduceLE,qC,qO,qA,qS,qU,Nat.reduceEqDiff,qT,E.at,qR,Nat.reduceAdd,Nat.reduceSub,Nat.reduceLeDiff,Nat.reduceMul,qI,qP,qQ]
    exact ⟨_,_,rfl,.inl ⟨rfl,hn⟩⟩
  · by_cases h0 : vs = []
    · have ha : appOf 3 32 [] (.sl 3 true []) (.sl 3 f vs) = some (.sl 3 true [],[]) := ap_none (by rw [h0]; rfl) (.inl ⟨[],.inr ⟨_,rfl⟩⟩)
      simp only [c30,c30x1,c30x2,c30x3,RUA,RUB,RUC,RUD,RUE,RUF,if_true,if_false,Int.reduceEq,Int.reduceLT,Int.reduceLE,qC,qO,qA,qS,qU,Nat.reduceEqDiff,qT,E.at,qR,Nat.reduceAdd,Nat.reduceSub,Nat.reduceLeDiff,Nat.reduceMul,qI,qP,qQ,ha]
      exact ⟨_,_,rfl,.inr ⟨true,by rw [h0]⟩⟩
    · have ha : appOf 3 32 [] (.sl 3 true []) (.sl 3 f vs) = some (.ar 0 0,[] ++ [O.arr 0 true 3 ([] ++ vs)]) := ap_full rfl hk h0 (by simp [room]; omega)
      simp only [c30,c30x1,c30x2,c30x3,RUA,RUB,RUC,RUD,RUE,RUF,if_true,if_false,Int.reduceEq,Int.reduceLT,Int.reduceLE,qC,qO,qA,qS,qU,Nat.reduceEqDiff,qT,E.at,qR,Nat.reduceAdd,Nat.reduceSub,Nat.reduceLeDiff,Nat.reduceMul,qI,qP,qQ,ha]
      refine ⟨.sl 3 false vs,[O.arr 0 false 3 vs], ?_,.inr ⟨false,rfl⟩⟩
      simp [freezeT,freezeD,hf]
theorem signs_p {l : List UInt8} {res : Res} (hl : l.length ≤ 4000) (hr : SR l 0 [] res) : PFn Tryd.prog T 11 [tV l] (RV res) := by
  have hl' : l.length ≤ lim := by unfold lim; omega
  intro yi hy
  refine Call.step hy ?_
  rw [body_eq t11]
  have hd0 : decide ((4000 : Int) < (l.length : Int)) = false := by simp; omega
  simp only [c11,c11x1,c11x2,c11x3,c11x4,c11x5,RUA,RUB,RUC,RUD,RUE,RUF,if_true,if_false,Int.reduceEq,Int.reduceLT,Int.reduceLE,qC,qO,qA,qS,qU,Nat.reduceEqDiff,qT,E.at,qR,Nat.reduceAdd,Nat.reduceSub,Nat.reduceLeDiff,Nat.reduceMul,qI,qP,qQ,hd0]
  refine Lfp.inv call_le hy (fun a : Nat × List O × V => ⟨⟨(tV l :: qD::a.2.2 :: qD::qD::iV a.1 :: qD::qD::qD::qD::qD::qD::qD::qD::qD::qD::qD::qD::qD::qD::qD::qD::qD::qD::qD::qD::qD::qD::qD::qD::qD::qD::qD::qD::qD::qD::qD::qD::qD::qD::qD::qD::qD::qD::qD::qD::qD::qD::qD::qD::qD::qD::qD::qD::qD::qD::qD::qD::qD::qD::qD::qD::qD::qD::qD::qD::qD::qD::qD::qD::qD::qD::qD::qD::qD::qD::qD::qD::qD::qD::qD::qD::qD::qD::qD::qD::qD::qD::qD::qD::qD::qD::qD::qD::qD::qD::qD::qD::qD::qD::qD::qD::qD::qD::qD::qD::qD::qD::qD::qD::[]),a.2.1⟩,[]⟩) (fun a => l.length - a.1)
    (fun a => a.1 ≤ l.length ∧ ∃ acc A,RowAt a.2.1 3 a.2.2 (acc.map Sg.v) A ∧ SR (l.drop a.1) a.1 acc res ∧ acc.length ≤ a.1) (0,[],nilV) ⟨Nat.zero_le _,[],[],.inl ⟨rfl,rfl,rfl⟩,hr,Nat.le_refl _⟩ (by simp only [kill_L,killTs_nil,RUF] <;> rfl) ?_
  rintro ⟨i,o',out⟩ ⟨hi,acc,A,hrow,hS,hacc⟩
  dsimp only at hi hrow hS hacc
  obtain ⟨hk3,hf3⟩ := sgs_ok acc
  by_cases hlt : i < l.length
  · have hd : decide ((i : Int) < (l.length : Int)) = true := by simpa using hlt
    have hx : l[i]? = some l[i] := List.getElem?_eq_getElem hlt
    generalize l[i] = c at hx
    have hdc := dc hx
    have hw1 : IntKind.i64.wrap ((i : Int) + 1) = ((i + 1 : Nat) : Int) := wrap_succ (by omega)
    have hrA : ∀ b,RowAt (o' ++ [b]) 3 out (acc.map Sg.v) A := fun b => hrow.frm (.app _ _ []) (fun _ _ => by simp)
    have blank : isBl c = true → SR (l.drop (i + 1)) (i + 1) acc res := fun h => by
      have := hS.shift (n := 1) (by rw [List.drop_drop,hdc,gone_bl h]; omega)
      rwa [List.drop_drop] at this
    by_cases h32 : c.toNat = 32
    · have e1 : decide ((c.toNat : Int) = 32) = true := by simp; omega
      simp only [c11,c11x1,c11x2,c11x3,c11x4,c11x5,c11x6,c11x7,c11x8,c11x9,c11x10,c11x11,RUA,RUB,RUC,RUD,RUE,RUF,if_true,if_false,Int.reduceEq,Int.reduceLT,Int.reduceLE,qC,qO,qA,qS,qU,Nat.reduceEqDiff,qT,E.at,qR,Nat.reduceAdd,Nat.reduceSub,Nat.reduceLeDiff,Nat.reduceMul,qI,qP,qQ,hd,hx,fillC,hw1,e1]
      exact ⟨(i + 1,_,out),⟨by simp only; omega,acc,A,hrA _,blank (by simp [isBl,h32]),by simp only; omega⟩,by simp only; omega,rfl⟩
    have e1 : decide ((c.toNat : Int) = 32) = false := by simp; omega
    by_cases h9 : c.toNat = 9
    · have e2 : decide ((c.toNat : Int) = 9) = true := by simp; omega
      simp only [c11,c11x1,c11x2,c11x3,c11x4,c11x5,c11x6,c11x7,c11x8,c11x9,c11x10,c11x11,RUA,RUB,RUC,RUD,RUE,RUF,if_true,if_false,Int.reduceEq,Int.reduceLT,Int.reduceLE,qC,qO,qA,qS,qU,Nat.reduceEqDiff,qT,E.at,qR,Nat.reduceAdd,Nat.reduceSub,Nat.reduceLeDiff,Nat.reduceMul,qI,qP,qQ,hd,hx,fillC,hw1,e1,e2]
      exact ⟨(i + 1,_,out),⟨by simp only; omega,acc,A,hrA _,blank (by simp [isBl,h9]),by simp only; omega⟩,by simp only; omega,rfl⟩
    have e2 : decide ((c.toNat : Int) = 9) = false := by simp; omega
    by_cases h10 : c.toNat = 10
    · have e3 : decide ((c.toNat : Int) = 10) = true := by simp; omega
      simp only [c11,c11x1,c11x2,c11x3,c11x4,c11x5,c11x6,c11x7,c11x8,c11x9,c11x10,c11x11,RUA,RUB,RUC,RUD,RUE,RUF,if_true,if_false,Int.reduceEq,Int.reduceLT,Int.reduceLE,qC,qO,qA,qS,qU,Nat.reduceEqDiff,qT,E.at,qR,Nat.reduceAdd,Nat.reduceSub,Nat.reduceLeDiff,Nat.reduceMul,qI,qP,qQ,hd,hx,fillC,hw1,e1,e2,e3]
      exact ⟨(i + 1,_,out),⟨by simp only; omega,acc,A,hrA _,blank (by simp [isBl,h10]),by simp only; omega⟩,by simp only; omega,rfl⟩
    have e3 : decide ((c.toNat : Int) = 10) = false := by simp; omega
    by_cases h13 : c.toNat = 13
    · have e4 : decide ((c.toNat : Int) = 13) = true := by simp; omega
      simp only [c11,c11x1,c11x2,c11x3,c11x4,c11x5,c11x6,c11x7,c11x8,c11x9,c11x10,c11x11,RUA,RUB,RUC,RUD,RUE,RUF,if_true,if_false,Int.reduceEq,Int.reduceLT,Int.reduceLE,qC,qO,qA,qS,qU,Nat.reduceEqDiff,qT,E.at,qR,Nat.reduceAdd,Nat.reduceSub,Nat.reduceLeDiff,Nat.reduceMul,qI,qP,qQ,hd,hx,fillC,hw1,e1,e2,e3,e4]
      exact ⟨(i + 1,_,out),⟨by simp only; omega,acc,A,hrA _,blank (by simp [isBl,h13]),by simp only; omega⟩,by simp only; omega,rfl⟩
    have e4 : decide ((c.toNat : Int) = 13) = false := by simp; omega
    have hbl : isBl c = false := by simp [isBl,h32,h9,h10,h13]
    by_cases h35 : c.toNat = 35
    · have e5 : decide ((c.toNat : Int) = 35) = true := by simp; omega
      have hnl : notNl c = true := by simp [notNl,h35]
      have hpos : 0 < rnN notNl (l.drop i) := by rw [hdc]; unfold rnN; rw [List.takeWhile_cons,if_pos hnl]; simp
      have hle := rnN_le notNl (l.drop i)
      simp only [List.length_drop] at hle
      have hS2 := hS.shift (n := rnN notNl (l.drop i)) (by
        have := gone_run (l.drop i)
        rw [← this,hdc,gone_rem hbl h35])
      rw [List.drop_drop] at hS2
      simp only [c11,c11x1,c11x2,c11x3,c11x4,c11x5,c11x6,c11x7,c11x8,c11x9,c11x10,c11x11,c11x12,RUA,RUB,RUC,RUD,RUE,RUF,if_true,if_false,Int.reduceEq,Int.reduceLT,Int.reduceLE,qC,qO,qA,qS,qU,Nat.reduceEqDiff,qT,E.at,qR,Nat.reduceAdd,Nat.reduceSub,Nat.reduceLeDiff,Nat.reduceMul,qI,qP,qQ,hd,hx,fillC,e1,e2,e3,e4,e5]
      refine pcall (as_p notNl_p rfl hi hl') rfl (fun x hx => by simp only [List.mem_cons,List.not_mem_nil,or_false] at hx; rcases hx with rfl | rfl | rfl <;> rfl) ?_
      have hw2 : IntKind.i64.wrap ((i : Int) + (rnN notNl (l.drop i) : Int)) = ((i + rnN notNl (l.drop i) : Nat) : Int) := by rw [wrap_ok (by omega) (by omega)]; omega
      simp only [c11,c11x1,c11x2,c11x3,c11x4,c11x5,c11x6,c11x7,c11x8,c11x9,c11x10,c11x11,c11x12,RUA,RUB,RUC,RUD,RUE,RUF,if_true,if_false,Int.reduceEq,Int.reduceLT,Int.reduceLE,qC,qO,qA,qS,qU,Nat.reduceEqDiff,qT,E.at,qR,Nat.reduceAdd,Nat.reduceSub,Nat.reduceLeDiff,Nat.reduceMul,qI,qP,qQ,hw2]
      exact ⟨(i + rnN notNl (l.drop i),_,out),⟨by simp only; omega,acc,A,hrA _,hS2,by simp only; omega⟩,by simp only; omega,rfl⟩
    have e5 : decide ((c.toNat : Int) = 35) = false := by simp; omega
    have hg : goneN false (c :: l.drop (i + 1)) = 0 := gone_no hbl h35
    have hat := (hdc ▸ hS).at hg
    rw [← hdc] at hat
    have hss : ∀ n,i + n ≤ l.length → ∀ o,sslOf o (tV l) (some (iV i)) (some (iV (i + n : Nat))) = some (tV ((l.drop i).take n),o) := fun n hn o => by
      rw [ssl_t (by omega) hn,List.drop_take]; congr 4; omega
    simp only [c11,c11x1,c11x2,c11x3,c11x4,c11x5,c11x6,c11x7,c11x8,c11x9,c11x10,c11x11,c11x12,RUA,RUB,RUC,RUD,RUE,RUF,if_true,if_false,Int.reduceEq,Int.reduceLT,Int.reduceLE,qC,qO,qA,qS,qU,Nat.reduceEqDiff,qT,E.at,qR,Nat.reduceAdd,Nat.reduceSub,Nat.reduceLeDiff,Nat.reduceMul,qI,qP,qQ,hd,hx,fillC,e1,e2,e3,e4,e5]
    refine pcall (small_p c) rfl (by simp [V.free,V.free1]) ?_
    cases hs : isSm c with
    | true =>
      have hle := rnN_le isIn (l.drop i)
      simp only [List.length_drop] at hle
      have ho : sgnS (l.drop i) = if rnN isIn (l.drop i) > 20 then .err 3 else .ok 1 (rnN isIn (l.drop i)) := by
        rw [hdc]; simp only [sgnS,hs,if_true]
      simp only [c11,c11x1,c11x2,c11x3,c11x4,c11x5,c11x6,c11x7,c11x8,c11x9,c11x10,c11x11,c11x12,c11x13,RUA,RUB,RUC,RUD,RUE,RUF,if_true,if_false,Int.reduceEq,Int.reduceLT,Int.reduceLE,qC,qO,qA,qS,qU,Nat.reduceEqDiff,qT,E.at,qR,Nat.reduceAdd,Nat.reduceSub,Nat.reduceLeDiff,Nat.reduceMul,qI,qP,qQ]
      refine pcall (as_p inner_p rfl hi hl') rfl (fun x hx => by simp only [List.mem_cons,List.not_mem_nil,or_false] at hx; rcases hx with rfl | rfl | rfl <;> rfl) ?_
      generalize rnN isIn (l.drop i) = n at ho hle
      have hw2 : IntKind.i64.wrap ((i : Int) + (n : Int)) = ((i + n : Nat) : Int) := by rw [wrap_ok (by omega) (by omega)]; omega
      have hlm : ((l.drop i).take n).length = n := by simp; omega
      have hs1 := hss n (by omega)
      by_cases hbig : n > 20
      · rw [if_pos hbig] at ho
        have e9 : decide ((20 : Int) < (n : Int)) = true := by simp; omega
        rcases hat with ⟨e,h1,rfl⟩ | ⟨k,m,h1,_⟩
        · rw [ho] at h1; cases h1
          simp only [c11,c11x1,c11x2,c11x3,c11x4,c11x5,c11x6,c11x7,c11x8,c11x9,c11x10,c11x11,c11x12,c11x13,c11x14,c11x15,RUA,RUB,RUC,RUD,RUE,RUF,if_true,if_false,Int.reduceEq,Int.reduceLT,Int.reduceLE,qC,qO,qA,qS,qU,Nat.reduceEqDiff,qT,E.at,qR,Nat.reduceAdd,Nat.reduceSub,Nat.reduceLeDiff,Nat.reduceMul,qI,qP,qQ,hw2,hs1,hlm,e9]
          exact ⟨_,_,frzT_3 rfl rfl rfl,rfl⟩
        · rw [ho] at h1; cases h1
      · rw [if_neg hbig] at ho
        have e9 : decide ((20 : Int) < (n : Int)) = false := by simp; omega
        rcases hat with ⟨e,h1,rfl⟩ | ⟨k,m,h1,h2⟩
        · rw [ho] at h1; cases h1
        · rw [ho] at h1; cases h1
          obtain ⟨rv',o1,A2,ha,hr2,hc1⟩ := lex_push (l := l) (k := 1) (m := n) (kv := 1) rfl hrow hacc (by omega)
          rw [List.drop_drop] at h2
          have hn0 := (sgnS_pos ho).1
          simp only [c11,c11x1,c11x2,c11x3,c11x4,c11x5,c11x6,c11x7,c11x8,c11x9,c11x10,c11x11,c11x12,c11x13,c11x14,c11x15,c11x16,c11x17,c11x18,c11x19,c11x20,c11x21,c11x22,c11x23,c11x24,c11x25,RUA,RUB,RUC,RUD,RUE,RUF,if_true,if_false,Int.reduceEq,Int.reduceLT,Int.reduceLE,qC,qO,qA,qS,qU,Nat.reduceEqDiff,qT,E.at,qR,Nat.reduceAdd,Nat.reduceSub,Nat.reduceLeDiff,Nat.reduceMul,qI,qP,qQ,hw2,hs1,hlm,e9,ha,hc1]
          exact ⟨(i + n,o1,rv'),⟨by simp only; omega,_,A2,hr2,h2,by simp; omega⟩,by simp only; omega,rfl⟩
    | false =>
      simp only [c11,c11x1,c11x2,c11x3,c11x4,c11x5,c11x6,c11x7,c11x8,c11x9,c11x10,c11x11,c11x12,c11x13,RUA,RUB,RUC,RUD,RUE,RUF,if_true,if_false,Int.reduceEq,Int.reduceLT,Int.reduceLE,qC,qO,qA,qS,qU,Nat.reduceEqDiff,qT,E.at,qR,Nat.reduceAdd,Nat.reduceSub,Nat.reduceLeDiff,Nat.reduceMul,qI,qP,qQ]
      refine pcall (digit_p c) rfl (by simp [V.free,V.free1]) ?_
      cases hdg : isDg c with
      | true =>
        have hle := rnN_le isDg (l.drop i)
        simp only [List.length_drop] at hle
        have ho : sgnS (l.drop i) = if rnN isDg (l.drop i) > 18 then .err 3 else if rnN isDg (l.drop i) > 1 ∧ c.toNat = 48 then .err 1 else .ok 2 (rnN isDg (l.drop i)) := by
          rw [hdc]; simp only [sgnS,hs,hdg,if_true,Bool.false_eq_true,if_false]
        simp only [c11,c11x1,c11x2,c11x3,c11x4,c11x5,c11x6,c11x7,c11x8,c11x9,c11x10,c11x11,c11x12,c11x13,c11x14,c11x15,c11x16,RUA,RUB,RUC,RUD,RUE,RUF,if_true,if_false,Int.reduceEq,Int.reduceLT,Int.reduceLE,qC,qO,qA,qS,qU,Nat.reduceEqDiff,qT,E.at,qR,Nat.reduceAdd,Nat.reduceSub,Nat.reduceLeDiff,Nat.reduceMul,qI,qP,qQ]
        refine pcall (as_p digit_p rfl hi hl') rfl (fun x hx => by simp only [List.mem_cons,List.not_mem_nil,or_false] at hx; rcases hx with rfl | rfl | rfl <;> rfl) ?_
        generalize rnN isDg (l.drop i) = n at ho hle
        have hw2 : IntKind.i64.wrap ((i : Int) + (n : Int)) = ((i + n : Nat) : Int) := by rw [wrap_ok (by omega) (by omega)]; omega
        have hlm : ((l.drop i).take n).length = n := by simp; omega
        have hs1 := hss n (by omega)
        by_cases hbig : n > 18
        · rw [if_pos hbig] at ho
          have e9 : decide ((18 : Int) < (n : Int)) = true := by simp; omega
          rcases hat with ⟨e,h1,rfl⟩ | ⟨k,m,h1,_⟩
          · rw [ho] at h1; cases h1
            simp only [c11,c11x1,c11x2,c11x3,c11x4,c11x5,c11x6,c11x7,c11x8,c11x9,c11x10,c11x11,c11x12,c11x13,c11x14,c11x15,c11x16,c11x17,c11x18,RUA,RUB,RUC,RUD,RUE,RUF,if_true,if_false,Int.reduceEq,Int.reduceLT,Int.reduceLE,qC,qO,qA,qS,qU,Nat.reduceEqDiff,qT,E.at,qR,Nat.reduceAdd,Nat.reduceSub,Nat.reduceLeDiff,Nat.reduceMul,qI,qP,qQ,hw2,hs1,hlm,e9]
            exact ⟨_,_,frzT_3 rfl rfl rfl,rfl⟩
          · rw [ho] at h1; cases h1
        · rw [if_neg hbig] at ho
          have e9 : decide ((18 : Int) < (n : Int)) = false := by simp; omega
          by_cases hz : n > 1 ∧ c.toNat = 48
          · rw [if_pos hz] at ho
            have e8 : decide ((1 : Int) < (n : Int)) = true := by simp; omega
            have e7 : decide ((c.toNat : Int) = 48) = true := by simp; omega
            rcases hat with ⟨e,h1,rfl⟩ | ⟨k,m,h1,_⟩
            · rw [ho] at h1; cases h1
              simp only [c11,c11x1,c11x2,c11x3,c11x4,c11x5,c11x6,c11x7,c11x8,c11x9,c11x10,c11x11,c11x12,c11x13,c11x14,c11x15,c11x16,c11x17,c11x18,c11x19,c11x20,RUA,RUB,RUC,RUD,RUE,RUF,if_true,if_false,Int.reduceEq,Int.reduceLT,Int.reduceLE,qC,qO,qA,qS,qU,Nat.reduceEqDiff,qT,E.at,qR,Nat.reduceAdd,Nat.reduceSub,Nat.reduceLeDiff,Nat.reduceMul,qI,qP,qQ,hw2,hs1,hlm,e9,e8,e7]
              exact ⟨_,_,frzT_3 rfl rfl rfl,rfl⟩
            · rw [ho] at h1; cases h1
          · rw [if_neg hz] at ho
            rcases hat with ⟨e,h1,rfl⟩ | ⟨k,m,h1,h2⟩
            · rw [ho] at h1; cases h1
            · rw [ho] at h1; cases h1
              obtain ⟨rv',o1,A2,ha,hr2,hc1⟩ := lex_push (l := l) (k := 2) (m := n) (kv := 2) rfl hrow hacc (by omega)
              rw [List.drop_drop] at h2
              have hn0 := (sgnS_pos ho).1
              by_cases hc48 : c.toNat = 48
              · have e7 : decide ((c.toNat : Int) = 48) = true := by simp; omega
                have e8 : decide ((1 : Int) < (n : Int)) = false := by simp; omega
                simp only [c11,c11x1,c11x2,c11x3,c11x4,c11x5,c11x6,c11x7,c11x8,c11x9,c11x10,c11x11,c11x12,c11x13,c11x14,c11x15,c11x16,c11x17,c11x18,c11x19,c11x20,c11x21,c11x22,c11x23,c11x24,c11x25,RUA,RUB,RUC,RUD,RUE,RUF,if_true,if_false,Int.reduceEq,Int.reduceLT,Int.reduceLE,qC,qO,qA,qS,qU,Nat.reduceEqDiff,qT,E.at,qR,Nat.reduceAdd,Nat.reduceSub,Nat.reduceLeDiff,Nat.reduceMul,qI,qP,qQ,hw2,hs1,hlm,e9,e8,e7,ha,hc1]
                exact ⟨(i + n,o1,rv'),⟨by simp only; omega,_,A2,hr2,h2,by simp; omega⟩,by simp only; omega,rfl⟩
              · have e7 : decide ((c.toNat : Int) = 48) = false := by simp; omega
                simp only [c11,c11x1,c11x2,c11x3,c11x4,c11x5,c11x6,c11x7,c11x8,c11x9,c11x10,c11x11,c11x12,c11x13,c11x14,c11x15,c11x16,c11x17,c11x18,c11x19,c11x20,c11x21,c11x22,c11x23,c11x24,c11x25,RUA,RUB,RUC,RUD,RUE,RUF,if_true,if_false,Int.reduceEq,Int.reduceLT,Int.reduceLE,qC,qO,qA,qS,qU,Nat.reduceEqDiff,qT,E.at,qR,Nat.reduceAdd,Nat.reduceSub,Nat.reduceLeDiff,Nat.reduceMul,qI,qP,qQ,hw2,hs1,hlm,e9,e7,ha,hc1]
                exact ⟨(i + n,o1,rv'),⟨by simp only; omega,_,A2,hr2,h2,by simp; omega⟩,by simp only; omega,rfl⟩
      | false =>
        have ho : sgnS (l.drop i) = if markN (l.drop i) = 0 then .err 1 else .ok 3 (markN (l.drop i)) := by
          rw [hdc]; simp only [sgnS,hs,hdg,Bool.false_eq_true,if_false]
        simp only [c11,c11x1,c11x2,c11x3,c11x4,c11x5,c11x6,c11x7,c11x8,c11x9,c11x10,c11x11,c11x12,c11x13,c11x14,c11x15,c11x16,RUA,RUB,RUC,RUD,RUE,RUF,if_true,if_false,Int.reduceEq,Int.reduceLT,Int.reduceLE,qC,qO,qA,qS,qU,Nat.reduceEqDiff,qT,E.at,qR,Nat.reduceAdd,Nat.reduceSub,Nat.reduceLeDiff,Nat.reduceMul,qI,qP,qQ]
        refine pcall (mark_p hlt hl') rfl (by simp [V.free,V.free1]) ?_
        generalize markN (l.drop i) = n at ho
        by_cases hz : n = 0
        · rw [if_pos hz] at ho
          subst hz
          rcases hat with ⟨e,h1,rfl⟩ | ⟨k,m,h1,_⟩
          · rw [ho] at h1; cases h1
            have e9 : ((l.drop i).take 0 == ([] : List UInt8)) = true := by simp
            simp only [c11,c11x1,c11x2,c11x3,c11x4,c11x5,c11x6,c11x7,c11x8,c11x9,c11x10,c11x11,c11x12,c11x13,c11x14,c11x15,c11x16,c11x17,c11x18,c11x19,c11x20,c11x21,c11x22,RUA,RUB,RUC,RUD,RUE,RUF,if_true,if_false,Int.reduceEq,Int.reduceLT,Int.reduceLE,qC,qO,qA,qS,qU,Nat.reduceEqDiff,qT,E.at,qR,Nat.reduceAdd,Nat.reduceSub,Nat.reduceLeDiff,Nat.reduceMul,qI,qP,qQ,e9]
            exact ⟨_,_,frzT_3 rfl rfl rfl,rfl⟩
          · rw [ho] at h1; cases h1
        · rw [if_neg hz] at ho
          obtain ⟨hn0,hnl⟩ := sgnS_pos ho
          simp only [List.length_drop] at hnl
          have hlm : ((l.drop i).take n).length = n := by simp; omega
          have hw2 : IntKind.i64.wrap ((i : Int) + (n : Int)) = ((i + n : Nat) : Int) := by rw [wrap_ok (by omega) (by omega)]; omega
          have e9 : ((l.drop i).take n == ([] : List UInt8)) = false := by
            rw [Bool.eq_false_iff]; intro h
            have := congrArg List.length (eq_of_beq h)
            rw [hlm] at this; simp at this; omega
          rcases hat with ⟨e,h1,rfl⟩ | ⟨k,m,h1,h2⟩
          · rw [ho] at h1; cases h1
          · rw [ho] at h1; cases h1
            obtain ⟨rv',o1,A2,ha,hr2,hc1⟩ := lex_push (l := l) (k := 3) (m := n) (kv := 3) rfl hrow hacc (by omega)
            rw [List.drop_drop] at h2
            simp only [c11,c11x1,c11x2,c11x3,c11x4,c11x5,c11x6,c11x7,c11x8,c11x9,c11x10,c11x11,c11x12,c11x13,c11x14,c11x15,c11x16,c11x17,c11x18,c11x19,c11x20,c11x21,c11x22,c11x23,c11x24,c11x25,RUA,RUB,RUC,RUD,RUE,RUF,if_true,if_false,Int.reduceEq,Int.reduceLT,Int.reduceLE,qC,qO,qA,qS,qU,Nat.reduceEqDiff,qT,E.at,qR,Nat.reduceAdd,Nat.reduceSub,Nat.reduceLeDiff,Nat.reduceMul,qI,qP,qQ,hw2,hlm,e9,ha,hc1]
            exact ⟨(i + n,o1,rv'),⟨by simp only; omega,_,A2,hr2,h2,by simp; omega⟩,by simp only; omega,rfl⟩
  · have hd : decide ((i : Int) < (l.length : Int)) = false := by simpa using hlt
    rw [List.drop_of_length_le (by omega)] at hS
    have := hS.nilI
    subst this
    obtain ⟨w,o1,hcm,hw,hfr⟩ := hrow.commit hf3
    simp only [c11,c11x1,c11x2,c11x3,c11x4,c11x5,c11x6,c11x7,c11x8,c11x9,c11x10,c11x11,c11x12,c11x13,c11x14,c11x15,c11x16,c11x17,c11x18,c11x19,c11x20,c11x21,c11x22,c11x23,c11x24,c11x25,RUA,RUB,RUC,RUD,RUE,RUF,if_true,if_false,Int.reduceEq,Int.reduceLT,Int.reduceLE,qC,qO,qA,qS,qU,Nat.reduceEqDiff,qT,E.at,qR,Nat.reduceAdd,Nat.reduceSub,Nat.reduceLeDiff,Nat.reduceMul,qI,qP,qQ,hd]
    refine (clone3 hw (by unfold lim; omega)).call rfl hcm fun z hz => ?_
    have key : ∀ o,∃ z' o2,freezeT o (.tup [z,iV 0,iV 0]) = some (z',o2) ∧ RV (.ok acc) z' := fun o => by
      refine ⟨_,_,frzT_3 (w := z) (frzD_free hz.freeV) rfl rfl,z,rfl,hz⟩
    split
    · exact key _
    · exact key _
end Go.Proofs.YtclaoegdlibapaaDoor
end

section
set_option linter.unusedVariables false
set_option linter.unusedSimpArgs false
set_option maxRecDepth 100000
set_option maxHeartbeats 8000000
open Go.Proofs.Pe renaming putCells → qC, bslOf → qO, bsaOf → qA, bslS → qS, isUpto → qU, step → qT, intOf → qI, iop → qP, sop → qQ
open List renaming replicate → qR
open Go.Proofs.Pe.V renaming dead → qD
namespace Go.Proofs.YtclaoegdlibapaaDoor
open Go.Proofs.Pe


theorem words_p : PFn Tryd.prog T 52 [] fun z => z = .sl 1 true kV := by
  intro yi hy
  refine Call.step hy ?_
  rw [body_eq t52]
  simp only [c52,c52x1,RUA,RUB,RUC,RUD,RUE,RUF,if_true,if_false,Int.reduceEq,Int.reduceLT,Int.reduceLE,qC,qO,qA,qS,qU,Nat.reduceEqDiff,qT,E.at,qR,Nat.reduceAdd,Nat.reduceSub,Nat.reduceLeDiff,Nat.reduceMul,qI,qP,qQ]
  exact ⟨_,_,rfl,rfl⟩
theorem index_p {s : List UInt8} : PFn Tryd.prog T 68 [.sl 1 true kV,tV s] fun z => ∃ k : Int,z = iV k ∧ decide (0 ≤ k) = isKey s := by
  have hr : ∀ o,rowOf o (.sl 1 true kV) = some kV := fun o => rfl
  have hlen : kV.length = 16 := rfl
  intro yi hy
  refine Call.step hy ?_
  rw [body_eq t68]
  simp only [c68,c68x1,c68x2,RUA,RUB,RUC,RUD,RUE,RUF,if_true,if_false,Int.reduceEq,Int.reduceLT,Int.reduceLE,qC,qO,qA,qS,qU,Nat.reduceEqDiff,qT,E.at,qR,Nat.reduceAdd,Nat.reduceSub,Nat.reduceLeDiff,Nat.reduceMul,qI,qP,qQ,hr,hlen]
  refine Lfp.inv call_le hy (fun k : Nat => ⟨⟨[.sl 1 true kV,tV s,.dead,.dead,.dead,.dead,.dead,iV 16,iV k,.dead,.dead,.dead,.dead,.dead,.dead,.dead,.dead,.dead,.dead],[]⟩,[]⟩) (fun k => 16 - k)
    (fun k => k ≤ 16 ∧ ∀ j,j < k → kW[j]? ≠ some s) 0 ⟨Nat.zero_le _,fun j h => by omega⟩ (by simp only [kill_L,killTs_nil,RUF] <;> rfl) ?_
  rintro k ⟨hk,hno⟩
  by_cases hlt : k < 16
  · have hd : decide ((k : Int) < 16) = true := by simp; omega
    have hdk : kW[k]? = some kW[k] := List.getElem?_eq_getElem hlt
    have hdv : kV[k]? = some (tV kW[k]) := by simp [kV,hdk]
    have hI : ∀ o,ixOf 1 o (.sl 1 true kV) (iV k) = some (.ep [tV kW[k]],o) := fun o => IsSl.ix (.inr ⟨_,rfl⟩) o hdv
    have hmem : kW[k] ∈ kW := List.getElem_mem hlt
    have hw1 : IntKind.i64.wrap ((k : Int) + 1) = ((k + 1 : Nat) : Int) := wrap_succ (by omega)
    generalize kW[k] = d at hdk hI hmem hdv
    by_cases he : s = d
    · have hb : (s == d) = true := by simpa using he
      simp only [c68,c68x1,c68x2,c68x3,c68x4,c68x5,c68x6,c68x7,c68x8,c68x9,RUA,RUB,RUC,RUD,RUE,RUF,if_true,if_false,Int.reduceEq,Int.reduceLT,Int.reduceLE,qC,qO,qA,qS,qU,Nat.reduceEqDiff,qT,E.at,qR,Nat.reduceAdd,Nat.reduceSub,Nat.reduceLeDiff,Nat.reduceMul,qI,qP,qQ,hd,hI,hb]
      refine ⟨_,_,rfl,(k : Int),rfl, ?_⟩
      have : isKey s = true := by unfold isKey; rw [he]; simpa using hmem
      rw [this]; simp
    · have hb : (s == d) = false := by simpa using he
      simp only [c68,c68x1,c68x2,c68x3,c68x4,c68x5,c68x6,c68x7,c68x8,c68x9,RUA,RUB,RUC,RUD,RUE,RUF,if_true,if_false,Int.reduceEq,Int.reduceLT,Int.reduceLE,qC,qO,qA,qS,qU,Nat.reduceEqDiff,qT,E.at,qR,Nat.reduceAdd,Nat.reduceSub,Nat.reduceLeDiff,Nat.reduceMul,qI,qP,qQ,hd,hI,hb,hw1]
      refine ⟨k + 1,⟨by omega,fun j hj => ?_⟩,by omega,rfl⟩
      by_cases h : j = k
      · rw [h,hdk]; intro e; exact he (Option.some.inj e).symm
      · exact hno j (by omega)
  · have hd : decide ((k : Int) < 16) = false := by simp; omega
    simp only [c68,c68x1,c68x2,c68x3,c68x4,c68x5,c68x6,c68x7,c68x8,c68x9,RUA,RUB,RUC,RUD,RUE,RUF,if_true,if_false,Int.reduceEq,Int.reduceLT,Int.reduceLE,qC,qO,qA,qS,qU,Nat.reduceEqDiff,qT,E.at,qR,Nat.reduceAdd,Nat.reduceSub,Nat.reduceLeDiff,Nat.reduceMul,qI,qP,qQ,hd]
    refine ⟨_,_,rfl,(-1 : Int),rfl, ?_⟩
    have : isKey s = false := by
      cases hc : isKey s with
      | false => rfl
      | true =>
        unfold isKey at hc
        have hm : s ∈ kW := by simpa using hc
        obtain ⟨j,hj,e⟩ := List.getElem_of_mem hm
        have hj16 : j < 16 := hj
        exact (hno j (by omega) (by rw [List.getElem?_eq_getElem hj,e])).elim
    rw [this]; rfl
theorem key_p (s : List UInt8) : PFn Tryd.prog T 41 [tV s] fun z => z = bV (isKey s) := by
  have hin : PFn Tryd.prog T 51 [.sl 1 true kV,tV s] fun z => z = bV (isKey s) := by
    intro yi hy
    refine Call.step hy ?_
    rw [body_eq t51]
    simp only [c51,c51x1,RUA,RUB,RUC,RUD,RUE,RUF,if_true,if_false,Int.reduceEq,Int.reduceLT,Int.reduceLE,qC,qO,qA,qS,qU,Nat.reduceEqDiff,qT,E.at,qR,Nat.reduceAdd,Nat.reduceSub,Nat.reduceLeDiff,Nat.reduceMul,qI,qP,qQ]
    refine index_p.callF rfl (by simp [V.free,V.free1]) fun z hz => ?_
    obtain ⟨k,rfl,hk⟩ := hz
    simp only [c51,c51x1,RUA,RUB,RUC,RUD,RUE,RUF,if_true,if_false,Int.reduceEq,Int.reduceLT,Int.reduceLE,qC,qO,qA,qS,qU,Nat.reduceEqDiff,qT,E.at,qR,Nat.reduceAdd,Nat.reduceSub,Nat.reduceLeDiff,Nat.reduceMul,qI,qP,qQ,hk]
    exact ⟨_,_,rfl,rfl⟩
  intro yi hy
  refine Call.step hy ?_
  rw [body_eq t41]
  simp only [c41,c41x1,RUA,RUB,RUC,RUD,RUE,RUF,if_true,if_false,Int.reduceEq,Int.reduceLT,Int.reduceLE,qC,qO,qA,qS,qU,Nat.reduceEqDiff,qT,E.at,qR,Nat.reduceAdd,Nat.reduceSub,Nat.reduceLeDiff,Nat.reduceMul,qI,qP,qQ]
  refine pcall words_p rfl (by simp) ?_
  refine pcall hin rfl (by simp [V.free,V.free1]) ?_
  exact ⟨_,_,rfl,rfl⟩
theorem q_srng {T : Tab} {ca : Ca} {yi : Nat → Sem'} {t : List V} {o : List O} {K : V → List O → Prop} {x : E} : evK Tryd.prog T ca yi (.srng x) t o K = oK (Pe.step Tryd.prog ⟨t,o⟩ (.srng x)) K := propext Iff.rfl
theorem q_snxt {T : Tab} {ca : Ca} {yi : Nat → Sem'} {t : List V} {o : List O} {K : V → List O → Prop} {x : E} : evK Tryd.prog T ca yi (.snxt x) t o K = oK (Pe.step Tryd.prog ⟨t,o⟩ (.snxt x)) K := propext Iff.rfl
theorem name_p {s : List UInt8} (hl : s.length ≤ lim) : PFn Tryd.prog T 32 [tV s] fun z => z = bV (isName s) := by
  have hk := key_p s
  unfold lim at hl
  intro yi hy
  refine Call.step hy ?_
  rw [body_eq t32]
  by_cases h1 : s.length < 1
  · have d1 : decide ((s.length : Int) < 1) = true := decide_eq_true (by omega)
    simp only [c32,c32x1,c32x2,c32x3,c32x4,c32x5,c32x6,c32x7,c32x8,c32x9,c32x10,RUA,RUB,RUC,RUD,RUE,RUF,if_true,if_false,Int.reduceEq,Int.reduceLT,Int.reduceLE,qC,qO,qA,qS,qU,Nat.reduceEqDiff,qT,E.at,qR,Nat.reduceAdd,Nat.reduceSub,Nat.reduceLeDiff,Nat.reduceMul,qI,qP,qQ,d1]
    exact ⟨_,_,rfl,by rw [name_short h1]⟩
  have d1 : decide ((s.length : Int) < 1) = false := decide_eq_false (by omega)
  by_cases h2 : 20 < s.length
  · have d2 : decide ((20 : Int) < (s.length : Int)) = true := decide_eq_true (by omega)
    simp only [c32,c32x1,c32x2,c32x3,c32x4,c32x5,c32x6,c32x7,c32x8,c32x9,c32x10,RUA,RUB,RUC,RUD,RUE,RUF,if_true,if_false,Int.reduceEq,Int.reduceLT,Int.reduceLE,qC,qO,qA,qS,qU,Nat.reduceEqDiff,qT,E.at,qR,Nat.reduceAdd,Nat.reduceSub,Nat.reduceLeDiff,Nat.reduceMul,qI,qP,qQ,d1,d2]
    exact ⟨_,_,rfl,by rw [name_long h2]⟩
  have d2 : decide ((20 : Int) < (s.length : Int)) = false := decide_eq_false (by omega)
  simp only [c32,c32x1,RUA,RUB,RUC,RUD,RUE,RUF,if_true,if_false,Int.reduceEq,Int.reduceLT,Int.reduceLE,qC,qO,qA,qS,qU,Nat.reduceEqDiff,qT,E.at,qR,Nat.reduceAdd,Nat.reduceSub,Nat.reduceLeDiff,Nat.reduceMul,qI,qP,qQ,d1,d2]
  refine pcall hk rfl (by simp [V.free,V.free1]) ?_
  cases hkk : isKey s with
  | true =>
    simp only [c32,c32x1,c32x2,c32x3,c32x4,c32x5,c32x6,c32x7,c32x8,c32x9,c32x10,RUA,RUB,RUC,RUD,RUE,RUF,if_true,if_false,Int.reduceEq,Int.reduceLT,Int.reduceLE,qC,qO,qA,qS,qU,Nat.reduceEqDiff,qT,E.at,qR,Nat.reduceAdd,Nat.reduceSub,Nat.reduceLeDiff,Nat.reduceMul,qI,qP,qQ]
    exact ⟨_,_,rfl,by rw [name_key hkk]⟩
  | false =>
    have hn := name_w h1 h2 hkk
    simp only [c32,c32x1,c32x2,c32x3,RUA,RUB,RUC,RUD,RUE,RUF,if_true,if_false,Int.reduceEq,Int.reduceLT,Int.reduceLE,qC,qO,qA,qS,qU,Nat.reduceEqDiff,qT,E.at,qR,Nat.reduceAdd,Nat.reduceSub,Nat.reduceLeDiff,Nat.reduceMul,qI,qP,qQ,q_srng]
    refine Lfp.inv call_le hy (fun i : Nat => ⟨⟨(qD::qD::qD::qD::qD::qD::qD::qD::qD::qD::qD::qD::qD::qD::qD::qD::qD::qD::.it 0 :: qD::qD::qD::qD::qD::qD::qD::qD::qD::qD::qD::qD::qD::qD::qD::qD::qD::qD::qD::qD::qD::qD::[]),[.dfd (.it ⟨s.toArray⟩ i)]⟩,[]⟩) (fun i => s.length - i)
      (fun i => i ≤ s.length ∧ ∀ j c,j < i → s[j]? = some c → okB (j == 0) c = true) 0 ⟨Nat.zero_le _,fun j c h => by omega⟩ (by simp only [kill_L,killTs_nil,RUF] <;> rfl) ?_
    rintro i ⟨hi,hok⟩
    by_cases hlt : i < s.length
    · have hx : s[i]? = some s[i] := List.getElem?_eq_getElem hlt
      generalize s[i] = c at hx
      by_cases hc : c.toNat < 128
      · have hdec := dec_lo hx hc
        have e1 : decide ((127 : Int) < (c.toNat : Int)) = false := decide_eq_false (by omega)
        have hwu : IntKind.u8.wrap (c.toNat : Int) = (c.toNat : Int) := by
          have := c.toNat_lt
          simp [IntKind.wrap,IntKind.bits,IntKind.signed]
          try omega
        have bad : okB (i == 0) c = false → wordy s = false := fun h => wordy_f hx h
        have next : okB (i == 0) c = true → ∃ a',(a' ≤ s.length ∧ ∀ j d,j < a' → s[j]? = some d → okB (j == 0) d = true) ∧ s.length - a' < s.length - i ∧ a' = i + 1 := fun ho =>
          ⟨i + 1,⟨by omega,fun j d hj hd => by
            by_cases e : j = i
            · subst e; rw [hx] at hd; cases hd; exact ho
            · exact hok j d (by omega) hd⟩,by omega,rfl⟩
        by_cases h0 : i = 0
        · have e2 : decide ((i : Int) = 0) = true := decide_eq_true (by omega)
          simp only [c32,c32x1,c32x2,c32x3,c32x4,c32x5,c32x6,c32x7,c32x8,c32x9,RUA,RUB,RUC,RUD,RUE,RUF,if_true,if_false,Int.reduceEq,Int.reduceLT,Int.reduceLE,qC,qO,qA,qS,qU,Nat.reduceEqDiff,qT,E.at,qR,Nat.reduceAdd,Nat.reduceSub,Nat.reduceLeDiff,Nat.reduceMul,qI,qP,qQ,q_snxt,if_pos hlt,hdec,e1,e2,hwu]
          refine pcall (small_p c) rfl (by simp [V.free,V.free1]) ?_
          cases hs : isSm c with
          | false =>
            have ho : okB (i == 0) c = false := by rw [h0]; exact hs
            simp only [c32,c32x1,c32x2,c32x3,c32x4,c32x5,c32x6,c32x7,c32x8,c32x9,c32x10,RUA,RUB,RUC,RUD,RUE,RUF,if_true,if_false,Int.reduceEq,Int.reduceLT,Int.reduceLE,qC,qO,qA,qS,qU,Nat.reduceEqDiff,qT,E.at,qR,Nat.reduceAdd,Nat.reduceSub,Nat.reduceLeDiff,Nat.reduceMul,qI,qP,qQ,hwu]
            exact ⟨_,_,rfl,by rw [hn,bad ho]⟩
          | true =>
            have ho : okB (i == 0) c = true := by rw [h0]; exact hs
            have hi1 : isIn c = true := by simp [isIn,hs]
            simp only [c32,c32x1,c32x2,c32x3,c32x4,c32x5,c32x6,c32x7,c32x8,c32x9,c32x10,RUA,RUB,RUC,RUD,RUE,RUF,if_true,if_false,Int.reduceEq,Int.reduceLT,Int.reduceLE,qC,qO,qA,qS,qU,Nat.reduceEqDiff,qT,E.at,qR,Nat.reduceAdd,Nat.reduceSub,Nat.reduceLeDiff,Nat.reduceMul,qI,qP,qQ,hwu]
            refine pcall (inner_p c) rfl (by simp [V.free,V.free1]) ?_
            rw [hi1]
            obtain ⟨a',n1,n2,n3⟩ := next ho
            simp only [c32,c32x1,c32x2,c32x3,c32x4,c32x5,c32x6,c32x7,c32x8,c32x9,c32x10,RUA,RUB,RUC,RUD,RUE,RUF,if_true,if_false,Int.reduceEq,Int.reduceLT,Int.reduceLE,qC,qO,qA,qS,qU,Nat.reduceEqDiff,qT,E.at,qR,Nat.reduceAdd,Nat.reduceSub,Nat.reduceLeDiff,Nat.reduceMul,qI,qP,qQ]
            exact ⟨a',n1,n2,by rw [n3]⟩
        · have e2 : decide ((i : Int) = 0) = false := decide_eq_false (by omega)
          have h00 : (i == 0) = false := by simpa using h0
          simp only [c32,c32x1,c32x2,c32x3,c32x4,c32x5,c32x6,c32x7,c32x8,c32x9,RUA,RUB,RUC,RUD,RUE,RUF,if_true,if_false,Int.reduceEq,Int.reduceLT,Int.reduceLE,qC,qO,qA,qS,qU,Nat.reduceEqDiff,qT,E.at,qR,Nat.reduceAdd,Nat.reduceSub,Nat.reduceLeDiff,Nat.reduceMul,qI,qP,qQ,q_snxt,if_pos hlt,hdec,e1,e2,hwu]
          refine pcall (inner_p c) rfl (by simp [V.free,V.free1]) ?_
          cases hs : isIn c with
          | false =>
            have ho : okB (i == 0) c = false := by rw [h00]; exact hs
            simp only [c32,c32x1,c32x2,c32x3,c32x4,c32x5,c32x6,c32x7,c32x8,c32x9,c32x10,RUA,RUB,RUC,RUD,RUE,RUF,if_true,if_false,Int.reduceEq,Int.reduceLT,Int.reduceLE,qC,qO,qA,qS,qU,Nat.reduceEqDiff,qT,E.at,qR,Nat.reduceAdd,Nat.reduceSub,Nat.reduceLeDiff,Nat.reduceMul,qI,qP,qQ]
            exact ⟨_,_,rfl,by rw [hn,bad ho]⟩
          | true =>
            have ho : okB (i == 0) c = true := by rw [h00]; exact hs
            obtain ⟨a',n1,n2,n3⟩ := next ho
            simp only [c32,c32x1,c32x2,c32x3,c32x4,c32x5,c32x6,c32x7,c32x8,c32x9,c32x10,RUA,RUB,RUC,RUD,RUE,RUF,if_true,if_false,Int.reduceEq,Int.reduceLT,Int.reduceLE,qC,qO,qA,qS,qU,Nat.reduceEqDiff,qT,E.at,qR,Nat.reduceAdd,Nat.reduceSub,Nat.reduceLeDiff,Nat.reduceMul,qI,qP,qQ]
            exact ⟨a',n1,n2,by rw [n3]⟩
      · obtain ⟨r,w,hdec,hr⟩ := dec_hi hx (by omega)
        have e1 : decide ((127 : Int) < (r : Int)) = true := decide_eq_true (by omega)
        have ho : okB (i == 0) c = false := by
          have a1 : isSm c = false := by simp [isSm]; omega
          have a2 : isIn c = false := by simp [isIn,a1,isDg]; omega
          unfold okB; split <;> assumption
        simp only [c32,c32x1,c32x2,c32x3,c32x4,c32x5,c32x6,c32x7,c32x8,c32x9,c32x10,RUA,RUB,RUC,RUD,RUE,RUF,if_true,if_false,Int.reduceEq,Int.reduceLT,Int.reduceLE,qC,qO,qA,qS,qU,Nat.reduceEqDiff,qT,E.at,qR,Nat.reduceAdd,Nat.reduceSub,Nat.reduceLeDiff,Nat.reduceMul,qI,qP,qQ,q_snxt,if_pos hlt,hdec,e1]
        exact ⟨_,_,rfl,by rw [hn,wordy_f hx ho]⟩
    · simp only [c32,c32x1,c32x2,c32x3,c32x4,c32x5,c32x6,c32x7,c32x8,c32x9,c32x10,RUA,RUB,RUC,RUD,RUE,RUF,if_true,if_false,Int.reduceEq,Int.reduceLT,Int.reduceLE,qC,qO,qA,qS,qU,Nat.reduceEqDiff,qT,E.at,qR,Nat.reduceAdd,Nat.reduceSub,Nat.reduceLeDiff,Nat.reduceMul,qI,qP,qQ,q_snxt,if_neg hlt]
      exact ⟨_,_,rfl,by rw [hn,wordy_t fun j c hc => hok j c (by have := (List.getElem?_eq_some_iff.1 hc).1; omega) hc]⟩
end Go.Proofs.YtclaoegdlibapaaDoor
end

section
set_option linter.unusedVariables false
namespace Go.Proofs.Pe
/-! ### What is reckoned with numbers of 64 bits -/
def fitI (n : Int) : Int × Int := if -9223372036854775808 ≤ n ∧ n ≤ 9223372036854775807 then (n,0) else (0,8)
def b2i (b : Bool) : Int := if b then 1 else 0
end Go.Proofs.Pe
end

section
set_option linter.unusedVariables false
set_option linter.unusedSimpArgs false
namespace Go.Proofs.Pe

/-! ### Expressions and processes -/
inductive Ex where
  | mk (k n : Int) (nm : ByteArray) (l : List Ex)
inductive Tm where
  | mk (k a b : Int) (nm : ByteArray) (e : Ex) (l : List Tm)
def cap : Nat := 1000000000
abbrev sV (s : ByteArray) : V := .sc (.string s)
mutual
def IsEx : Ex → V → Prop
  | .mk k n nm l,v => ∃ lv vs,v = .agg [iV k,iV n,sV nm,lv] ∧ IsSl 4 lv vs ∧ vs.length ≤ cap ∧ IsExs l vs
def IsExs : List Ex → List V → Prop
  | [],vs => vs = []
  | x :: l,vs => ∃ v ws,vs = v :: ws ∧ IsEx x v ∧ IsExs l ws
end
mutual
def IsTm : Tm → V → Prop
  | .mk k a b nm (.mk ek en em el) l,v => ∃ ev evs lv vs,v = .agg [iV k,iV a,iV b,sV nm,iV ek,iV en,sV em,ev,lv] ∧ IsSl 4 ev evs ∧ evs.length ≤ cap ∧ IsExs el evs ∧ IsSl 9 lv vs ∧ vs.length ≤ cap ∧ IsTms l vs
def IsTms : List Tm → List V → Prop
  | [],vs => vs = []
  | x :: l,vs => ∃ v ws,vs = v :: ws ∧ IsTm x v ∧ IsTms l ws
end
def All2 {α : Type} (R : α → V → Prop) : List α → List V → Prop
  | [],vs => vs = []
  | x :: l,vs => ∃ v ws,vs = v :: ws ∧ R x v ∧ All2 R l ws
section
variable {α : Type} {R : α → V → Prop}
theorem All2.len : ∀ {l : List α} {vs : List V},All2 R l vs → vs.length = l.length
  | [],vs,h => by rw [show vs = [] from h]; rfl
  | x :: l,vs,h => by obtain ⟨v,ws,rfl,_,h2⟩ := h; simp [h2.len]
theorem All2.get : ∀ {l : List α} {vs : List V},All2 R l vs → ∀ {i : Nat} {v : V} {x : α},vs[i]? = some v → l[i]? = some x → R x v
  | [],vs,h,i,v,x,hv,hx => by simp at hx
  | y :: l,vs,h,i,v,x,hv,hx => by
    obtain ⟨w,ws,rfl,h1,h2⟩ := h
    cases i with
    | zero => simp at hv hx; subst hv hx; exact h1
    | succ i => simp at hv hx; exact h2.get hv hx
theorem All2.of : ∀ {l : List α} {vs : List V},vs.length = l.length → (∀ (i : Nat) (v : V) (x : α),vs[i]? = some v → l[i]? = some x → R x v) → All2 R l vs
  | [],vs,hl,_ => List.length_eq_zero_iff.1 (by simpa using hl)
  | x :: l,[],hl,_ => by simp at hl
  | x :: l,v :: vs,hl,h => ⟨v,vs,rfl,h 0 v x rfl rfl,All2.of (by simpa using hl) fun i v' x' hv hx => h (i + 1) v' x' (by simpa using hv) (by simpa using hx)⟩
theorem All2.append : ∀ {l : List α} {vs : List V},All2 R l vs → ∀ {l' : List α} {vs' : List V},All2 R l' vs' → All2 R (l ++ l') (vs ++ vs')
  | [],vs,h,l',vs',hr => by rw [show vs = [] from h]; exact hr
  | y :: l,vs,h,l',vs',hr => by
    obtain ⟨w,ws,rfl,h1,h2⟩ := h
    exact ⟨w,ws ++ vs',rfl,h1,h2.append hr⟩
theorem All2.take {l : List α} {vs : List V} (h : All2 R l vs) (n : Nat) : All2 R (l.take n) (vs.take n) :=
  .of (by simp [h.len]) fun i v x hv hx => by
    have hi : i < n := by have := (List.getElem?_eq_some_iff.1 hv).1; simp at this; omega
    rw [List.getElem?_take_of_lt hi] at hv hx
    exact h.get hv hx
theorem All2.set {l : List α} {vs : List V} (h : All2 R l vs) (n : Nat) {x : α} {v : V} (hr : R x v) : All2 R (l.set n x) (vs.set n v) :=
  .of (by simp [h.len]) fun i v' x' hv hx => by
    have hi : i < vs.length := by have := (List.getElem?_eq_some_iff.1 hv).1; simpa using this
    have hl := h.len
    rw [List.getElem?_set] at hv hx
    by_cases e : n = i
    · subst e; simp [hi] at hv; simp [show n < l.length by omega] at hx; subst hv hx; exact hr
    · rw [if_neg e] at hv hx; exact h.get hv hx
theorem All2.mem {l : List α} {vs : List V} (h : All2 R l vs) {v : V} (hv : v ∈ vs) : ∃ x,x ∈ l ∧ R x v := by
  obtain ⟨i,hi⟩ := List.getElem?_of_mem hv
  have hlt := (List.getElem?_eq_some_iff.1 hi).1
  have hlt2 : i < l.length := by rw [← h.len]; exact hlt
  exact ⟨l[i],List.getElem_mem hlt2,h.get hi (List.getElem?_eq_getElem hlt2)⟩
theorem All2.okRow {l : List α} {vs : List V} {k : Nat} (h : All2 R l vs) (hr : ∀ x v,R x v → v.free = true ∧ v.cells.length = k) : okRow k vs := by
  unfold Pe.okRow
  simp only [List.all_eq_true,Bool.and_eq_true,decide_eq_true_eq]
  intro v hv
  obtain ⟨x,_,hx⟩ := h.mem hv
  exact hr x v hx
theorem All2.free {l : List α} {vs : List V} (h : All2 R l vs) (hr : ∀ x v,R x v → v.free = true) : vs.all V.free = true := by
  simp only [List.all_eq_true]
  intro v hv
  obtain ⟨x,_,hx⟩ := h.mem hv
  exact hr x v hx
end
theorem IsEx.ok {x : Ex} {v : V} (h : IsEx x v) : v.free = true ∧ v.cells.length = 4 := by
  cases x; obtain ⟨lv,vs,rfl,h1,_⟩ := h
  exact ⟨by simp only [free_agg,List.all_cons,List.all_nil,free1_sc,h1.free,Bool.and_self],rfl⟩
theorem IsEx.solid {x : Ex} {v : V} (h : IsEx x v) : v.solid = true := by
  cases x; obtain ⟨lv,vs,rfl,h1,_⟩ := h
  simp only [solid_agg,List.all_cons,List.all_nil,one_sc,free1_one h1.free,Bool.and_true]
theorem IsTm.ok {x : Tm} {v : V} (h : IsTm x v) : v.free = true ∧ v.cells.length = 9 := by
  rcases x with ⟨_,_,_,_,⟨_,_,_,_⟩,_⟩; obtain ⟨ev,evs,lv,vs,rfl,h1,_,_,h2,_⟩ := h
  exact ⟨by simp only [free_agg,List.all_cons,List.all_nil,free1_sc,h1.free,h2.free,Bool.and_self],rfl⟩
end Go.Proofs.Pe
end

section
set_option linter.unusedVariables false
namespace Go.Proofs.Pe
/-! ### What an expression comes to -/
inductive WfE (n : Nat) : Ex → Prop where
  | num {m : Int} {nm : ByteArray} : I64 m → WfE n (.mk 1 m nm [])
  | var {i : Nat} {nm : ByteArray} : i < n → WfE n (.mk 2 i nm [])
  | one {k m : Int} {nm : ByteArray} {x : Ex} : 3 ≤ k → k ≤ 4 → WfE n x → WfE n (.mk k m nm [x])
  | two {k m : Int} {nm : ByteArray} {x y : Ex} : 5 ≤ k → k ≤ 17 → WfE n x → WfE n y → WfE n (.mk k m nm [x,y])
def oneE (k : Int) (r : Int × Int) : Int × Int := if r.2 ≠ 0 then (0,r.2) else if k = 3 then (b2i (decide (r.1 = 0)),0) else fitI (r.1 * -1)
end Go.Proofs.Pe
end

section
set_option linter.unusedVariables false
namespace Go.Proofs.Pe
variable {P : Program}
/-! ### Data that came in, type by type -/
/-! ### Raw expressions -/
inductive Rw where
  | mk (k n : Int) (l : List Rw)
def Rw.k : Rw → Int | .mk k _ _ => k
def Rw.n : Rw → Int | .mk _ n _ => n
def Rw.l : Rw → List Rw | .mk _ _ l => l
mutual
def IsRw : Rw → V → Prop
  | .mk k n l,v => ∃ lv vs,v = .agg [iV k,iV n,lv] ∧ I64 k ∧ I64 n ∧ IsSl 3 lv vs ∧ vs.length ≤ maxLen ∧ IsRws l vs
def IsRws : List Rw → List V → Prop
  | [],vs => vs = []
  | x :: l,vs => ∃ v ws,vs = v :: ws ∧ IsRw x v ∧ IsRws l ws
end
theorem IsRw.ok {x : Rw} {v : V} (h : IsRw x v) : v.free = true ∧ v.cells.length = 3 := by
  cases x; obtain ⟨lv,vs,rfl,_,_,h1,_⟩ := h
  exact ⟨by simp only [free_agg,List.all_cons,List.all_nil,free1_sc,h1.free,Bool.and_self],rfl⟩
structure RwTypes (P : Program) (tr tl : TypeId) : Prop where
  ti : P.underlying 3 = some (.int .i64)
  sl : P.underlying tl = some (.slice tr)
  ce : P.cellsOf tr = 3
  st : ∃ fs,P.underlying tr = some (.struct fs) ∧ fs.toList.map (·.type) = [3,3,tl]
end Go.Proofs.Pe
end

section
set_option linter.unusedVariables false
namespace Go.Proofs.Pe
/-! ### How much there is of raw expressions -/
/-! ### What is made of a raw expression -/
def nums : List Int := [0,1,2,7,99,999999999999999999,5,3]
def emp : ByteArray := ByteArray.mk #[]
def ptS (n : Int) (ps : List Ex) (i : Nat) : Ex := ps.getD i (.mk 1 (withinI (IntKind.i64.wrap (n + i)) 5) emp [])
def mkC (nm : List ByteArray) (k n : Int) (ps : List Ex) : Ex :=
  if withinI k 24 < 4 then .mk 1 (nums.getD (withinI n 8).toNat 0) emp []
  else if withinI k 24 < 9 then (if nm = [] then .mk 2 (withinI n 3) emp [] else .mk 2 0 (nm.getD (withinI n nm.length).toNat emp) [])
  else if withinI k 24 = 9 then .mk 3 0 emp [ptS n ps 0] else if withinI k 24 = 10 then .mk 4 0 emp [ptS n ps 0] else .mk (5 + withinI k 24 - 11) 0 emp [ptS n ps 0,ptS n ps 1]
mutual
def mkS (nm : List ByteArray) : Rw → Ex
  | .mk k n l => mkC nm k n (mkL nm l)
def mkL (nm : List ByteArray) : List Rw → List Ex
  | [] => []
  | x :: l => mkS nm x :: mkL nm l
end
end Go.Proofs.Pe
end

section
set_option linter.unusedVariables false
set_option linter.unusedSimpArgs false
set_option maxRecDepth 100000
set_option maxHeartbeats 1000000
namespace Go.Proofs.Pe

/-! ### How signs are read az an expression -/
def kTxt : Nat → List UInt8
  | 3 => [33] | 4 => [45] | 5 => [42] | 6 => [47] | 7 => [37] | 8 => [43] | 9 => [45] | 10 => [61,61] | 11 => [33,61] | 12 => [60] | 13 => [60,61] | 14 => [62] | 15 => [62,61] | 16 => [38,38] | 17 => [124,124]
  | _ => []
def lvLo : Nat → Nat
  | 0 => 17 | 1 => 16 | 2 => 10 | 3 => 8 | _ => 5
def lvHi : Nat → Nat
  | 0 => 17 | 1 => 16 | 2 => 15 | 3 => 9 | _ => 7
def markAt (l : List Sg) (i : Nat) : List UInt8 := match l[i]? with
  | some s => if s.k = 3 then s.t else []
  | none => []
def kindG : Nat → Nat → List UInt8 → Nat
  | 0,_,_ => 0
  | f + 1,k,m => if (kTxt k == m) = true then k else kindG f (k + 1) m
def kindM (lv : Nat) (m : List UInt8) : Nat := kindG (lvHi lv + 1 - lvLo lv) (lvLo lv) m
def numI (t : List UInt8) : Nat := t.foldl (fun n c => 10 * n + (c.toNat - 48)) 0
inductive PR where
  | ok (x : Ex) (i : Nat)
  | bad (e i : Nat)
inductive W where
  | un
  | bin (lv : Nat)
  | lp (lv : Nat) (x : Ex)
inductive PS (l : List Sg) : Nat → W → Nat → Nat → PR → Prop
  | unE {n d i : Nat} (h : l[i]? = none) : PS l (n + 1) .un d i (.bad 2 i)
  | unN {n d i : Nat} {s : Sg} (h : l[i]? = some s) (hk : s.k = 2) : PS l (n + 1) .un d i (.ok (.mk 1 (numI s.t) (emp) []) (i + 1))
  | unV {n d i : Nat} {s : Sg} (h : l[i]? = some s) (hk : s.k = 1) (hn : isName s.t = true) : PS l (n + 1) .un d i (.ok (.mk 2 0 (ByteArray.mk s.t.toArray) []) (i + 1))
  | unW {n d i : Nat} {s : Sg} (h : l[i]? = some s) (hk : s.k = 1) (hn : isName s.t = false) : PS l (n + 1) .un d i (.bad 2 i)
  | unX {n d i : Nat} {s : Sg} (h : l[i]? = some s) (hk : s.k ≠ 1) (hk2 : s.k ≠ 2) (hk3 : s.k ≠ 3) : PS l (n + 1) .un d i (.bad 2 i)
  | unM {n d i : Nat} {s : Sg} (h : l[i]? = some s) (hk : s.k = 3) (h1 : s.t ≠ [33]) (h2 : s.t ≠ [45]) (h3 : s.t ≠ [40]) : PS l (n + 1) .un d i (.bad 2 i)
  | unD {n d i : Nat} {s : Sg} (h : l[i]? = some s) (hk : s.k = 3) (ht : s.t = [33] ∨ s.t = [45] ∨ s.t = [40]) (hd : 20 ≤ d) : PS l (n + 1) .un d i (.bad 3 i)
  | unS {n d i j k : Nat} {s : Sg} {x : Ex} (h : l[i]? = some s) (hk : s.k = 3) (ht : (s.t = [33] ∧ k = 3) ∨ (s.t = [45] ∧ k = 4)) (hd : d < 20) (h1 : PS l n .un (d + 1) (i + 1) (.ok x j)) :
      PS l (n + 1) .un d i (.ok (.mk k 0 (emp) [x]) j)
  | unSB {n d i j e : Nat} {s : Sg} (h : l[i]? = some s) (hk : s.k = 3) (ht : s.t = [33] ∨ s.t = [45]) (hd : d < 20) (h1 : PS l n .un (d + 1) (i + 1) (.bad e j)) : PS l (n + 1) .un d i (.bad e j)
  | unP {n d i j : Nat} {s : Sg} {x : Ex} (h : l[i]? = some s) (hk : s.k = 3) (ht : s.t = [40]) (hd : d < 20) (h1 : PS l n (.bin 0) (d + 1) (i + 1) (.ok x j)) (hm : markAt l j = [41]) : PS l (n + 1) .un d i (.ok x (j + 1))
  | unPM {n d i j : Nat} {s : Sg} {x : Ex} (h : l[i]? = some s) (hk : s.k = 3) (ht : s.t = [40]) (hd : d < 20) (h1 : PS l n (.bin 0) (d + 1) (i + 1) (.ok x j)) (hm : markAt l j ≠ [41]) : PS l (n + 1) .un d i (.bad 2 j)
  | unPB {n d i j e : Nat} {s : Sg} (h : l[i]? = some s) (hk : s.k = 3) (ht : s.t = [40]) (hd : d < 20) (h1 : PS l n (.bin 0) (d + 1) (i + 1) (.bad e j)) : PS l (n + 1) .un d i (.bad e j)
  | bin5 {n d i : Nat} {r : PR} (h1 : PS l n .un d i r) : PS l (n + 1) (.bin 5) d i r
  | binB {n d i j e lv : Nat} (hl : lv < 5) (h1 : PS l n (.bin (lv + 1)) d i (.bad e j)) : PS l (n + 1) (.bin lv) d i (.bad e j)
  | bin {n d i j lv : Nat} {x : Ex} {r : PR} (hl : lv < 5) (h1 : PS l n (.bin (lv + 1)) d i (.ok x j)) (h2 : PS l n (.lp lv x) d j r) : PS l (n + 1) (.bin lv) d i r
  | lpE {n d j lv : Nat} {x : Ex} (h : kindM lv (markAt l j) = 0) : PS l (n + 1) (.lp lv x) d j (.ok x j)
  | lpB {n d j j2 e lv : Nat} {x : Ex} (h : kindM lv (markAt l j) ≠ 0) (h1 : PS l n (.bin (lv + 1)) d (j + 1) (.bad e j2)) : PS l (n + 1) (.lp lv x) d j (.bad e j2)
  | lp2 {n d j j2 : Nat} {x y : Ex} (h : kindM 2 (markAt l j) ≠ 0) (h1 : PS l n (.bin 3) d (j + 1) (.ok y j2)) : PS l (n + 1) (.lp 2 x) d j (.ok (.mk (kindM 2 (markAt l j)) 0 (emp) [x,y]) j2)
  | lp {n d j j2 lv : Nat} {x y : Ex} {r : PR} (h : kindM lv (markAt l j) ≠ 0) (hl : lv ≠ 2) (h1 : PS l n (.bin (lv + 1)) d (j + 1) (.ok y j2)) (h2 : PS l n (.lp lv (.mk (kindM lv (markAt l j)) 0 (emp) [x,y])) d j2 r) : PS l (n + 1) (.lp lv x) d j r
theorem PS.succ {l : List Sg} {n : Nat} {w : W} {d i : Nat} {r : PR} (h : PS l n w d i r) : PS l (n + 1) w d i r := by
  induction h with
  | unE h => exact .unE h
  | unN h hk => exact .unN h hk
  | unV h hk hn => exact .unV h hk hn
  | unW h hk hn => exact .unW h hk hn
  | unX h hk hk2 hk3 => exact .unX h hk hk2 hk3
  | unM h hk h1 h2 h3 => exact .unM h hk h1 h2 h3
  | unD h hk ht hd => exact .unD h hk ht hd
  | unS h hk ht hd _ ih => exact .unS h hk ht hd ih
  | unSB h hk ht hd _ ih => exact .unSB h hk ht hd ih
  | unP h hk ht hd _ hm ih => exact .unP h hk ht hd ih hm
  | unPM h hk ht hd _ hm ih => exact .unPM h hk ht hd ih hm
  | unPB h hk ht hd _ ih => exact .unPB h hk ht hd ih
  | bin5 _ ih => exact .bin5 ih
  | binB hl _ ih => exact .binB hl ih
  | bin hl _ _ ih1 ih2 => exact .bin hl ih1 ih2
  | lpE h => exact .lpE h
  | lpB h _ ih => exact .lpB h ih
  | lp2 h _ ih => exact .lp2 h ih
  | lp h hl _ _ ih1 ih2 => exact .lp h hl ih1 ih2
theorem PS.le {l : List Sg} {n m : Nat} {w : W} {d i : Nat} {r : PR} (h : PS l n w d i r) (hm : n ≤ m) : PS l m w d i r := by
  induction hm with
  | refl => exact h
  | step _ ih => exact ih.succ
def SgOk (s : Sg) : Prop := s.t.length ≤ 20 ∧ (s.k = 2 → s.t ≠ [] ∧ s.t.length ≤ 18 ∧ ∀ c ∈ s.t,isDg c = true)
theorem markN_2 (r : List UInt8) : markN r ≤ 2 := by
  unfold markN
  split
  · omega
  · split
    · omega
    · split <;> omega
theorem take_rn (p : UInt8 → Bool) : ∀ (r : List UInt8) (c : UInt8),c ∈ r.take (rnN p r) → p c = true
  | [],c,h => by simp at h
  | a :: r,c,h => by
    unfold rnN at h
    rw [List.takeWhile_cons] at h
    split at h
    · rename_i ha
      simp only [List.length_cons,List.take_succ_cons,List.mem_cons] at h
      rcases h with rfl | h
      · exact ha
      · exact take_rn p r c h
    · simp at h
theorem sgnS_ok {r : List UInt8} {k m i : Nat} (h : sgnS r = .ok k m) : SgOk ⟨k,r.take m,i⟩ := by
  obtain ⟨p1,p2⟩ := sgnS_pos h
  cases r with
  | nil => simp [sgnS] at h
  | cons c r =>
    simp only [sgnS] at h
    have hl : ∀ n,n ≤ (c :: r).length → ((c :: r).take n).length = n := fun n hn => by rw [List.length_take]; omega
    split at h
    · split at h
      · cases h
      · cases h; exact ⟨by show ((c :: r).take _).length ≤ 20; rw [hl _ p2]; omega,fun e => by cases e⟩
    · split at h
      · split at h
        · cases h
        · split at h
          · cases h
          · cases h
            refine ⟨by show ((c :: r).take _).length ≤ 20; rw [hl _ p2]; omega,fun _ => ⟨fun e => ?_,by show ((c :: r).take _).length ≤ 18; rw [hl _ p2]; omega,fun d hd => take_rn isDg _ d hd⟩⟩
            have := hl _ p2
            have e' : (c :: r).take (rnN isDg (c :: r)) = [] := e
            rw [e'] at this; simp at this; omega
      · split at h
        · cases h
        · cases h
          have := markN_2 (c :: r)
          exact ⟨by show ((c :: r).take _).length ≤ 20; rw [hl _ p2]; omega,fun e => by cases e⟩
theorem SR.sgOk {r : List UInt8} {i : Nat} {acc : List Sg} {res : Res} (h : SR r i acc res) : ∀ l,res = .ok l → (∀ s ∈ acc,SgOk s) → ∀ s ∈ l,SgOk s := by
  induction h with
  | done h => intro l e ha; cases e; exact ha
  | err h h2 => intro l e; cases e
  | one h h2 h3 ih =>
    intro l e ha
    refine ih l e fun s hs => ?_
    rcases List.mem_append.1 hs with hs | hs
    · exact ha s hs
    · simp only [List.mem_singleton] at hs; subst hs; exact sgnS_ok h2
end Go.Proofs.Pe
end

section
set_option linter.unusedVariables false
set_option linter.unusedSimpArgs false
set_option maxRecDepth 100000
set_option maxHeartbeats 1000000
namespace Go.Proofs.Pe

/-! ### Signs one by one -/
theorem SR.tok {gap t rest : List UInt8} {i k : Nat} {acc : List Sg} {res : Res} (hg : goneN false (gap ++ (t ++ rest)) = gap.length) (ht : sgnS (t ++ rest) = .ok k t.length) (hn : t ≠ [])
    (h : SR rest (i + gap.length + t.length) (acc ++ [⟨k,t,i + gap.length⟩]) res) : SR (gap ++ (t ++ rest)) i acc res := by
  obtain ⟨c,t',rfl⟩ := List.exists_cons_of_ne_nil hn
  refine .one (c := c) (r' := t' ++ rest) (k := k) (m := (c :: t').length) ?_ ht ?_
  · rw [hg,List.drop_left]; rfl
  · rw [hg]
    have e1 : (c :: (t' ++ rest)).drop (c :: t').length = rest := by
      rw [← List.cons_append,List.drop_left]
    have e2 : (c :: (t' ++ rest)).take (c :: t').length = c :: t' := by
      rw [← List.cons_append,List.take_left]
    rw [e1,e2]
    exact h
theorem SR.blank {r : List UInt8} {i : Nat} {acc : List Sg} {res : Res} (h : SR r (i + 1) acc res) : SR (32 :: r) i acc res := by
  have hg : goneN false (32 :: r) = goneN false r + 1 := gone_bl (by decide)
  have hd : (32 :: r).drop (goneN false (32 :: r)) = r.drop (goneN false r) := by rw [hg,List.drop_succ_cons]
  have hi : i + goneN false (32 :: r) = i + 1 + goneN false r := by omega
  cases h with
  | done h => exact .done (by rw [hd]; exact h)
  | err h h2 => rw [← hi]; exact .err (by rw [hd]; exact h) h2
  | one h h2 h3 => exact .one (by rw [hd]; exact h) h2 (by rw [hi]; exact h3)
theorem SR.len {r : List UInt8} {i : Nat} {acc : List Sg} {res : Res} (h : SR r i acc res) : ∀ l,res = .ok l → l.length ≤ acc.length + r.length := by
  induction h with
  | done h => intro l e; cases e; omega
  | err h h2 => intro l e; cases e
  | @one r r' c i k m acc res h h2 h3 ih =>
    intro l e
    have h4 := ih l e
    have h5 := sgnS_pos h2
    have h6 := congrArg List.length h
    simp at h4 h5 h6
    omega
def kt (s : Sg) : Nat × List UInt8 := (s.k,s.t)
theorem kind_nil : ∀ lv,lv < 5 → kindM lv [] = 0 := by decide
/-! ### Brackets in one another -/
end Go.Proofs.Pe
end

section
set_option linter.unusedVariables false
set_option linter.unusedSimpArgs false
set_option maxRecDepth 100000
set_option maxHeartbeats 1000000
namespace Go.Proofs.Pe

/-! ### Numbers az digits -/
theorem numI_snoc (t : List UInt8) (c : UInt8) : numI (t ++ [c]) = 10 * numI t + (c.toNat - 48) := by
  simp [numI,List.foldl_append]
def e18 : Nat := 1000000000000000000
theorem rnN_app {p : UInt8 → Bool} : ∀ {a r : List UInt8},(∀ c ∈ a,p c = true) → (∀ c,r.head? = some c → p c = false) → rnN p (a ++ r) = a.length
  | [],[],_,_ => rfl
  | [],c :: r,_,h => by
    have := h c rfl
    unfold rnN; rw [List.nil_append,List.takeWhile_cons,this]; rfl
  | c :: a,r,h1,h2 => by
    have ih := rnN_app (p := p) (a := a) (r := r) (fun d hd => h1 d (by simp [hd])) h2
    unfold rnN at ih ⊢
    rw [List.cons_append,List.takeWhile_cons,if_pos (h1 c (by simp)),List.length_cons,ih]; rfl
def Stop (r : List UInt8) : Prop := ∀ c,r.head? = some c → c = 32 ∨ c = 41 ∨ c = 59
theorem Stop.wd {r : List UInt8} (h : Stop r) : ∀ c,r.head? = some c → isIn c = false := fun c hc => by
  rcases h c hc with rfl | rfl | rfl <;> decide
/-! ### Expressions az texts -/
inductive WfT : Nat → Ex → Prop where
  | num {n m : Nat} : m < e18 → WfT n (.mk 1 m emp [])
  | var {n : Nat} {t : List UInt8} : isName t = true → WfT n (.mk 2 0 ⟨t.toArray⟩ [])
  | one {n k : Nat} {x : Ex} : k = 3 ∨ k = 4 → WfT n x → WfT (n + 1) (.mk k 0 emp [x])
  | two {n k : Nat} {x y : Ex} : 5 ≤ k → k ≤ 17 → WfT n x → WfT n y → WfT (n + 1) (.mk k 0 emp [x,y])
def Hd (t : List UInt8) : Prop := ∃ c r,t = c :: r ∧ isBl c = false ∧ c.toNat ≠ 35 ∧ c.toNat ≠ 61 ∧ c.toNat ≠ 62
theorem Hd.app {t r : List UInt8} (h : Hd t) : Hd (t ++ r) := by
  obtain ⟨c,s,rfl,h⟩ := h
  exact ⟨c,s ++ r,rfl,h⟩
/-! ### They are read az they were -/
def AtK (l : List Sg) (i : Nat) (ks : List (Nat × List UInt8)) : Prop := ∀ q p,ks[q]? = some p → (l.map kt)[i + q]? = some p
theorem AtK.app {l : List Sg} {i : Nat} {a b : List (Nat × List UInt8)} (h : AtK l i (a ++ b)) : AtK l i a ∧ AtK l (i + a.length) b := by
  constructor
  · intro q p hq
    exact h q p (by rw [List.getElem?_append_left (List.getElem?_eq_some_iff.1 hq).1]; exact hq)
  · intro q p hq
    rw [Nat.add_assoc]
    exact h (a.length + q) p (by rw [List.getElem?_append_right (by omega)]; rw [show a.length + q - a.length = q by omega]; exact hq)
theorem AtK.cons {l : List Sg} {i : Nat} {a : Nat × List UInt8} {b : List (Nat × List UInt8)} (h : AtK l i (a :: b)) : (l.map kt)[i]? = some a ∧ AtK l (i + 1) b := by
  refine ⟨h 0 a rfl,fun q p hq => ?_⟩
  rw [Nat.add_assoc,Nat.add_comm 1]
  exact h (q + 1) p (by simpa using hq)
end Go.Proofs.Pe
end

section
set_option linter.unusedVariables false
namespace Go.Proofs.Pe
variable {P : Program} {T : Tab} {ca : Ca} {yi : Nat → Sem'}

/-! ### A row behind all that stands in the store: nil, or an array at the end -/
def Tail (n k : Nat) (rv : V) (vs : List V) (tl : List O) : Prop := (rv = nilV ∧ vs = [] ∧ tl = []) ∨ ∃ v wr,rv = .ar n v ∧ tl = [.arr v wr k vs]
theorem Tail.row {n k : Nat} {rv : V} {vs : List V} {tl : List O} (h : Tail n k rv vs tl) {o : List O} (hn : o.length = n) : rowOf (o ++ tl) rv = some vs := by
  rcases h with ⟨rfl,rfl,rfl⟩ | ⟨v,wr,rfl,rfl⟩
  · rfl
  · simp [rowOf,← hn]
theorem Tail.push {n k b : Nat} {rv : V} {vs : List V} {tl : List O} (h : Tail n k rv vs tl) {f : Bool} {y : V} (hk : okRow k [y]) (hr : (vs.length + 1) * b ≤ room) {o : List O} (hn : o.length = n) :
    ∃ rv' tl',appOf k b (o ++ tl) rv (.sl k f [y]) = some (rv',o ++ tl') ∧ Tail n k rv' (vs ++ [y]) tl' := by
  rcases h with ⟨rfl,rfl,rfl⟩ | ⟨v,wr,rfl,rfl⟩
  · refine ⟨_,_, ?_,.inr ⟨0,true,rfl,rfl⟩⟩
    rw [List.append_nil,ap_nil rfl hk (by simp) (by simpa using hr),hn]; rfl
  · refine ⟨_,_, ?_,.inr ⟨v + 1,wr,rfl,rfl⟩⟩
    have hg : (o ++ [O.arr v wr k vs])[n]? = some (.arr v wr k vs) := by simp [← hn]
    rw [ap_ar hg (y := .sl k f [y]) rfl hk (by simp) hr]
    simp [← hn]
theorem Tail.nil (n k : Nat) : Tail n k nilV [] [] := .inl ⟨rfl,rfl,rfl⟩
theorem freeT_of {z : V} (h : z.free = true) : z.freeT = true := by cases z <;> first | exact h | cases h
end Go.Proofs.Pe
end

section
set_option linter.unusedVariables false
namespace Go.Proofs.Pe
variable {P : Program} {T : Tab} {ca : Ca} {yi : Nat → Sem'}

/-! ### Objects that go along: words for simp -/
section
variable {ρ : Nat → Option Nat}
end
end Go.Proofs.Pe
end

section
set_option linter.unusedVariables false
namespace Go.Proofs.Pe
variable {P : Program} {T : Tab} {ca : Ca} {yi : Nat → Sem'}
theorem ix_ar {k : Nat} {o : List O} {l v n : Nat} {wr : Bool} {xs : List V} (h : o[l]? = some (.arr v wr k xs)) (hn : n < xs.length) : ixOf k o (.ar l v) (iV n) = some (.pa l v n 0,o) := by
  simp [ixOf,intOf,h,hn]
end Go.Proofs.Pe
end

section
set_option linter.unusedVariables false
namespace Go.Proofs.Pe
variable {P : Program}
/-! ### Raw processes -/
inductive R3 where
  | mk (k a b : Int) (e : List Rw) (l : List R3)
mutual
def IsR3 : R3 → V → Prop
  | .mk k a b e l,v => ∃ ev evs lv vs,v = .agg [iV k,iV a,iV b,ev,lv] ∧ IsSl 3 ev evs ∧ evs.length ≤ maxLen ∧ All2 IsRw e evs ∧ IsSl 5 lv vs ∧ vs.length ≤ maxLen ∧ IsR3s l vs
def IsR3s : List R3 → List V → Prop
  | [],vs => vs = []
  | x :: l,vs => ∃ v ws,vs = v :: ws ∧ IsR3 x v ∧ IsR3s l ws
end
theorem IsR3.ok {x : R3} {v : V} (h : IsR3 x v) : v.free = true ∧ v.cells.length = 5 := by
  cases x; obtain ⟨ev,evs,lv,vs,rfl,h1,_,_,h2,_⟩ := h
  exact ⟨by simp only [free_agg,List.all_cons,List.all_nil,free1_sc,h1.free,h2.free,Bool.and_self],rfl⟩
structure R3Types (P : Program) (tr tl r3 l3 : TypeId) : Prop where
  rw : RwTypes P tr tl
  sl : P.underlying l3 = some (.slice r3)
  ce : P.cellsOf r3 = 5
  st : ∃ fs,P.underlying r3 = some (.struct fs) ∧ fs.toList.map (·.type) = [3,3,3,tl,l3]
/-! ### Processes by names -/
inductive Pr where
  | mk (k : Int) (nm to : ByteArray) (e : Ex) (l : List Pr)
mutual
def IsPr : Pr → V → Prop
  | .mk k nm to (.mk ek en em el) l,v => ∃ ev evs lv vs,v = .agg [iV k,sV nm,sV to,iV ek,iV en,sV em,ev,lv] ∧ IsSl 4 ev evs ∧ evs.length ≤ cap ∧ IsExs el evs ∧ IsSl 8 lv vs ∧ vs.length ≤ cap ∧ IsPrs l vs
def IsPrs : List Pr → List V → Prop
  | [],vs => vs = []
  | x :: l,vs => ∃ v ws,vs = v :: ws ∧ IsPr x v ∧ IsPrs l ws
end
theorem IsPr.ok {x : Pr} {v : V} (h : IsPr x v) : v.free = true ∧ v.cells.length = 8 := by
  rcases x with ⟨_,_,_,⟨_,_,_,_⟩,_⟩; obtain ⟨ev,evs,lv,vs,rfl,h1,_,_,h2,_⟩ := h
  exact ⟨by simp only [free_agg,List.all_cons,List.all_nil,free1_sc,h1.free,h2.free,Bool.and_self],rfl⟩
theorem IsPr.solid {x : Pr} {v : V} (h : IsPr x v) : v.solid = true := by
  rcases x with ⟨_,_,_,⟨_,_,_,_⟩,_⟩; obtain ⟨ev,evs,lv,vs,rfl,h1,_,_,h2,_⟩ := h
  simp only [solid_agg,List.all_cons,List.all_nil,one_sc,free1_one h1.free,free1_one h2.free,Bool.and_true]
inductive PrOk : Pr → Prop where
  | mk {k : Int} {nm to : ByteArray} {e : Ex} {l : List Pr} : l.length ≤ 2 → (k = 12 → l.length = 2) → (∀ x ∈ l,PrOk x) → PrOk (.mk k nm to e l)
def prP (z : V) : Prop := ∃ p,IsPr p z ∧ PrOk p
theorem prP.ok {z : V} (h : prP z) : z.free = true ∧ z.cells.length = 8 ∧ z.solid = true := by
  obtain ⟨p,h1,_⟩ := h
  exact ⟨h1.ok.1,h1.ok.2,h1.solid⟩
theorem prP.fr {z : V} (h : prP z) (o : List O) : ∃ w o2,freezeT o z = some (w,o2) ∧ prP w := ⟨z,o,frzT_free h.ok.1,h⟩
end Go.Proofs.Pe
end

section
set_option linter.unusedVariables false
namespace Go.Proofs.Pe
/-! ### Names and their numbers -/
def findO : List ByteArray → ByteArray → Option Nat
  | [],_ => none
  | x :: xs,s => if x = s then some 0 else (findO xs s).map (· + 1)
def findI (ns : List ByteArray) (s : ByteArray) : Int := match findO ns s with
  | some k => k
  | none => -1
/-! ### By numbers -/
mutual
def lowE (V : List ByteArray) : Ex → Ex
  | .mk k n m l => .mk k (if k = 2 then findI V m else n) emp (lowEs V l)
def lowEs (V : List ByteArray) : List Ex → List Ex
  | [] => []
  | x :: l => lowE V x :: lowEs V l
end
mutual
def badE (V : List ByteArray) : Ex → Bool
  | .mk k n m l => (decide (k = 2) && decide (findI V m < 0)) || badEs V l
def badEs (V : List ByteArray) : List Ex → Bool
  | [] => false
  | x :: l => badE V x || badEs V l
end
def zE : Ex := .mk 0 0 emp []
def lowA (V S D : List ByteArray) (k : Int) (nm to : ByteArray) : Int :=
  if k = 1 then (if to = emp then -1 else findI V to) else if k = 2 then findI V to else if k = 3 ∨ k = 4 ∨ k = 5 ∨ k = 6 then findI S nm else if k = 13 then findI D nm else 0
def lowB (S : List ByteArray) (k : Int) (to : ByteArray) : Int := if k = 6 then findI S to else 0
def badA (V S D : List ByteArray) (k : Int) (nm to : ByteArray) : Bool :=
  if k = 1 then !decide (to = emp) && decide (findI V to < 0) else if k = 2 then decide (findI V to < 0) else if k = 3 ∨ k = 4 ∨ k = 5 then decide (findI S nm < 0) else if k = 6 then (decide (findI S nm < 0) || decide (findI S to < 0)) else if k = 13 then decide (findI D nm < 0) else false
mutual
def lowP (V S D : List ByteArray) : Pr → Tm
  | .mk k nm to e l => .mk k (lowA V S D k nm to) (lowB S k to) (if k = 1 then nm else emp) (if k = 2 ∨ k = 9 then lowE V e else zE) (lowPs V S D l)
def lowPs (V S D : List ByteArray) : List Pr → List Tm
  | [] => []
  | x :: l => lowP V S D x :: lowPs V S D l
end
mutual
def badP (V S D : List ByteArray) : Pr → Bool
  | .mk k nm to e l => (badA V S D k nm to || (decide (k = 2 ∨ k = 9) && badE V e)) || badPs V S D l
def badPs (V S D : List ByteArray) : List Pr → Bool
  | [] => false
  | x :: l => badP V S D x || badPs V S D l
end
end Go.Proofs.Pe
end

section
set_option linter.unusedVariables false
namespace Go.Proofs.Pe
/-! ### All that an expression is made of, from left to right -/
mutual
def nodes : Ex → List Ex
  | .mk k n m l => .mk k n m l :: nodesL l
def nodesL : List Ex → List Ex
  | [] => []
  | x :: l => nodes x ++ nodesL l
end
/-! ### Whether an expression may be -/
end Go.Proofs.Pe
end

section
set_option linter.unusedVariables false
set_option linter.unusedSimpArgs false
namespace Go.Proofs.Pe
theorem zIs : IsEx (.mk 0 0 emp []) (.agg [iV 0,iV 0,sV emp,nilV]) := ⟨nilV,[],rfl,.inl ⟨rfl,rfl⟩,by simp,rfl⟩
theorem ex_agg {x : Ex} {z : V} (h : IsEx x z) : ∃ a b c d,z = .agg [iV a,iV b,sV c,d] ∧ d.one = true := by
  rcases x with ⟨k,n,nm,l⟩
  obtain ⟨lv,vs,rfl,h1,_⟩ := h
  exact ⟨_,_,_,_,rfl,free1_one h1.free⟩
theorem ex_one {k : Int} {x : Ex} {z : V} (h : IsEx x z) : IsEx (.mk k 0 emp [x]) (.agg [iV k,iV 0,sV emp,.sl 4 true [z]]) :=
  ⟨_,[z],rfl,.inr ⟨_,rfl⟩,by simp [cap],z,[],rfl,h,rfl⟩
theorem ex_two {k : Int} {x y : Ex} {z u : V} (h : IsEx x z) (h2 : IsEx y u) : IsEx (.mk k 0 emp [x,y]) (.agg [iV k,iV 0,sV emp,.sl 4 true [z,u]]) :=
  ⟨_,[z,u],rfl,.inr ⟨_,rfl⟩,by simp [cap],z,[u],rfl,h,u,[],rfl,h2,rfl⟩
theorem catOk {n : Nat} (h : n ≤ 1000000000) : (((n : Nat) : Int) > IntKind.i64.max) = False := by
  apply eq_false
  show ¬ ((n : Int) > 9223372036854775807)
  omega
theorem numI_take {t : List UInt8} {k : Nat} {c : UInt8} (h : t[k]? = some c) : numI (t.take (k + 1)) = 10 * numI (t.take k) + (c.toNat - 48) := by
  rw [List.take_add_one,h,Option.toList_some,numI_snoc]
theorem numI_lt {t : List UInt8} (h : ∀ c ∈ t,isDg c = true) : ∀ k,k ≤ t.length → numI (t.take k) < 10 ^ k
  | 0,_ => by simp [numI]
  | k + 1,hk => by
    have hx : t[k]? = some t[k] := List.getElem?_eq_getElem (by omega)
    have hc := h _ (List.getElem_mem (l := t) (n := k) (by omega))
    have ih := numI_lt h k (by omega)
    rw [numI_take hx,Nat.pow_succ]
    simp [isDg] at hc
    omega
theorem pow18 {k : Nat} (h : k ≤ 18) : 10 ^ k ≤ 1000000000000000000 := Nat.pow_le_pow_right (by omega) h
/-! ### Names, each once -/
noncomputable instance memD (s : ByteArray) (l : List ByteArray) : Decidable (s ∈ l) := Classical.propDecidable _
noncomputable def addN (out : List ByteArray) (s : ByteArray) : List ByteArray := if s ∈ out then out else out ++ [s]
noncomputable def ddN (l : List ByteArray) : List ByteArray := l.foldl addN []
end Go.Proofs.Pe
end

section
set_option linter.unusedVariables false
set_option linter.unusedSimpArgs false
set_option maxRecDepth 100000
set_option maxHeartbeats 8000000
open Go.Proofs.Pe renaming putCells → qC, bslOf → qO, bsaOf → qA, bslS → qS, isUpto → qU, step → qT, intOf → qI, iop → qP, sop → qQ
open List renaming replicate → qR
open Go.Proofs.Pe.V renaming dead → qD
namespace Go.Proofs.YtclaoegdlibapaaDoor
open Go.Proofs.Pe


/-! ### The reader of expressions: what stands here -/
def sgnsV : List V := (List.range 18).map fun k => tV (kTxt k)
def lvlsV : List V := (List.range 5).map fun k => .agg [iV (lvLo k),iV (lvHi k)]
theorem signs_l : PFn Tryd.prog T 78 [] fun z => z = .sl 1 true sgnsV := by
  intro yi hy
  refine Call.step hy ?_
  rw [body_eq t78]
  simp only [c78,c78x1,RUA,RUB,RUC,RUD,RUE,RUF,if_true,if_false,Int.reduceEq,Int.reduceLT,Int.reduceLE,qC,qO,qA,qS,qU,Nat.reduceEqDiff,qT,E.at,qR,Nat.reduceAdd,Nat.reduceSub,Nat.reduceLeDiff,Nat.reduceMul,qI,qP,qQ]
  exact ⟨_,_,rfl,rfl⟩
theorem levels_p : PFn Tryd.prog T 86 [] fun z => z = .sl 2 true lvlsV := by
  intro yi hy
  refine Call.step hy ?_
  rw [body_eq t86]
  simp only [c86,c86x1,RUA,RUB,RUC,RUD,RUE,RUF,if_true,if_false,Int.reduceEq,Int.reduceLT,Int.reduceLE,qC,qO,qA,qS,qU,Nat.reduceEqDiff,qT,E.at,qR,Nat.reduceAdd,Nat.reduceSub,Nat.reduceLeDiff,Nat.reduceMul,qI,qP,qQ]
  exact ⟨_,_,rfl,rfl⟩
theorem sgns_get {k : Nat} (h : k < 18) : sgnsV[k]? = some (tV (kTxt k)) := by simp [sgnsV,h]
theorem lvls_get {k : Nat} (h : k < 5) : lvlsV[k]? = some (.agg [iV (lvLo k),iV (lvHi k)]) := by simp [lvlsV,h]

section
variable {o : List O} {p : Nat} {w d e : V} {l : List Sg} {i : Nat} {yi : Nat → Sem'} {K : V → List O → Prop}
theorem sg_ix (hw : IsSl 3 w (l.map Sg.v)) {s : Sg} (h : l[i]? = some s) (o : List O) : ixOf 3 o w (iV i) = some (.ep [iV s.k,tV s.t,iV s.i],o) := by
  have := hw.ix o (n := i) (y := s.v) (by rw [List.getElem?_map,h]; rfl)
  exact this
theorem pmark_c (hy : YLe yi yi) (hw : IsSl 3 w (l.map Sg.v)) (ho : o[p]? = some (.cells [w,iV i,d,e])) (hK : K (tV (markAt l i)) o) : Pe.Call Tryd.prog T yi 94 [.pt p 0] o K := by
  have hrow := fun o => hw.row o
  have hlen : (l.map Sg.v).length = l.length := by simp
  refine Call.step hy ?_
  rw [body_eq t94]
  by_cases hlt : i < l.length
  · have hx : l[i]? = some l[i] := List.getElem?_eq_getElem hlt
    generalize l[i] = s at hx
    have hI := fun o => sg_ix hw hx o
    have hd : decide ((i : Int) < (l.length : Int)) = true := by simpa using hlt
    by_cases hk : s.k = 3
    · have hkd : decide ((s.k : Int) = 3) = true := by simp; omega
      have hm : markAt l i = s.t := by simp only [markAt,hx,hk,if_true]
      rw [hm] at hK
      simp only [c94,c94x1,c94x2,c94x3,RUA,RUB,RUC,RUD,RUE,RUF,if_true,if_false,Int.reduceEq,Int.reduceLT,Int.reduceLE,qC,qO,qA,qS,qU,Nat.reduceEqDiff,qT,E.at,qR,Nat.reduceAdd,Nat.reduceSub,Nat.reduceLeDiff,Nat.reduceMul,qI,qP,qQ,ho,hrow,hlen,hd,hI,hkd]
      exact hK
    · have hkd : decide ((s.k : Int) = 3) = false := by simp; omega
      have hm : markAt l i = [] := by simp only [markAt,hx,if_neg hk]
      rw [hm] at hK
      simp only [c94,c94x1,c94x2,c94x3,RUA,RUB,RUC,RUD,RUE,RUF,if_true,if_false,Int.reduceEq,Int.reduceLT,Int.reduceLE,qC,qO,qA,qS,qU,Nat.reduceEqDiff,qT,E.at,qR,Nat.reduceAdd,Nat.reduceSub,Nat.reduceLeDiff,Nat.reduceMul,qI,qP,qQ,ho,hrow,hlen,hd,hI,hkd]
      exact hK
  · have hd : decide ((i : Int) < (l.length : Int)) = false := by simpa using hlt
    have hm : markAt l i = [] := by simp only [markAt,List.getElem?_eq_none (Nat.le_of_not_lt hlt)]
    rw [hm] at hK
    simp only [c94,c94x1,c94x2,c94x3,RUA,RUB,RUC,RUD,RUE,RUF,if_true,if_false,Int.reduceEq,Int.reduceLT,Int.reduceLE,qC,qO,qA,qS,qU,Nat.reduceEqDiff,qT,E.at,qR,Nat.reduceAdd,Nat.reduceSub,Nat.reduceLeDiff,Nat.reduceMul,qI,qP,qQ,ho,hrow,hlen,hd]
    exact hK
theorem lv_ok : ∀ lv,lv < 5 → 5 ≤ lvLo lv ∧ lvLo lv ≤ lvHi lv ∧ lvHi lv ≤ 17 := by decide
theorem pkind_c (hy : YLe yi yi) (hw : IsSl 3 w (l.map Sg.v)) {lv : Nat} (hlv : lv < 5) (ho : o[p]? = some (.cells [w,iV i,d,e])) (hK : ∀ b,K (iV (kindM lv (markAt l i))) (o ++ [b])) :
    Pe.Call Tryd.prog T yi 88 [.pt p 0,.agg [iV (lvLo lv),iV (lvHi lv)]] o K := by
  obtain ⟨hl1,hl2,hl3⟩ := lv_ok lv hlv
  have hnil := kind_nil lv hlv
  refine Call.step hy ?_
  rw [body_eq t88]
  simp only [c88,c88x1,RUA,RUB,RUC,RUD,RUE,RUF,if_true,if_false,Int.reduceEq,Int.reduceLT,Int.reduceLE,qC,qO,qA,qS,qU,Nat.reduceEqDiff,qT,E.at,qR,Nat.reduceAdd,Nat.reduceSub,Nat.reduceLeDiff,Nat.reduceMul,qI,qP,qQ]
  refine call3 rfl (cm_pt cm_nil) (pmark_c noY_le hw (get_app ho) ⟨Sim.refl _ _, ?_⟩)
  generalize hmm : markAt l i = m at hK
  generalize hkk : kindM lv m = kk at hK
  have hK' := hK (.cells [.agg [iV (lvLo lv),iV (lvHi lv)]])
  simp only [c88,c88x1,c88x2,c88x3,RUA,RUB,RUC,RUD,RUE,RUF,if_true,if_false,Int.reduceEq,Int.reduceLT,Int.reduceLE,qC,qO,qA,qS,qU,Nat.reduceEqDiff,qT,E.at,qR,Nat.reduceAdd,Nat.reduceSub,Nat.reduceLeDiff,Nat.reduceMul,qI,qP,qQ]
  refine Lfp.inv call_le hy (fun k : Nat => ⟨⟨[.dead,.dead,.dead,.pt o.length 0,.dead,tV m,iV k,.dead,.dead,.dead,.dead,.dead,.dead,.dead,.dead,.dead,.dead,.dead,.dead,.dead,.dead,.dead,.dead,.dead,.dead,.dead,.dead,.dead],o ++ [.cells [iV (lvLo lv),iV (lvHi lv)]]⟩,[]⟩) (fun k => lvHi lv + 1 - k)
    (fun k => lvLo lv ≤ k ∧ k ≤ lvHi lv + 1 ∧ kindG (lvHi lv + 1 - k) k m = kk) (lvLo lv) ⟨Nat.le_refl _,by omega,hkk⟩ (by simp only [kill_L,killTs_nil,RUF] <;> rfl) ?_
  rintro k ⟨hk1,hk2,hf⟩
  have fin0 : kk = 0 → K (iV 0) (o ++ [.cells [iV (lvLo lv),iV (lvHi lv)]]) := fun h => by
    have := hK (.cells [iV (lvLo lv),iV (lvHi lv)])
    rw [h] at this; exact this
  by_cases h1 : k ≤ lvHi lv
  · have hd : decide ((k : Int) ≤ (lvHi lv : Int)) = true := by simpa using h1
    have e1 : lvHi lv + 1 - k = (lvHi lv + 1 - (k + 1)) + 1 := by omega
    by_cases hm0 : m = []
    · have hb : (m == ([] : List UInt8)) = true := by simpa using hm0
      have hz : kk = 0 := by rw [← hkk,hm0]; exact hnil
      simp only [c88,c88x1,c88x2,c88x3,c88x4,c88x5,c88x6,c88x7,c88x8,c88x9,RUA,RUB,RUC,RUD,RUE,RUF,if_true,if_false,Int.reduceEq,Int.reduceLT,Int.reduceLE,qC,qO,qA,qS,qU,Nat.reduceEqDiff,qT,E.at,qR,Nat.reduceAdd,Nat.reduceSub,Nat.reduceLeDiff,Nat.reduceMul,qI,qP,qQ,hd,hb]
      exact fin0 hz
    · have hb : (m == ([] : List UInt8)) = false := by simpa using hm0
      have hI : ∀ o,ixOf 1 o (.sl 1 true sgnsV) (iV k) = some (.ep [tV (kTxt k)],o) := fun o => IsSl.ix (.inr ⟨_,rfl⟩) o (sgns_get (by omega))
      have hw1 : IntKind.i64.wrap ((k : Int) + 1) = ((k + 1 : Nat) : Int) := wrap_succ (by omega)
      rw [e1] at hf
      simp only [c88,c88x1,c88x2,c88x3,c88x4,c88x5,c88x6,RUA,RUB,RUC,RUD,RUE,RUF,if_true,if_false,Int.reduceEq,Int.reduceLT,Int.reduceLE,qC,qO,qA,qS,qU,Nat.reduceEqDiff,qT,E.at,qR,Nat.reduceAdd,Nat.reduceSub,Nat.reduceLeDiff,Nat.reduceMul,qI,qP,qQ,hd,hb]
      refine pcall signs_l rfl (by simp) ?_
      simp only [c88,c88x1,c88x2,c88x3,c88x4,c88x5,c88x6,c88x7,c88x8,c88x9,RUA,RUB,RUC,RUD,RUE,RUF,if_true,if_false,Int.reduceEq,Int.reduceLT,Int.reduceLE,qC,qO,qA,qS,qU,Nat.reduceEqDiff,qT,E.at,qR,Nat.reduceAdd,Nat.reduceSub,Nat.reduceLeDiff,Nat.reduceMul,qI,qP,qQ,hI]
      by_cases he : kTxt k = m
      · have hq : (kTxt k == m) = true := by simpa using he
        have hz : kk = k := by rw [← hf,kindG,if_pos hq]
        simp only [c88,c88x1,c88x2,c88x3,c88x4,c88x5,c88x6,c88x7,c88x8,c88x9,RUA,RUB,RUC,RUD,RUE,RUF,if_true,if_false,Int.reduceEq,Int.reduceLT,Int.reduceLE,qC,qO,qA,qS,qU,Nat.reduceEqDiff,qT,E.at,qR,Nat.reduceAdd,Nat.reduceSub,Nat.reduceLeDiff,Nat.reduceMul,qI,qP,qQ,hq]
        rw [← hz]
        exact hK _
      · have hq : (kTxt k == m) = false := by simpa using he
        simp only [c88,c88x1,c88x2,c88x3,c88x4,c88x5,c88x6,c88x7,c88x8,c88x9,RUA,RUB,RUC,RUD,RUE,RUF,if_true,if_false,Int.reduceEq,Int.reduceLT,Int.reduceLE,qC,qO,qA,qS,qU,Nat.reduceEqDiff,qT,E.at,qR,Nat.reduceAdd,Nat.reduceSub,Nat.reduceLeDiff,Nat.reduceMul,qI,qP,qQ,hq,hw1]
        refine ⟨k + 1,⟨by omega,by omega, ?_⟩,by omega,rfl⟩
        rw [← hf,kindG,if_neg (by rw [hq]; simp)]
  · have hd : decide ((k : Int) ≤ (lvHi lv : Int)) = false := by simpa using h1
    have hz : kk = 0 := by rw [← hf,show lvHi lv + 1 - k = 0 by omega]; rfl
    simp only [c88,c88x1,c88x2,c88x3,c88x4,c88x5,c88x6,c88x7,c88x8,c88x9,RUA,RUB,RUC,RUD,RUE,RUF,if_true,if_false,Int.reduceEq,Int.reduceLT,Int.reduceLE,qC,qO,qA,qS,qU,Nat.reduceEqDiff,qT,E.at,qR,Nat.reduceAdd,Nat.reduceSub,Nat.reduceLeDiff,Nat.reduceMul,qI,qP,qQ,hd]
    exact fin0 hz
end
end Go.Proofs.YtclaoegdlibapaaDoor
end

section
set_option linter.unusedVariables false
namespace Go.Proofs.Pe
variable {P : Program} {T : Tab} {ca : Ca} {yi : Nat → Sem'}
/-! ### A shift -/
/-! ### Appends of one, in a run -/
end Go.Proofs.Pe
end
