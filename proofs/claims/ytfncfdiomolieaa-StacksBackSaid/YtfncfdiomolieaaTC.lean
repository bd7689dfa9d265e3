/- Parts of the texts that the claim's proof needs: functions of the program as the evaluator reads them, and what they come to. Conditions: those that its theorems state. -/
import Derived.Test.YtfncfdiomolieaaTB
import Derived.Test.YtfncfdiomolieaaProg

section
set_option linter.unusedVariables false
set_option maxRecDepth 100000
namespace Go.Proofs.Ytfncfdiomolieaa
open Go.Proofs.Pe
noncomputable def c73x16 : C := (.seq (.regs [⟨some 98,none,.mv (.tmp 5)⟩,⟨some 2,none,.mv (.tmp 98)⟩]) .ret)
noncomputable def c73x15 : C := (.regs [⟨some 29,none,.mv (.tmp 7)⟩,⟨some 30,none,.bin .add (.tmp 29) (.lit (.sc (.int .i64 1)))⟩,⟨some 7,none,.mv (.tmp 30)⟩])
noncomputable def c73x14 : C := (.cond (.tmp 65) (.regd (.rd 0 ⟨some 66,none,.mv (.tmp 5)⟩ 1 (.rd 1 ⟨some 67,none,.nilck (.tmp 66)⟩ 1 (.rd 2 ⟨some 68,none,.fad (.tmp 67) 1⟩ 1 (.rd 3 ⟨some 69,none,.load (.tmp 68) false 1⟩ 1 (.rd 4 ⟨some 70,none,.mv (.tmp 7)⟩ 1 (.rd 5 ⟨some 71,none,.mv (.tmp 5)⟩ 1 (.rd 6 ⟨some 72,none,.nilck (.tmp 71)⟩ 1 (.rd 7 ⟨some 73,none,.fad (.tmp 72) 2⟩ 1 (.rd 8 ⟨some 74,none,.load (.tmp 73) false 1⟩ 1 (.rd 9 ⟨some 75,none,.mv (.tmp 7)⟩ 3 (.rd 10 ⟨some 76,none,.mv (.tmp 5)⟩ 1 (.rd 11 ⟨some 77,none,.nilck (.tmp 76)⟩ 1 (.rd 12 ⟨some 78,none,.fad (.tmp 77) 1⟩ 1 (.rd 13 ⟨some 79,none,.load (.tmp 78) false 1⟩ 1 (.rd 14 ⟨some 80,none,.mv (.tmp 7)⟩ 1 (.rd 15 ⟨some 81,none,.iad (.tmp 79) (.tmp 80) 1⟩ 1 (.rd 16 ⟨some 82,none,.load (.tmp 81) false 1⟩ 1 (.rd 17 ⟨some 83,none,.mv (.tmp 82)⟩ 1 (.rd 18 ⟨some 84,some (83,false),.mv (.tmp 8)⟩ 1 (.rd 19 ⟨some 85,none,.pick (.tmp 83) (.lit (.sc (.bool true))) (.tmp 84)⟩ 1 (.rd 20 ⟨some 86,none,.mv (.tmp 5)⟩ 1 (.rd 21 ⟨some 87,none,.nilck (.tmp 86)⟩ 1 (.rd 22 ⟨some 88,none,.fad (.tmp 87) 2⟩ 1 (.rd 23 ⟨some 89,none,.load (.tmp 88) false 1⟩ 1 (.rd 24 ⟨some 90,none,.mv (.tmp 7)⟩ 1 (.rd 25 ⟨some 91,none,.iad (.tmp 89) (.tmp 90) 1⟩ 1 (.rd 26 ⟨some 92,none,.load (.tmp 91) false 1⟩ 1 (.rd 27 ⟨some 93,none,.mv (.tmp 92)⟩ 1 (.rd 28 ⟨some 94,some (93,false),.mv (.tmp 9)⟩ 3 (.rd 29 ⟨some 95,none,.pick (.tmp 93) (.lit (.sc (.bool true))) (.tmp 94)⟩ 3 (.rd 30 ⟨some 96,none,.iad (.tmp 69) (.tmp 70) 1⟩ 1 (.alt [(.op 31 ⟨none,none,.store (.tmp 96) (.tmp 85) 1⟩ (.rd 32 ⟨some 97,none,.iad (.tmp 74) (.tmp 75) 1⟩ 1 (.alt [(.op 33 ⟨none,none,.store (.tmp 97) (.tmp 95) 1⟩ (.rd 34 ⟨some 6,none,.mv (.lit (.sc (.bool true)))⟩ 1 .nil))])))]))))))))))))))))))))))))))))))))) .skip)
noncomputable def c73x13 : C := (.seq (.regs [⟨some 42,none,.mv (.tmp 8)⟩,⟨some 43,none,.mv (.tmp 42)⟩,⟨some 44,some (43,true),.mv (.tmp 5)⟩,⟨some 45,some (43,true),.nilck (.tmp 44)⟩,⟨some 46,some (43,true),.fad (.tmp 45) 1⟩,⟨some 47,some (43,true),.load (.tmp 46) false 1⟩,⟨some 48,some (43,true),.mv (.tmp 7)⟩,⟨some 49,some (43,true),.iad (.tmp 47) (.tmp 48) 1⟩,⟨some 50,some (43,true),.load (.tmp 49) false 1⟩,⟨some 51,some (43,true),.noT (.tmp 50)⟩,⟨some 52,none,.pick (.tmp 43) (.tmp 51) (.lit (.sc (.bool false)))⟩,⟨some 53,none,.mv (.tmp 52)⟩,⟨some 54,some (53,false),.mv (.tmp 9)⟩,⟨some 55,some (53,false),.mv (.tmp 54)⟩,⟨some 56,some (55,true),.mv (.tmp 5)⟩,⟨some 57,some (55,true),.nilck (.tmp 56)⟩,⟨some 58,some (55,true),.fad (.tmp 57) 2⟩,⟨some 59,some (55,true),.load (.tmp 58) false 1⟩,⟨some 60,some (55,true),.mv (.tmp 7)⟩,⟨some 61,some (55,true),.iad (.tmp 59) (.tmp 60) 1⟩,⟨some 62,some (55,true),.load (.tmp 61) false 1⟩,⟨some 63,some (55,true),.noT (.tmp 62)⟩,⟨some 64,some (53,false),.pick (.tmp 55) (.tmp 63) (.lit (.sc (.bool false)))⟩,⟨some 65,none,.pick (.tmp 53) (.lit (.sc (.bool true))) (.tmp 64)⟩]) c73x14)
noncomputable def c73x12 : C := (.seq (.block 3 (.seq (.regs [⟨some 32,none,.mv (.tmp 5)⟩,⟨some 33,none,.fad (.tmp 1) 2⟩,⟨some 34,none,.load (.tmp 33) false 1⟩,⟨some 35,none,.mv (.tmp 7)⟩,⟨some 36,none,.iad (.tmp 34) (.tmp 35) 9⟩,⟨some 37,none,.fad (.tmp 36) 1⟩,⟨some 38,none,.load (.tmp 37) true 8⟩,⟨some 39,none,.call (.lit (.fn (.func 75) [] [])) [(.tmp 32),(.tmp 38)]⟩,⟨some 31,none,.mv (.tmp 39)⟩,⟨some 40,none,.ext (.tmp 31) 0⟩,⟨some 41,none,.ext (.tmp 31) 1⟩,⟨some 8,none,.mv (.tmp 40)⟩,⟨some 9,none,.mv (.tmp 41)⟩]) c73x13)) c73x15)
noncomputable def c73x11 : C := (.cond (.tmp 28) .skip (.exit 2))
noncomputable def c73x10 : C := (.seq (.seq (.regs [⟨some 25,none,.mv (.tmp 7)⟩,⟨some 26,none,.mv (.tmp 4)⟩,⟨some 27,none,.len (.tmp 26)⟩,⟨some 28,none,.bin .lss (.tmp 25) (.tmp 27)⟩]) c73x11) c73x12)
noncomputable def c73x9 : C := (.block 2 (.loop (.kill [0,2,3,8,9,10,11,12,13,14,15,16,17,18,19,20,21,22,23,24,25,26,27,28,29,30,31,32,33,34,35,36,37,38,39,40,41,42,43,44,45,46,47,48,49,50,51,52,53,54,55,56,57,58,59,60,61,62,63,64,65,66,67,68,69,70,71,72,73,74,75,76,77,78,79,80,81,82,83,84,85,86,87,88,89,90,91,92,93,94,95,96,97,98] c73x10)))
noncomputable def c73x8 : C := (.seq (.regs [⟨some 7,none,.mv (.lit (.sc (.int .i64 0)))⟩]) c73x9)
noncomputable def c73x7 : C := (.block 1 (.seq (.regs [⟨some 6,none,.mv (.lit (.sc (.bool false)))⟩]) c73x8))
noncomputable def c73x6 : C := (.cond (.tmp 24) .skip (.exit 0))
noncomputable def c73x5 : C := (.seq (.seq (.regs [⟨some 24,none,.mv (.tmp 6)⟩]) c73x6) c73x7)
noncomputable def c73x4 : C := (.block 0 (.loop (.kill [0,2,3,7,8,9,10,11,12,13,14,15,16,17,18,19,20,21,22,23,24,25,26,27,28,29,30,31,32,33,34,35,36,37,38,39,40,41,42,43,44,45,46,47,48,49,50,51,52,53,54,55,56,57,58,59,60,61,62,63,64,65,66,67,68,69,70,71,72,73,74,75,76,77,78,79,80,81,82,83,84,85,86,87,88,89,90,91,92,93,94,95,96,97,98] c73x5)))
noncomputable def c73x3 : C := (.seq (.seq (.regs [⟨some 6,none,.mv (.lit (.sc (.bool true)))⟩]) c73x4) c73x16)
noncomputable def c73x2 : C := (.seq (.regd (.rd 0 ⟨some 15,none,.mv (.tmp 4)⟩ 1 (.rd 1 ⟨some 16,none,.mv (.tmp 4)⟩ 1 (.rd 2 ⟨some 17,none,.len (.tmp 16)⟩ 1 (.rd 4 ⟨some 19,none,.mv (.tmp 4)⟩ 1 (.rd 5 ⟨some 20,none,.len (.tmp 19)⟩ 1 (.alt [(.op 3 ⟨some 18,none,.msl (.tmp 17) (.tmp 17) 1 1 (.sc (.bool false))⟩ (.alt [(.op 6 ⟨some 21,none,.msl (.tmp 20) (.tmp 20) 1 1 (.sc (.bool false))⟩ (.rd 7 ⟨some 22,none,.bld [(.sc (.slice none 0 0)),(.sc (.slice none 0 0)),(.sc (.slice none 0 0))] [(0,(1,(.tmp 15))),(1,(1,(.tmp 18))),(2,(1,(.tmp 21)))]⟩ 1 (.alt [(.op 8 ⟨some 23,none,.box (.tmp 22)⟩ (.rd 9 ⟨some 5,none,.mv (.tmp 23)⟩ 1 .nil))])))])),(.op 6 ⟨some 21,none,.msl (.tmp 20) (.tmp 20) 1 1 (.sc (.bool false))⟩ (.alt [(.op 3 ⟨some 18,none,.msl (.tmp 17) (.tmp 17) 1 1 (.sc (.bool false))⟩ (.rd 7 ⟨some 22,none,.bld [(.sc (.slice none 0 0)),(.sc (.slice none 0 0)),(.sc (.slice none 0 0))] [(0,(1,(.tmp 15))),(1,(1,(.tmp 18))),(2,(1,(.tmp 21)))]⟩ 1 (.alt [(.op 8 ⟨some 23,none,.box (.tmp 22)⟩ (.rd 9 ⟨some 5,none,.mv (.tmp 23)⟩ 1 .nil))])))]))]))))))) c73x3)
noncomputable def c73x1 : C := (.seq (.regs [⟨some 11,none,.load (.tmp 1) true 3⟩,⟨some 12,none,.call (.lit (.fn (.func 60) [] [])) [(.tmp 11)]⟩,⟨some 10,none,.mv (.tmp 12)⟩,⟨some 13,none,.ext (.tmp 10) 0⟩,⟨some 14,none,.ext (.tmp 10) 1⟩,⟨some 3,none,.mv (.tmp 13)⟩,⟨some 4,none,.mv (.tmp 14)⟩]) c73x2)
noncomputable def c73 : CF := ⟨99,[(.tmp 2)],(.seq (.regs [⟨some 1,none,.box (.tmp 0)⟩,⟨some 2,none,.mv (.lit (.sc (.pointer none)))⟩]) c73x1)⟩
noncomputable def c74x14 : C := (.regs [⟨some 17,none,.mv (.tmp 9)⟩,⟨some 18,none,.bin .add (.tmp 17) (.lit (.sc (.int .i64 1)))⟩,⟨some 9,none,.mv (.tmp 18)⟩])
noncomputable def c74x13 : C := (.seq (.block 2 (.regs [⟨some 19,none,.mv (.tmp 0)⟩,⟨some 20,none,.fad (.tmp 4) 7⟩,⟨some 21,none,.load (.tmp 20) false 1⟩,⟨some 22,none,.mv (.tmp 9)⟩,⟨some 23,none,.iad (.tmp 21) (.tmp 22) 8⟩,⟨some 24,none,.load (.tmp 23) true 8⟩,⟨some 25,none,.mv (.tmp 2)⟩,⟨some 26,none,.call (.lit (.fn (.func 74) [] [])) [(.tmp 19),(.tmp 24),(.tmp 25)]⟩])) c74x14)
noncomputable def c74x12 : C := (.cond (.tmp 16) .skip (.exit 1))
noncomputable def c74x11 : C := (.seq (.seq (.regs [⟨some 12,none,.mv (.tmp 9)⟩,⟨some 13,none,.fad (.tmp 4) 7⟩,⟨some 14,none,.load (.tmp 13) false 1⟩,⟨some 15,none,.len (.tmp 14)⟩,⟨some 16,none,.bin .lss (.tmp 12) (.tmp 15)⟩]) c74x12) c74x13)
noncomputable def c74x10 : C := (.block 1 (.loop (.kill [1,3,5,6,7,8,10,11,12,13,14,15,16,17,18,19,20,21,22,23,24,25,26,27,28,29,30,31,32,33,34,35,36,37,38,39,40,41,42,43,44,45,46,47,48,49,50,51,52,53,54,55,56,57,58,59,60,61,62,63,64,65,66] c74x11)))
noncomputable def c74x9 : C := (.cond (.tmp 59) (.regs [⟨some 60,none,.mv (.tmp 0)⟩,⟨some 61,none,.fad (.tmp 4) 7⟩,⟨some 62,none,.load (.tmp 61) false 1⟩,⟨some 63,none,.iad (.tmp 62) (.lit (.sc (.int .i64 1))) 8⟩,⟨some 64,none,.load (.tmp 63) true 8⟩,⟨some 65,none,.mv (.tmp 2)⟩,⟨some 66,none,.call (.lit (.fn (.func 74) [] [])) [(.tmp 60),(.tmp 64),(.tmp 65)]⟩]) .skip)
noncomputable def c74x8 : C := (.seq (.regs [⟨some 59,none,.mv (.tmp 7)⟩]) c74x9)
noncomputable def c74x7 : C := (.seq (.regs [⟨some 51,none,.mv (.tmp 0)⟩,⟨some 52,none,.fad (.tmp 4) 7⟩,⟨some 53,none,.load (.tmp 52) false 1⟩,⟨some 54,none,.iad (.tmp 53) (.lit (.sc (.int .i64 0))) 8⟩,⟨some 55,none,.load (.tmp 54) true 8⟩,⟨some 56,none,.call (.lit (.fn (.func 75) [] [])) [(.tmp 51),(.tmp 55)]⟩,⟨some 50,none,.mv (.tmp 56)⟩,⟨some 57,none,.ext (.tmp 50) 0⟩,⟨some 58,none,.ext (.tmp 50) 1⟩,⟨some 7,none,.mv (.tmp 57)⟩,⟨some 8,none,.mv (.tmp 58)⟩]) c74x8)
noncomputable def c74x6 : C := (.cond (.tmp 41) (.seq (.regs [⟨some 43,none,.mv (.tmp 0)⟩,⟨some 44,none,.fad (.tmp 4) 7⟩,⟨some 45,none,.load (.tmp 44) false 1⟩,⟨some 46,none,.iad (.tmp 45) (.lit (.sc (.int .i64 0))) 8⟩,⟨some 47,none,.load (.tmp 46) true 8⟩,⟨some 48,none,.mv (.tmp 2)⟩,⟨some 49,none,.call (.lit (.fn (.func 74) [] [])) [(.tmp 43),(.tmp 47),(.tmp 48)]⟩]) c74x7) (.seq (.regs [⟨some 9,none,.mv (.lit (.sc (.int .i64 0)))⟩]) c74x10))
noncomputable def c74x5 : C := (.cond (.tmp 37) (.regs [⟨some 38,none,.mv (.tmp 2)⟩,⟨some 39,none,.mv (.tmp 6)⟩,⟨some 40,none,.iad (.tmp 38) (.tmp 39) 1⟩,⟨none,none,.store (.tmp 40) (.lit (.sc (.bool true))) 1⟩]) .skip)
noncomputable def c74x4 : C := (.seq (.regs [⟨some 36,none,.mv (.tmp 6)⟩,⟨some 37,none,.bin .geq (.tmp 36) (.lit (.sc (.int .i64 0)))⟩]) c74x5)
noncomputable def c74x3 : C := (.cond (.tmp 27) (.seq (.regd (.rd 0 ⟨some 29,none,.mv (.tmp 0)⟩ 1 (.rd 1 ⟨some 30,none,.nilck (.tmp 29)⟩ 1 (.rd 2 ⟨some 31,none,.fad (.tmp 30) 0⟩ 1 (.rd 3 ⟨some 32,none,.load (.tmp 31) false 1⟩ 1 (.rd 4 ⟨some 33,none,.fad (.tmp 4) 1⟩ 1 (.rd 5 ⟨some 34,none,.load (.tmp 33) false 1⟩ 1 (.alt [(.op 6 ⟨some 35,none,.call (.lit (.fn (.func 62) [] [])) [(.tmp 32),(.tmp 34)]⟩ (.rd 7 ⟨some 6,none,.mv (.tmp 35)⟩ 1 .nil))])))))))) c74x4) (.seq (.regs [⟨some 42,none,.bin .eql (.tmp 11) (.lit (.sc (.int .i64 12)))⟩,⟨some 41,none,.mv (.tmp 42)⟩]) c74x6))
noncomputable def c74x2 : C := (.block 0 (.seq (.regs [⟨some 28,none,.bin .eql (.tmp 11) (.lit (.sc (.int .i64 13)))⟩,⟨some 27,none,.mv (.tmp 28)⟩]) c74x3))
noncomputable def c74x1 : C := (.seq (.regs [⟨some 10,none,.fad (.tmp 4) 0⟩,⟨some 11,none,.load (.tmp 10) false 1⟩]) c74x2)
noncomputable def c74 : CF := ⟨67,[],(.seq (.regs [⟨some 4,none,.box (.tmp 1)⟩]) c74x1)⟩
noncomputable def c75x20 : C := (.seq (.regs [⟨some 4,none,.mv (.lit (.sc (.bool true)))⟩,⟨some 5,none,.mv (.lit (.sc (.bool false)))⟩]) .ret)
noncomputable def c75x19 : C := (.seq (.regd (.rd 0 ⟨some 107,none,.mv (.tmp 9)⟩ 1 (.rd 1 ⟨some 108,none,.bin .geq (.tmp 107) (.lit (.sc (.int .i64 0)))⟩ 1 (.rd 2 ⟨some 109,none,.mv (.tmp 108)⟩ 1 (.rd 3 ⟨some 110,some (109,true),.mv (.tmp 0)⟩ 1 (.rd 4 ⟨some 111,some (109,true),.nilck (.tmp 110)⟩ 1 (.rd 5 ⟨some 112,some (109,true),.fad (.tmp 111) 1⟩ 1 (.rd 6 ⟨some 113,some (109,true),.load (.tmp 112) false 1⟩ 1 (.rd 7 ⟨some 114,some (109,true),.mv (.tmp 9)⟩ 1 (.rd 8 ⟨some 115,some (109,true),.iad (.tmp 113) (.tmp 114) 1⟩ 1 (.rd 9 ⟨some 116,some (109,true),.load (.tmp 115) false 1⟩ 1 (.rd 10 ⟨some 117,none,.pick (.tmp 109) (.tmp 116) (.lit (.sc (.bool false)))⟩ 1 (.rd 11 ⟨some 118,none,.mv (.tmp 9)⟩ 1 (.rd 12 ⟨some 119,none,.bin .geq (.tmp 118) (.lit (.sc (.int .i64 0)))⟩ 1 (.rd 13 ⟨some 120,none,.mv (.tmp 119)⟩ 1 (.rd 14 ⟨some 121,some (120,true),.mv (.tmp 0)⟩ 1 (.rd 15 ⟨some 122,some (120,true),.nilck (.tmp 121)⟩ 1 (.rd 16 ⟨some 123,some (120,true),.fad (.tmp 122) 2⟩ 1 (.rd 17 ⟨some 124,some (120,true),.load (.tmp 123) false 1⟩ 1 (.rd 18 ⟨some 125,some (120,true),.mv (.tmp 9)⟩ 1 (.rd 19 ⟨some 126,some (120,true),.iad (.tmp 124) (.tmp 125) 1⟩ 1 (.rd 20 ⟨some 127,some (120,true),.load (.tmp 126) false 1⟩ 1 (.rd 21 ⟨some 128,none,.pick (.tmp 120) (.tmp 127) (.lit (.sc (.bool false)))⟩ 1 (.rd 22 ⟨some 4,none,.mv (.tmp 117)⟩ 1 (.rd 23 ⟨some 5,none,.mv (.tmp 128)⟩ 1 .nil))))))))))))))))))))))))) .ret)
noncomputable def c75x18 : C := (.cond (.tmp 98) (.seq (.regd (.rd 0 ⟨some 100,none,.mv (.tmp 0)⟩ 1 (.rd 1 ⟨some 101,none,.nilck (.tmp 100)⟩ 1 (.rd 2 ⟨some 102,none,.fad (.tmp 101) 0⟩ 1 (.rd 3 ⟨some 103,none,.load (.tmp 102) false 1⟩ 1 (.rd 4 ⟨some 104,none,.fad (.tmp 3) 1⟩ 1 (.rd 5 ⟨some 105,none,.load (.tmp 104) false 1⟩ 1 (.alt [(.op 6 ⟨some 106,none,.call (.lit (.fn (.func 62) [] [])) [(.tmp 103),(.tmp 105)]⟩ (.rd 7 ⟨some 9,none,.mv (.tmp 106)⟩ 1 .nil))])))))))) c75x19) .skip)
noncomputable def c75x17 : C := (.cond (.tmp 80) (.seq (.regd (.rd 0 ⟨some 82,none,.aia (.tmp 6) (.lit (.sc (.int .i64 0))) 1 2⟩ 1 (.rd 1 ⟨some 83,none,.load (.tmp 82) false 1⟩ 1 (.rd 2 ⟨some 84,none,.mv (.tmp 83)⟩ 1 (.rd 3 ⟨some 85,some (84,true),.aia (.tmp 6) (.lit (.sc (.int .i64 1))) 1 2⟩ 1 (.rd 4 ⟨some 86,some (84,true),.load (.tmp 85) false 1⟩ 1 (.rd 5 ⟨some 87,none,.pick (.tmp 84) (.tmp 86) (.lit (.sc (.bool false)))⟩ 1 (.rd 6 ⟨some 88,none,.aia (.tmp 7) (.lit (.sc (.int .i64 0))) 1 2⟩ 1 (.rd 7 ⟨some 89,none,.load (.tmp 88) false 1⟩ 1 (.rd 8 ⟨some 90,none,.mv (.tmp 89)⟩ 1 (.rd 9 ⟨some 91,some (90,false),.aia (.tmp 6) (.lit (.sc (.int .i64 0))) 1 2⟩ 1 (.rd 10 ⟨some 92,some (90,false),.load (.tmp 91) false 1⟩ 1 (.rd 11 ⟨some 93,some (90,false),.mv (.tmp 92)⟩ 1 (.rd 12 ⟨some 94,some (93,true),.aia (.tmp 7) (.lit (.sc (.int .i64 1))) 1 2⟩ 1 (.rd 13 ⟨some 95,some (93,true),.load (.tmp 94) false 1⟩ 1 (.rd 14 ⟨some 96,some (90,false),.pick (.tmp 93) (.tmp 95) (.lit (.sc (.bool false)))⟩ 1 (.rd 15 ⟨some 97,none,.pick (.tmp 90) (.lit (.sc (.bool true))) (.tmp 96)⟩ 1 (.rd 16 ⟨some 4,none,.mv (.tmp 87)⟩ 1 (.rd 17 ⟨some 5,none,.mv (.tmp 97)⟩ 1 .nil))))))))))))))))))) .ret) (.seq (.regs [⟨some 99,none,.bin .eql (.tmp 36) (.lit (.sc (.int .i64 13)))⟩,⟨some 98,none,.mv (.tmp 99)⟩]) c75x18))
noncomputable def c75x16 : C := (.cond (.tmp 66) (.seq (.regd (.rd 0 ⟨some 68,none,.aia (.tmp 6) (.lit (.sc (.int .i64 0))) 1 2⟩ 1 (.rd 1 ⟨some 69,none,.load (.tmp 68) false 1⟩ 1 (.rd 2 ⟨some 70,none,.mv (.tmp 69)⟩ 1 (.rd 3 ⟨some 71,some (70,true),.aia (.tmp 6) (.lit (.sc (.int .i64 1))) 1 2⟩ 1 (.rd 4 ⟨some 72,some (70,true),.load (.tmp 71) false 1⟩ 1 (.rd 5 ⟨some 73,none,.pick (.tmp 70) (.tmp 72) (.lit (.sc (.bool false)))⟩ 1 (.rd 6 ⟨some 74,none,.aia (.tmp 7) (.lit (.sc (.int .i64 0))) 1 2⟩ 1 (.rd 7 ⟨some 75,none,.load (.tmp 74) false 1⟩ 1 (.rd 8 ⟨some 76,none,.mv (.tmp 75)⟩ 1 (.rd 9 ⟨some 77,some (76,false),.aia (.tmp 7) (.lit (.sc (.int .i64 1))) 1 2⟩ 1 (.rd 10 ⟨some 78,some (76,false),.load (.tmp 77) false 1⟩ 1 (.rd 11 ⟨some 79,none,.pick (.tmp 76) (.lit (.sc (.bool true))) (.tmp 78)⟩ 1 (.rd 12 ⟨some 4,none,.mv (.tmp 73)⟩ 1 (.rd 13 ⟨some 5,none,.mv (.tmp 79)⟩ 1 .nil))))))))))))))) .ret) (.seq (.regs [⟨some 81,none,.bin .eql (.tmp 36) (.lit (.sc (.int .i64 12)))⟩,⟨some 80,none,.mv (.tmp 81)⟩]) c75x17))
noncomputable def c75x15 : C := (.cond (.tmp 51) (.seq (.regd (.rd 0 ⟨some 54,none,.aia (.tmp 6) (.lit (.sc (.int .i64 0))) 1 2⟩ 1 (.rd 1 ⟨some 55,none,.load (.tmp 54) false 1⟩ 1 (.rd 2 ⟨some 56,none,.mv (.tmp 55)⟩ 1 (.rd 3 ⟨some 57,some (56,false),.aia (.tmp 6) (.lit (.sc (.int .i64 1))) 1 2⟩ 1 (.rd 4 ⟨some 58,some (56,false),.load (.tmp 57) false 1⟩ 1 (.rd 5 ⟨some 59,none,.pick (.tmp 56) (.lit (.sc (.bool true))) (.tmp 58)⟩ 1 (.rd 6 ⟨some 60,none,.aia (.tmp 7) (.lit (.sc (.int .i64 0))) 1 2⟩ 1 (.rd 7 ⟨some 61,none,.load (.tmp 60) false 1⟩ 1 (.rd 8 ⟨some 62,none,.mv (.tmp 61)⟩ 1 (.rd 9 ⟨some 63,some (62,false),.aia (.tmp 7) (.lit (.sc (.int .i64 1))) 1 2⟩ 1 (.rd 10 ⟨some 64,some (62,false),.load (.tmp 63) false 1⟩ 1 (.rd 11 ⟨some 65,none,.pick (.tmp 62) (.lit (.sc (.bool true))) (.tmp 64)⟩ 1 (.rd 12 ⟨some 4,none,.mv (.tmp 59)⟩ 1 (.rd 13 ⟨some 5,none,.mv (.tmp 65)⟩ 1 .nil))))))))))))))) .ret) (.seq (.regs [⟨some 67,none,.bin .eql (.tmp 36) (.lit (.sc (.int .i64 11)))⟩,⟨some 66,none,.mv (.tmp 67)⟩]) c75x16))
noncomputable def c75x14 : C := (.cond (.tmp 51) .skip (.regs [⟨some 53,none,.bin .eql (.tmp 36) (.lit (.sc (.int .i64 10)))⟩,⟨some 51,none,.mv (.tmp 53)⟩]))
noncomputable def c75x13 : C := (.cond (.tmp 43) (.seq (.regs [⟨some 45,none,.aia (.tmp 6) (.lit (.sc (.int .i64 0))) 1 2⟩,⟨some 46,none,.load (.tmp 45) false 1⟩,⟨some 47,none,.mv (.tmp 46)⟩,⟨some 48,some (47,false),.aia (.tmp 7) (.lit (.sc (.int .i64 0))) 1 2⟩,⟨some 49,some (47,false),.load (.tmp 48) false 1⟩,⟨some 50,none,.pick (.tmp 47) (.lit (.sc (.bool true))) (.tmp 49)⟩,⟨some 4,none,.mv (.tmp 50)⟩,⟨some 5,none,.mv (.lit (.sc (.bool false)))⟩]) .ret) (.seq (.seq (.regs [⟨some 52,none,.bin .eql (.tmp 36) (.lit (.sc (.int .i64 9)))⟩,⟨some 51,none,.mv (.tmp 52)⟩]) c75x14) c75x15))
noncomputable def c75x12 : C := (.cond (.tmp 41) (.seq (.regs [⟨some 4,none,.mv (.lit (.sc (.bool true)))⟩,⟨some 5,none,.mv (.lit (.sc (.bool true)))⟩]) .ret) (.seq (.regs [⟨some 44,none,.bin .eql (.tmp 36) (.lit (.sc (.int .i64 7)))⟩,⟨some 43,none,.mv (.tmp 44)⟩]) c75x13))
noncomputable def c75x11 : C := (.cond (.tmp 39) (.seq (.regs [⟨some 4,none,.mv (.lit (.sc (.bool false)))⟩,⟨some 5,none,.mv (.lit (.sc (.bool true)))⟩]) .ret) (.seq (.regs [⟨some 42,none,.bin .eql (.tmp 36) (.lit (.sc (.int .i64 4)))⟩,⟨some 41,none,.mv (.tmp 42)⟩]) c75x12))
noncomputable def c75x10 : C := (.cond (.tmp 37) (.seq (.regs [⟨some 4,none,.mv (.lit (.sc (.bool false)))⟩,⟨some 5,none,.mv (.lit (.sc (.bool false)))⟩]) .ret) (.seq (.regs [⟨some 40,none,.bin .eql (.tmp 36) (.lit (.sc (.int .i64 8)))⟩,⟨some 39,none,.mv (.tmp 40)⟩]) c75x11))
noncomputable def c75x9 : C := (.block 2 (.seq (.regs [⟨some 38,none,.bin .eql (.tmp 36) (.lit (.sc (.int .i64 1)))⟩,⟨some 37,none,.mv (.tmp 38)⟩]) c75x10))
noncomputable def c75x8 : C := (.seq (.seq (.regs [⟨some 35,none,.fad (.tmp 3) 0⟩,⟨some 36,none,.load (.tmp 35) false 1⟩]) c75x9) c75x20)
noncomputable def c75x7 : C := (.regs [⟨some 19,none,.mv (.tmp 8)⟩,⟨some 20,none,.bin .add (.tmp 19) (.lit (.sc (.int .i64 1)))⟩,⟨some 8,none,.mv (.tmp 20)⟩])
noncomputable def c75x6 : C := (.seq (.block 1 (.regs [⟨some 22,none,.mv (.tmp 8)⟩,⟨some 23,none,.mv (.tmp 8)⟩,⟨some 24,none,.mv (.tmp 0)⟩,⟨some 25,none,.fad (.tmp 3) 7⟩,⟨some 26,none,.load (.tmp 25) false 1⟩,⟨some 27,none,.mv (.tmp 8)⟩,⟨some 28,none,.iad (.tmp 26) (.tmp 27) 8⟩,⟨some 29,none,.load (.tmp 28) true 8⟩,⟨some 30,none,.call (.lit (.fn (.func 75) [] [])) [(.tmp 24),(.tmp 29)]⟩,⟨some 21,none,.mv (.tmp 30)⟩,⟨some 31,none,.ext (.tmp 21) 0⟩,⟨some 32,none,.ext (.tmp 21) 1⟩,⟨some 33,none,.aia (.tmp 6) (.tmp 22) 1 2⟩,⟨none,none,.store (.tmp 33) (.tmp 31) 1⟩,⟨some 34,none,.aia (.tmp 7) (.tmp 23) 1 2⟩,⟨none,none,.store (.tmp 34) (.tmp 32) 1⟩])) c75x7)
noncomputable def c75x5 : C := (.cond (.tmp 18) .skip (.exit 0))
noncomputable def c75x4 : C := (.seq (.seq (.regs [⟨some 10,none,.mv (.tmp 8)⟩,⟨some 11,none,.fad (.tmp 3) 7⟩,⟨some 12,none,.load (.tmp 11) false 1⟩,⟨some 13,none,.len (.tmp 12)⟩,⟨some 14,none,.bin .lss (.tmp 10) (.tmp 13)⟩,⟨some 15,none,.mv (.tmp 14)⟩,⟨some 16,some (15,true),.mv (.tmp 8)⟩,⟨some 17,some (15,true),.bin .lss (.tmp 16) (.lit (.sc (.int .i64 2)))⟩,⟨some 18,none,.pick (.tmp 15) (.tmp 17) (.lit (.sc (.bool false)))⟩]) c75x5) c75x6)
noncomputable def c75x3 : C := (.block 0 (.loop (.kill [1,2,4,5,9,10,11,12,13,14,15,16,17,18,19,20,21,22,23,24,25,26,27,28,29,30,31,32,33,34,35,36,37,38,39,40,41,42,43,44,45,46,47,48,49,50,51,52,53,54,55,56,57,58,59,60,61,62,63,64,65,66,67,68,69,70,71,72,73,74,75,76,77,78,79,80,81,82,83,84,85,86,87,88,89,90,91,92,93,94,95,96,97,98,99,100,101,102,103,104,105,106,107,108,109,110,111,112,113,114,115,116,117,118,119,120,121,122,123,124,125,126,127,128] c75x4)))
noncomputable def c75x2 : C := (.seq (.seq (.regs [⟨some 8,none,.mv (.lit (.sc (.int .i64 0)))⟩]) c75x3) c75x8)
noncomputable def c75x1 : C := (.seq (.regs [⟨some 6,none,.alloc (.agg [(.sc (.bool false)),(.sc (.bool false))])⟩,⟨some 7,none,.alloc (.agg [(.sc (.bool false)),(.sc (.bool false))])⟩]) c75x2)
noncomputable def c75 : CF := ⟨129,[(.tmp 4),(.tmp 5)],(.seq (.regs [⟨some 3,none,.box (.tmp 1)⟩,⟨some 4,none,.mv (.lit (.sc (.bool false)))⟩,⟨some 5,none,.mv (.lit (.sc (.bool false)))⟩]) c75x1)⟩
end Go.Proofs.Ytfncfdiomolieaa
end

section
set_option linter.unusedVariables false
set_option maxRecDepth 100000
namespace Go.Proofs.Ytfncfdiomolieaa
open Go.Proofs.Pe
noncomputable def mds : List (Nat × Nat) := [(13,0),(14,0),(15,0),(16,0),(17,0),(18,0),(19,0),(20,0),(21,0),(22,0),(23,0),(24,0),(25,0),(26,0),(27,0),(28,0),(29,0),(30,0),(31,3),(32,4),(33,0),(34,0),(35,5),(36,0),(37,5),(38,0),(39,0),(40,0),(41,0),(42,3),(43,1),(44,1),(45,0),(46,0),(47,0),(48,0),(49,0),(50,0),(51,0),(52,0),(53,0),(54,3),(55,1),(56,1),(57,0),(58,0),(59,0),(60,0),(61,0),(62,0),(63,5),(64,0),(65,1),(66,0),(67,0),(68,5),(69,5),(70,5),(71,0),(72,0),(73,5),(74,6),(75,5),(1000001,7)]
noncomputable def ans : List (Nat × List (Nat × List Nat)) := [(3,[(0,[0,1,2,6,7,8,9,10,11,12,13,14,15,16,17,18,19,20,21,22,23,24,25,26,27,28,29,30,31,32,33,34,35,36,37,38,39,40,41,42,43,44,45,46,47,48,49,50,51,52,53,54,55,56,57,58,59,60,61,62,63,64,65,66,67,68,69,70,71,72,73,74,75,76,77,78,79,80,81,82,83,84,85,86,87,88,89,90,91,92,93]),(2,[0,1,2,3,4,5,9,10,11,12,13,14,15,16,17,18,19,20,21,22,23,24,25,26,27,28,29,30,31,32,33,34,35,36,37,38,39,40,41,42,43,44,45,46,47,48,49,50,51,52,53,54,55,56,57,58,59,60,61,62,63,64,65,66,67,68,69,70,71,72,73,74,75,76,77,78,79,80,81,82,83,84,85,86,87,88,89,90,91,92,93])]),
  (4,[(1,[0,1,2,3,4,5,6,7,8,13,14,15,16,17,18,19,20,21,22,23,24,25,26,27,28,29,30,31,32,33,34,35,36,37,38,39,40,41,42,43,44,45,46,47,48,49,50,51,52,53,54,55,56,57,58,59,60,61,62,63,64,65,66,67,68,69,70,71])]),
  (6,[(0,[1,3,4,5,6,10,11,12,13,14,15,16,17,18,19,20,21,22,23,24,25,26,27,28,29,30,31,32,33,34,35,36,37,38,39,40,41,42,43,44,45,46,47,48,49,50,51,52,53,54,55,56,57,58,59,60,61,62,63,64,65,66,67,68,69,70,71,72,73,74,75,76,77,78,79,80,81,82,83,84,85,86,87,88,89,90,91,92,93,94,95,96,97,98,99,100,101,102,103,104,105,106,107,108,109,110,111,112,113,114,115,116,117,118,119,120,121,122,123,124,125,126,127,128,129,130])]),
  (8,[(0,[0,1,2,3,4,5,6,7,8,11,12,13,14,17,18,19,20,21,22,23,24,25,26,27,28,29,30,31,32,33,34,35,36,37,38,39,40,41,42,43,44,45,46,47,48,49,50,51,52,53,54,55,56,57,58,59,60,61,62,63,64,65,66,67,68,69,70,71,72,73,74,75,76,77,78,79,80,81,82,83,84,85,86,87,88,89,90,91,92,93,94,95,96]),(2,[0,1,2,3,4,5,6,7,8,11,12,13,14,18,19,20,21,22,23,24,25,26,27,28,29,30,31,32,33,34,35,36,37,38,39,40,41,42,43,44,45,46,47,48,49,50,51,52,53,54,55,56,57,58,59,60,61,62,63,64,65,66,67,68,69,70,71,72,73,74,75,76,77,78,79,80,81,82,83,84,85,86,87,88,89,90,91,92,93,94,95,96]),(4,[0,1,2,3,4,5,6,7,8,11,12,13,14,19,20,21,22,23,24,25,26,27,28,29,30,31,32,33,34,35,36,37,38,39,40,41,42,43,44,45,46,47,48,49,50,51,52,53,54,55,56,57,58,59,60,61,62,63,64,65,66,67,68,69,70,71,72,73,74,75,76,77,78,79,80,81,82,83,84,85,86,87,88,89,90,91,92,93,94,95,96])]),
  (12,[(0,[0,1,2,3,4,9,10,11,12,13,14,15,16,17,18,19,20,21,22,23,24,25,26,27,28,29,30,31,32,33,34,35,36,37,38,39,40,41,42,43,44,45,46,47,48,49,50,51,52,53,54,55,56,57,58,59,60,61,62,63,64,65,66,67,68,69,70,71,72,73,74,75,76,77,78,79,80,81,82,83,84,85,86,87,88,89,90,91,92,93,94,95,96,97,98,99,100,101,102,103,104,105,106,107,108]),(2,[0,1,2,3,4,8,10,11,12,13,14,15,16,17,18,19,20,21,22,23,24,25,26,27,28,29,30,31,32,33,34,35,36,37,38,39,40,41,42,43,44,45,46,47,48,49,50,51,52,53,54,55,56,57,58,59,60,61,62,63,64,65,66,67,68,69,70,71,72,73,74,75,76,77,78,79,80,81,82,83,84,85,86,87,88,89,90,91,92,93,94,95,96,97,98,99,100,101,102,103,104,105,106,107,108]),(4,[0,1,2,3,4,7,8,9,11,13,14,15,16,17,18,19,20,21,22,23,24,25,26,27,28,29,30,31,32,33,34,35,36,37,38,39,40,41,42,43,44,45,46,47,48,49,50,51,52,53,54,55,56,57,58,59,60,61,62,63,64,65,66,67,68,69,70,71,72,73,74,75,76,77,78,79,80,81,82,83,84,85,86,87,88,89,90,91,92,93,94,95,96,97,98,99,100,101,102,103,104,105,106,107,108]),(6,[0,1,2,3,4,7,8,9,10,11,14,15,16,17,18,19,20,21,22,23,24,25,26,27,28,29,30,31,32,33,34,35,36,37,38,39,40,41,42,43,44,45,46,47,48,49,50,51,52,53,54,55,56,57,58,59,60,61,62,63,64,65,66,67,68,69,70,71,72,73,74,75,76,77,78,79,80,81,82,83,84,85,86,87,88,89,90,91,92,93,94,95,96,97,98,99,100,101,102,103,104,105,106,107,108])]),
  (16,[(0,[2,3,5,7,8,9,10,11,12,13,14,18,19,20,21,22,23,24,25,26,27,28,29,30,31,32,33,34,35])]),
  (18,[(0,[1,2,3,4,7,8,9,10,11,12,13,14,15,16,17,18,19,20,21,22,23,24,25,26,27,28,29,30,31,32,33,34,35,36,37,38,39,40,41,42])]),
  (20,[(0,[2,3,4,6,7,8,9,10,11,12,13,14,15,16,17,18,19,20,21,22,23,24,25,26])]),
  (21,[(0,[0,2,3,7,8,9,10,11,12,13,14,15,16,17,18,19,20,21,22,23,24,25,26,27,28,29,30,31,32,33,34,35,36,37])]),
  (22,[(0,[0,1,4,6,7,8,9,10,11,12,13,14,15,16,17,18,19,20,21,22,23,24,25,26,27,28,29,30,31,32,33,34,35,36,37,38,39,40,41,42,43,44,45,46,47,48,49,50,51,52,53,54,55,56,57,58,59,60,61,62,63,64,65,66,67])]),
  (23,[(0,[2,3,4,6,7,8,9,10,11,12,13,14,15,16,17,18,19,20,21,22,23,24,25,26])]),
  (25,[(0,[2,3,5,8,9,10,11,12,13,14,15,16,17,18,19,20,21,22,23,24,25,26,27,28,29,30,31,32,33,34,35,36,37,38])]),
  (29,[(0,[0,1,2,4,5,6,7,11,12,13,14,15,16,17,18,19,20,21,22,23,24,25,26]),(2,[0,1,2,4,5,6,7,11,12,13,17,18,19,20,21,22,23,24,25,26])]),
  (30,[(0,[1,2,5,6,7,8,9,10,11,12,13,14,15,16,17,18,19,20,21,22,23,24,25,26,27,28,29,30,31]),(2,[1,2,6,7,8,9,10,11,12,13,14,15,16,17,18,19,20,21,22,23,24,25,26,27,28,29,30,31])]),
  (34,[(0,[0,2,5,6,7,8,9,10,11,12,13,14,15,16,17,18,19,20,21,22,23,24,25,26,27])]),
  (35,[(0,[0,5,6,7,8,9,10,11,12,13,14,15,16,17,18,19,20,21,22,23,24,25,26,27,28,29,30,31,32,33,34,35,36,37,38,39,40,41,42,43,44,45,46,47,48,49,50,51,52,53,54,55,56,57]),(2,[0,4,6,7,8,9,10,11,12,13,14,15,16,17,18,19,20,21,22,23,24,25,26,27,28,29,30,31,32,33,34,35,36,37,38,39,40,41,42,43,44,45,46,47,48,49,50,51,52,53,54,55,56,57])]),
  (37,[(0,[0,5,6,7,10,12,13,14,15,16,17,18,19,20,21,22,23,24,25,26,27,28,29,30,31,32,33,34,35,36,37,38,39,40,41,42,43,44,45,46,47,48,49,50,51,52,53,54,55,56,57,58,59,60,61,62,63,64,65,66,67])]),
  (38,[(0,[0,1,4,6,7,8,9,10,11,12,13,14,15,16,17,18,19,20,21,22,23,24,25,26,27,28,29,30,31,32,33,34,35,36,37,38,39,40,41,42,43,44,45,46,47,48,49,50,51,52])]),
  (39,[(0,[3,4,5,6,9,10,11,12,13,14,15,16,17,18,19,20,21,22,23,24,25,26,27,28,29,30])]),
  (40,[(0,[0,1,2,4,5,6,10,11,12,13,14,15,16,17,18])]),
  (41,[(0,[0,2,5,6,7,8,9,10,11,12,13,14,15,16,17,18,19,20])]),
  (42,[(0,[0,2,3,4,6,7,8,12,13,14,15,16,17,18,19,20,21,22,23,24,25,26,27,28]),(1000000,[1])]),
  (44,[(0,[0,2,3,4,6,7,8,12,13,14,15,16,17,18,19,20,21,22,23,24,25,26,27,28])]),
  (46,[(0,[0,3,4,7,8,9,10,11,12,13,14,15,16,17,18,19,20,21,22,23,24,25,26,27,28,29,30,31,32,33,34,35,36])]),
  (52,[(0,[0,3,4,5,9,10,11,12,13,14,15,16,17,18,19,20,21,22,23,24,25,26,27,28,29,30,31,32,33,34,35,36,37,38,39,40,41,42,43,44,45,46,47,48,49,50,51,52,53,54,55,56,57,58,59,60,61,62,63,64,65,66,67,68,69,70,71,72,73,74,75,76,77,78,79,80,81,82,83,84,85,86,87,88,89,90,91,92,93,94,95,96,97,98,99,100,101,102,103,104,105,106,107,108,109]),(2,[0,3,4,5,8,10,11,12,13,14,15,16,17,18,19,20,21,22,23,24,25,26,27,28,29,30,31,32,33,34,35,36,37,38,39,40,41,42,43,44,45,46,47,48,49,50,51,52,53,54,55,56,57,58,59,60,61,62,63,64,65,66,67,68,69,70,71,72,73,74,75,76,77,78,79,80,81,82,83,84,85,86,87,88,89,90,91,92,93,94,95,96,97,98,99,100,101,102,103,104,105,106,107,108,109])]),
  (56,[(0,[0,2,3,4,6,7,8,12,13,14,15,16,17,18,19,20,21,22,23,24,25,26,27,28])]),
  (60,[(0,[0,2,3,7,8,9,10,11,12,13,14,15,16,17,18,19,20,21,22,23,24,25,26,27,28,29,30,31,32,33,34,35,36,37,38,39,40,41]),(2,[0,2,3,6,8,9,10,11,12,13,14,15,16,17,18,19,20,21,22,23,24,25,26,27,28,29,30,31,32,33,34,35,36,37,38,39,40,41])]),
  (61,[(0,[1,2,4,5,6,7,8,9,10,11,12,13,14,15,16,17])]),
  (62,[(0,[2,3,4,6,7,8,9,10,11,12,13,14,15,16,17,18])]),
  (63,[(1,[1,2,7,8,9,10,11,12,13,14,15,16,17,18,19,20,21,22,23,24,25,26,27,28,29,30,31,32,33,34,35,36,37,38,39,40,41,42,43,44,45,46,47,48,49,50,51,52,53,54,55,56,57,58,59,60,61,62,63,64,65,66,67,68,69,70,71,72,73,74,75,76,77,78,79,80,81,82,83,84,85,86,87,88,89,90,91,92,93,94,95,96,97,98,99,100,101,102,103,104,105,106,107,108,109,110,111,112,113,114,115,116])]),
  (64,[(0,[0,1,2,6,7,8,9,10,11,12,13,14,15,16,17,18,19,20,21,22,23,24,25,26,27,28,29,30,31,32,33,34,35,36,37,38,39,40,41,42,43,44,45,46,47,48,49,50,51,52,53,54,55,56,57,58,59,60,61,62,63,64,65,66,67,68,69,70]),(2,[0,1,2,7,8,9,10,11,12,13,14,15,16,17,18,19,20,21,22,23,24,25,26,27,28,29,30,31,32,33,34,35,36,37,38,39,40,41,42,43,44,45,46,47,48,49,50,51,52,53,54,55,56,57,58,59,60,61,62,63,64,65,66,67,68,69,70]),(4,[0,1,2,8,9,10,11,12,13,14,15,16,17,18,19,20,21,22,23,24,25,26,27,28,29,30,31,32,33,34,35,36,37,38,39,40,41,42,43,44,45,46,47,48,49,50,51,52,53,54,55,56,57,58,59,60,61,62,63,64,65,66,67,68,69,70]),(6,[0,1,2,5,6,7,9,10,11,12,13,14,15,16,17,18,19,20,21,22,23,24,25,26,27,28,29,30,31,32,33,34,35,36,37,38,39,40,41,42,43,44,45,46,47,48,49,50,51,52,53,54,55,56,57,58,59,60,61,62,63,64,65,66,67,68,69,70])]),
  (66,[(0,[2,3,4,7,8,9,10,11,12,13,14,15,16,17,18,19,20,21,22,23,24,25,26,27,28,29,30])]),
  (69,[(0,[1,2,7,8,9,10,11,12,13,14,15,16,17,18,19,20,21,22,23,24,25,26,27,28,29,30,31,32,33,34,35,36,37,38,39,40,41,42,43])]),
  (70,[(0,[0,2,6,7,8,9,10,11,12,13,14,15,16,17,18,19,20,21,22,23,24,25,26,27,28,29,30,31,32,33,34,35,36,37]),(1000000,[1])]),
  (73,[(0,[0,2,3,7,8,9,10,11,12,13,14,15,16,17,18,19,20,21,22,23,24,25,26,27,28,29,30,31,32,33,34,35,36,37,38,39,40,41,42,43,44,45,46,47,48,49,50,51,52,53,54,55,56,57,58,59,60,61,62,63,64,65,66,67,68,69,70,71,72,73,74,75,76,77,78,79,80,81,82,83,84,85,86,87,88,89,90,91,92,93,94,95,96,97,98]),(2,[0,2,3,8,9,10,11,12,13,14,15,16,17,18,19,20,21,22,23,24,25,26,27,28,29,30,31,32,33,34,35,36,37,38,39,40,41,42,43,44,45,46,47,48,49,50,51,52,53,54,55,56,57,58,59,60,61,62,63,64,65,66,67,68,69,70,71,72,73,74,75,76,77,78,79,80,81,82,83,84,85,86,87,88,89,90,91,92,93,94,95,96,97,98])]),
  (74,[(1,[1,3,5,6,7,8,10,11,12,13,14,15,16,17,18,19,20,21,22,23,24,25,26,27,28,29,30,31,32,33,34,35,36,37,38,39,40,41,42,43,44,45,46,47,48,49,50,51,52,53,54,55,56,57,58,59,60,61,62,63,64,65,66])]),
  (75,[(0,[1,2,4,5,9,10,11,12,13,14,15,16,17,18,19,20,21,22,23,24,25,26,27,28,29,30,31,32,33,34,35,36,37,38,39,40,41,42,43,44,45,46,47,48,49,50,51,52,53,54,55,56,57,58,59,60,61,62,63,64,65,66,67,68,69,70,71,72,73,74,75,76,77,78,79,80,81,82,83,84,85,86,87,88,89,90,91,92,93,94,95,96,97,98,99,100,101,102,103,104,105,106,107,108,109,110,111,112,113,114,115,116,117,118,119,120,121,122,123,124,125,126,127,128])])]
noncomputable def cfs : List (Nat × CF) := [(3,c3),(4,c4),(5,c5),(6,c6),(7,c7),(8,c8),(9,c9),(10,c10),(11,c11),(12,c12),(13,c13),(14,c14),(15,c15),(16,c16),(17,c17),(18,c18),(19,c19),(20,c20),(21,c21),(22,c22),(23,c23),(24,c24),(25,c25),(26,c26),(27,c27),(28,c28),(29,c29),(30,c30),(31,c31),(32,c32),(33,c33),(34,c34),(35,c35),(36,c36),(37,c37),(38,c38),(39,c39),(40,c40),(41,c41),(42,c42),(43,c43),(44,c44),(45,c45),(46,c46),(47,c47),(48,c48),(49,c49),(50,c50),(51,c51),(52,c52),(53,c53),(54,c54),(55,c55),(56,c56),(57,c57),(58,c58),(59,c59),(60,c60),(61,c61),(62,c62),(63,c63),(64,c64),(65,c65),(66,c66),(67,c67),(68,c68),(69,c69),(70,c70),(71,c71),(72,c72),(73,c73),(74,c74),(75,c75)]
noncomputable def T : Tab := mkTab mds ans cfs
theorem k3 : compF Try.prog T.mode T.an 3 = some c3 := by kernel_rfl
theorem k4 : compF Try.prog T.mode T.an 4 = some c4 := by kernel_rfl
theorem k5 : compF Try.prog T.mode T.an 5 = some c5 := by kernel_rfl
theorem k6 : compF Try.prog T.mode T.an 6 = some c6 := by kernel_rfl
theorem k7 : compF Try.prog T.mode T.an 7 = some c7 := by kernel_rfl
theorem k8 : compF Try.prog T.mode T.an 8 = some c8 := by kernel_rfl
theorem k9 : compF Try.prog T.mode T.an 9 = some c9 := by kernel_rfl
theorem k10 : compF Try.prog T.mode T.an 10 = some c10 := by kernel_rfl
theorem k11 : compF Try.prog T.mode T.an 11 = some c11 := by kernel_rfl
theorem k12 : compF Try.prog T.mode T.an 12 = some c12 := by kernel_rfl
theorem k13 : compF Try.prog T.mode T.an 13 = some c13 := by kernel_rfl
theorem k14 : compF Try.prog T.mode T.an 14 = some c14 := by kernel_rfl
theorem k15 : compF Try.prog T.mode T.an 15 = some c15 := by kernel_rfl
theorem k16 : compF Try.prog T.mode T.an 16 = some c16 := by kernel_rfl
theorem k17 : compF Try.prog T.mode T.an 17 = some c17 := by kernel_rfl
theorem k18 : compF Try.prog T.mode T.an 18 = some c18 := by kernel_rfl
theorem k19 : compF Try.prog T.mode T.an 19 = some c19 := by kernel_rfl
theorem k20 : compF Try.prog T.mode T.an 20 = some c20 := by kernel_rfl
theorem k21 : compF Try.prog T.mode T.an 21 = some c21 := by kernel_rfl
theorem k22 : compF Try.prog T.mode T.an 22 = some c22 := by kernel_rfl
theorem k23 : compF Try.prog T.mode T.an 23 = some c23 := by kernel_rfl
theorem k24 : compF Try.prog T.mode T.an 24 = some c24 := by kernel_rfl
theorem k25 : compF Try.prog T.mode T.an 25 = some c25 := by kernel_rfl
theorem k26 : compF Try.prog T.mode T.an 26 = some c26 := by kernel_rfl
theorem k27 : compF Try.prog T.mode T.an 27 = some c27 := by kernel_rfl
theorem k28 : compF Try.prog T.mode T.an 28 = some c28 := by kernel_rfl
theorem k29 : compF Try.prog T.mode T.an 29 = some c29 := by kernel_rfl
theorem k30 : compF Try.prog T.mode T.an 30 = some c30 := by kernel_rfl
theorem k31 : compF Try.prog T.mode T.an 31 = some c31 := by kernel_rfl
theorem k32 : compF Try.prog T.mode T.an 32 = some c32 := by kernel_rfl
theorem k33 : compF Try.prog T.mode T.an 33 = some c33 := by kernel_rfl
theorem k34 : compF Try.prog T.mode T.an 34 = some c34 := by kernel_rfl
theorem k35 : compF Try.prog T.mode T.an 35 = some c35 := by kernel_rfl
theorem k36 : compF Try.prog T.mode T.an 36 = some c36 := by kernel_rfl
theorem k37 : compF Try.prog T.mode T.an 37 = some c37 := by kernel_rfl
theorem k38 : compF Try.prog T.mode T.an 38 = some c38 := by kernel_rfl
theorem k39 : compF Try.prog T.mode T.an 39 = some c39 := by kernel_rfl
theorem k40 : compF Try.prog T.mode T.an 40 = some c40 := by kernel_rfl
theorem k41 : compF Try.prog T.mode T.an 41 = some c41 := by kernel_rfl
theorem k42 : compF Try.prog T.mode T.an 42 = some c42 := by kernel_rfl
theorem k43 : compF Try.prog T.mode T.an 43 = some c43 := by kernel_rfl
theorem k44 : compF Try.prog T.mode T.an 44 = some c44 := by kernel_rfl
theorem k45 : compF Try.prog T.mode T.an 45 = some c45 := by kernel_rfl
theorem k46 : compF Try.prog T.mode T.an 46 = some c46 := by kernel_rfl
theorem k47 : compF Try.prog T.mode T.an 47 = some c47 := by kernel_rfl
theorem k48 : compF Try.prog T.mode T.an 48 = some c48 := by kernel_rfl
theorem k49 : compF Try.prog T.mode T.an 49 = some c49 := by kernel_rfl
theorem k50 : compF Try.prog T.mode T.an 50 = some c50 := by kernel_rfl
theorem k51 : compF Try.prog T.mode T.an 51 = some c51 := by kernel_rfl
theorem k52 : compF Try.prog T.mode T.an 52 = some c52 := by kernel_rfl
theorem k53 : compF Try.prog T.mode T.an 53 = some c53 := by kernel_rfl
theorem k54 : compF Try.prog T.mode T.an 54 = some c54 := by kernel_rfl
theorem k55 : compF Try.prog T.mode T.an 55 = some c55 := by kernel_rfl
theorem k56 : compF Try.prog T.mode T.an 56 = some c56 := by kernel_rfl
theorem k57 : compF Try.prog T.mode T.an 57 = some c57 := by kernel_rfl
theorem k58 : compF Try.prog T.mode T.an 58 = some c58 := by kernel_rfl
theorem k59 : compF Try.prog T.mode T.an 59 = some c59 := by kernel_rfl
theorem k60 : compF Try.prog T.mode T.an 60 = some c60 := by kernel_rfl
theorem k61 : compF Try.prog T.mode T.an 61 = some c61 := by kernel_rfl
theorem k62 : compF Try.prog T.mode T.an 62 = some c62 := by kernel_rfl
theorem k63 : compF Try.prog T.mode T.an 63 = some c63 := by kernel_rfl
theorem k64 : compF Try.prog T.mode T.an 64 = some c64 := by kernel_rfl
theorem k65 : compF Try.prog T.mode T.an 65 = some c65 := by kernel_rfl
theorem k66 : compF Try.prog T.mode T.an 66 = some c66 := by kernel_rfl
theorem k67 : compF Try.prog T.mode T.an 67 = some c67 := by kernel_rfl
theorem k68 : compF Try.prog T.mode T.an 68 = some c68 := by kernel_rfl
theorem k69 : compF Try.prog T.mode T.an 69 = some c69 := by kernel_rfl
theorem k70 : compF Try.prog T.mode T.an 70 = some c70 := by kernel_rfl
theorem k71 : compF Try.prog T.mode T.an 71 = some c71 := by kernel_rfl
theorem k72 : compF Try.prog T.mode T.an 72 = some c72 := by kernel_rfl
theorem k73 : compF Try.prog T.mode T.an 73 = some c73 := by kernel_rfl
theorem k74 : compF Try.prog T.mode T.an 74 = some c74 := by kernel_rfl
theorem k75 : compF Try.prog T.mode T.an 75 = some c75 := by kernel_rfl
theorem tOk : TOk Try.prog T := tok ⟨k3,k4,k5,k6,k7,k8,k9,k10,k11,k12,k13,k14,k15,k16,k17,k18,k19,k20,k21,k22,k23,k24,k25,k26,k27,k28,k29,k30,k31,k32,k33,k34,k35,k36,k37,k38,k39,k40,k41,k42,k43,k44,k45,k46,k47,k48,k49,k50,k51,k52,k53,k54,k55,k56,k57,k58,k59,k60,k61,k62,k63,k64,k65,k66,k67,k68,k69,k70,k71,k72,k73,k74,k75,trivial⟩
theorem t3 : T.cf 3 = some c3 := rfl
theorem t5 : T.cf 5 = some c5 := rfl
theorem t14 : T.cf 14 = some c14 := rfl
theorem t15 : T.cf 15 = some c15 := rfl
theorem t16 : T.cf 16 = some c16 := rfl
theorem t17 : T.cf 17 = some c17 := rfl
theorem t18 : T.cf 18 = some c18 := rfl
theorem t19 : T.cf 19 = some c19 := rfl
theorem t20 : T.cf 20 = some c20 := rfl
theorem t21 : T.cf 21 = some c21 := rfl
theorem t22 : T.cf 22 = some c22 := rfl
theorem t23 : T.cf 23 = some c23 := rfl
theorem t31 : T.cf 31 = some c31 := rfl
theorem t32 : T.cf 32 = some c32 := rfl
theorem t33 : T.cf 33 = some c33 := rfl
theorem t34 : T.cf 34 = some c34 := rfl
theorem t35 : T.cf 35 = some c35 := rfl
theorem t36 : T.cf 36 = some c36 := rfl
theorem t37 : T.cf 37 = some c37 := rfl
theorem t38 : T.cf 38 = some c38 := rfl
theorem t42 : T.cf 42 = some c42 := rfl
theorem t43 : T.cf 43 = some c43 := rfl
theorem t44 : T.cf 44 = some c44 := rfl
theorem t45 : T.cf 45 = some c45 := rfl
theorem t46 : T.cf 46 = some c46 := rfl
theorem t47 : T.cf 47 = some c47 := rfl
theorem t48 : T.cf 48 = some c48 := rfl
theorem t49 : T.cf 49 = some c49 := rfl
theorem t50 : T.cf 50 = some c50 := rfl
theorem t51 : T.cf 51 = some c51 := rfl
theorem t52 : T.cf 52 = some c52 := rfl
theorem t53 : T.cf 53 = some c53 := rfl
theorem t54 : T.cf 54 = some c54 := rfl
theorem t55 : T.cf 55 = some c55 := rfl
theorem t56 : T.cf 56 = some c56 := rfl
theorem t57 : T.cf 57 = some c57 := rfl
theorem t58 : T.cf 58 = some c58 := rfl
theorem t59 : T.cf 59 = some c59 := rfl
theorem t60 : T.cf 60 = some c60 := rfl
theorem t61 : T.cf 61 = some c61 := rfl
theorem t62 : T.cf 62 = some c62 := rfl
theorem t63 : T.cf 63 = some c63 := rfl
theorem t64 : T.cf 64 = some c64 := rfl
theorem t65 : T.cf 65 = some c65 := rfl
theorem t66 : T.cf 66 = some c66 := rfl
theorem t67 : T.cf 67 = some c67 := rfl
theorem t68 : T.cf 68 = some c68 := rfl
theorem t69 : T.cf 69 = some c69 := rfl
theorem t70 : T.cf 70 = some c70 := rfl
theorem t71 : T.cf 71 = some c71 := rfl
theorem t72 : T.cf 72 = some c72 := rfl
theorem t73 : T.cf 73 = some c73 := rfl
theorem t74 : T.cf 74 = some c74 := rfl
theorem t75 : T.cf 75 = some c75 := rfl
theorem mixed : Try.prog.follows .mixedOrders = true := by kernel_rfl
end Go.Proofs.Ytfncfdiomolieaa
end

section
set_option linter.unusedVariables false
set_option linter.unusedSimpArgs false
open Go.Proofs.Pe renaming putCells → qC, bslOf → qO, bsaOf → qA, bslS → qS, isUpto → qU, step → qT, intOf → qI, iop → qP, sop → qQ
open List renaming replicate → qR
open Go.Proofs.Pe.V renaming dead → qD
namespace Go.Proofs.Ytfncfdiomolieaa
open Go.Proofs.Pe

/-! ### Copies of expressions -/
theorem clone4 {v : V} {vs : List V} (hv : IsSl 4 v vs) (hk : okRow 4 vs) (hf : vs.all V.free = true) (hs : vs.length ≤ cap) : PAr Try.prog T 65 [v] 4 fun ws => ws = vs := by
  unfold cap at hs
  intro yi hy
  refine Call.step hy ?_
  rw [body_eq t65]
  rcases hv with ⟨rfl,hn⟩ | ⟨f,rfl⟩
  · simp only [c65,c65x1,c65x2,c65x3,RUA,RUB,RUC,RUD,RUE,RUF,if_true,if_false,Int.reduceEq,Int.reduceLT,Int.reduceLE,qC,qO,qA,qS,qU,Nat.reduceEqDiff,qT,E.at,qR,Nat.reduceAdd,Nat.reduceSub,Nat.reduceLeDiff,Nat.reduceMul,qI,qP,qQ]
    exact ⟨[],.inl ⟨rfl,rfl⟩,rfl,hn.symm⟩
  · by_cases h0 : vs = []
    · have ha : appOf 4 56 [] (.sl 4 true []) (.sl 4 f vs) = some (.sl 4 true [],[]) := ap_none (by rw [h0]; rfl) (.inl ⟨[],.inr ⟨_,rfl⟩⟩)
      simp only [c65,c65x1,c65x2,c65x3,RUA,RUB,RUC,RUD,RUE,RUF,if_true,if_false,Int.reduceEq,Int.reduceLT,Int.reduceLE,qC,qO,qA,qS,qU,Nat.reduceEqDiff,qT,E.at,qR,Nat.reduceAdd,Nat.reduceSub,Nat.reduceLeDiff,Nat.reduceMul,qI,qP,qQ,ha]
      exact ⟨[],.inr (.inl ⟨rfl,rfl⟩),rfl,h0.symm⟩
    · have ha : appOf 4 56 [] (.sl 4 true []) (.sl 4 f vs) = some (.ar 0 0,[] ++ [O.arr 0 true 4 ([] ++ vs)]) := ap_full rfl hk h0 (by simp [room]; omega)
      simp only [c65,c65x1,c65x2,c65x3,RUA,RUB,RUC,RUD,RUE,RUF,if_true,if_false,Int.reduceEq,Int.reduceLT,Int.reduceLE,qC,qO,qA,qS,qU,Nat.reduceEqDiff,qT,E.at,qR,Nat.reduceAdd,Nat.reduceSub,Nat.reduceLeDiff,Nat.reduceMul,qI,qP,qQ,ha]
      exact ⟨vs,.inr (.inr ⟨0,0,rfl,rfl⟩),hf,rfl⟩
theorem mapped4 {v : V} {vs : List V} {l : List Ex} (hv : IsSl 4 v vs) (hl : All2 IsEx l vs) (hs : vs.length ≤ cap)
    (hd : ∀ x,x ∈ l → ∀ u,IsEx x u → PFn Try.prog T 45 [u] (IsEx x)) : PAr Try.prog T 56 [v,.fn (.func 45) [] []] 4 fun ws => All2 IsEx l ws := by
  have hs' := hs
  unfold cap at hs
  have hlen := hl.len
  intro yi hy
  refine Call.step hy ?_
  rw [body_eq t56]
  simp only [c56,c56x1,c56x2,c56x3,RUA,RUB,RUC,RUD,RUE,RUF,if_true,if_false,Int.reduceEq,Int.reduceLT,Int.reduceLE,qC,qO,qA,qS,qU,Nat.reduceEqDiff,qT,E.at,qR,Nat.reduceAdd,Nat.reduceSub,Nat.reduceLeDiff,Nat.reduceMul,qI,qP,qQ,hv.row]
  refine Lfp.inv call_le hy (fun a : Nat × List O × V => ⟨⟨[.dead,.fn (.func 45) [] [],.dead,.dead,.dead,a.2.2,.dead,.dead,.dead,v,iV vs.length,iV a.1,.dead,.dead,.dead,.dead,.dead,.dead,.dead,.dead,.dead,.dead,.dead,.dead,.dead,.dead,.dead,.dead,.dead],a.2.1⟩,[]⟩) (fun a => vs.length - a.1)
    (fun a => a.1 ≤ vs.length ∧ ∃ ws A,RowAt a.2.1 4 a.2.2 ws A ∧ All2 IsEx (l.take a.1) ws) (0,[],nilV) ⟨Nat.zero_le _,[],[],.inl ⟨rfl,rfl,rfl⟩,rfl⟩ (by simp only [kill_L,killTs_nil,RUF] <;> rfl) ?_
  rintro ⟨i,o',out⟩ ⟨hi,ws,A,hr,hws⟩
  dsimp only at hi hr hws
  have hwl := hws.len
  by_cases hlt : i < vs.length
  · have hd1 : decide ((i : Int) < (vs.length : Int)) = true := by simpa using hlt
    have hx : vs[i]? = some vs[i] := List.getElem?_eq_getElem hlt
    have hlx : i < l.length := by omega
    have hxl : l[i]? = some l[i] := List.getElem?_eq_getElem hlx
    have hE := hl.get hx hxl
    have hE' := hE
    generalize hgv : vs[i] = u at hx hE hE'
    generalize hgx : l[i] = x at hxl hE hE'
    have hmem : x ∈ l := List.mem_of_getElem? hxl
    have hok := hE.ok
    rcases x with ⟨k,n,s,xl⟩
    obtain ⟨lv,us,rfl,he1,he2,he3⟩ := hE
    have hI := fun o => hv.ix o hx
    have hw1 : IntKind.i64.wrap ((i : Int) + 1) = ((i + 1 : Nat) : Int) := wrap_succ (by omega)
    have hone : lv.one = true := free1_one he1.free
    simp only [c56,c56x1,c56x2,c56x3,c56x4,c56x5,c56x6,c56x7,c56x8,c56x9,c56x10,RUA,RUB,RUC,RUD,RUE,RUF,if_true,if_false,Int.reduceEq,Int.reduceLT,Int.reduceLE,qC,qO,qA,qS,qU,Nat.reduceEqDiff,qT,E.at,qR,Nat.reduceAdd,Nat.reduceSub,Nat.reduceLeDiff,Nat.reduceMul,qI,qP,qQ,hd1,hI,hone]
    refine (hd _ hmem _ hE').callF rfl (by simpa using hok.1) fun z hz => ?_
    have hzk := hz.ok
    have hr' : RowAt (o' ++ [.cells [iV k,iV n,sV s,lv]]) 4 out ws A := hr.frm (.app _ _ []) (fun _ _ => by simp)
    obtain ⟨rv',o1,A2,ha,hr2,hfr,hA⟩ := hr'.push (b := 56) (f := true) (y := z) (okRow1 hzk) (by
      have : (l.take i).length ≤ l.length := by simp; omega
      unfold room; omega)
    simp only [c56,c56x1,c56x2,c56x3,c56x4,c56x5,c56x6,c56x7,c56x8,c56x9,c56x10,RUA,RUB,RUC,RUD,RUE,RUF,if_true,if_false,Int.reduceEq,Int.reduceLT,Int.reduceLE,qC,qO,qA,qS,qU,Nat.reduceEqDiff,qT,E.at,qR,Nat.reduceAdd,Nat.reduceSub,Nat.reduceLeDiff,Nat.reduceMul,qI,qP,qQ,hzk.1,hzk.2,get_set (get_new (l := [])),ha,hw1]
    refine ⟨(i + 1,o1,rv'),⟨by simp only; omega,_,A2,hr2, ?_⟩,by simp only; omega,rfl⟩
    simp only; rw [List.take_add_one,hxl]; exact hws.snoc hz
  · have hd1 : decide ((i : Int) < (vs.length : Int)) = false := by simpa using hlt
    have hi' : l.take i = l := List.take_of_length_le (by omega)
    rw [hi'] at hws
    have hwf := hws.free fun x v h => h.ok.1
    have hrow := hr.row
    obtain ⟨w,o1,hc,hw,hf⟩ : ∃ w o1,slcOf 4 o' out none (some (iV ws.length)) (some (iV ws.length)) = some (w,o1) ∧ IsSl 4 w ws ∧ True := by
      rcases hr with ⟨rfl,rfl,rfl⟩ | ⟨la,v,wr,rfl,h,rfl⟩
      · exact ⟨nilV,o',by simp [slcOf,freeze1,V.free1,boundV,intOf],.inl ⟨rfl,rfl⟩,trivial⟩
      · exact ⟨.sl 4 true ws,o'.set la (O.arr v false 4 ws),by simp [slcOf,freeze1,h,hwf,boundV,intOf],.inr ⟨_,rfl⟩,trivial⟩
    simp only [c56,c56x1,c56x2,c56x3,c56x4,c56x5,c56x6,c56x7,c56x8,c56x9,c56x10,RUA,RUB,RUC,RUD,RUE,RUF,if_true,if_false,Int.reduceEq,Int.reduceLT,Int.reduceLE,qC,qO,qA,qS,qU,Nat.reduceEqDiff,qT,E.at,qR,Nat.reduceAdd,Nat.reduceSub,Nat.reduceLeDiff,Nat.reduceMul,qI,qP,qQ,hd1,hrow,hc]
    refine (clone4 hw (hws.okRow fun x v h => h.ok) hwf (by rw [hwl,hi']; unfold cap; omega)).callF rfl (by simpa using hw.freeV) fun z ext ws' hq hfz hz hl => ?_
    subst hq
    exact ⟨ws',hz,hwf,hws⟩
theorem ownEx : ∀ (x : Ex) {u : V},IsEx x u → PFn Try.prog T 45 [u] (IsEx x)
  | .mk k n nm l,u,h => by
    obtain ⟨lv,vs,rfl,h1,h2,h3⟩ := h
    rw [isExs_all] at h3
    have ih : ∀ x,x ∈ l → ∀ u,IsEx x u → PFn Try.prog T 45 [u] (IsEx x) := fun y hx u hu => ownEx y hu
    intro yi hy
    refine Call.step hy ?_
    rw [body_eq t45]
    have hone : lv.one = true := free1_one h1.free
    simp only [c45,c45x1,c45x2,RUA,RUB,RUC,RUD,RUE,RUF,if_true,if_false,Int.reduceEq,Int.reduceLT,Int.reduceLE,qC,qO,qA,qS,qU,Nat.reduceEqDiff,qT,E.at,qR,Nat.reduceAdd,Nat.reduceSub,Nat.reduceLeDiff,Nat.reduceMul,qI,qP,qQ,hone]
    refine (mapped4 h1 h3 h2 ih).callF rfl (fun x hx => by simp only [List.mem_cons,List.not_mem_nil,or_false] at hx; rcases hx with rfl | rfl <;> first | exact h1.freeV | rfl) fun z ext ws hq hfz hz hl => ?_
    obtain ⟨hz1,hz2,hz3⟩ := hz.solid
    simp only [c45,c45x1,c45x2,RUA,RUB,RUC,RUD,RUE,RUF,if_true,if_false,Int.reduceEq,Int.reduceLT,Int.reduceLE,qC,qO,qA,qS,qU,Nat.reduceEqDiff,qT,E.at,qR,Nat.reduceAdd,Nat.reduceSub,Nat.reduceLeDiff,Nat.reduceMul,qI,qP,qQ,hz1,hz2,hz3,putCells]
    have hz' : Fresh z (O.cells [iV k,iV n,sV nm,z] :: O.cells [iV k,iV n,sV nm,z] :: ext) 4 ws := by
      rcases hz with h | h | ⟨l',v',rfl,h⟩
      · exact .inl h
      · exact .inr (.inl h)
      · have : l' = 2 := hl _ _ rfl
        subst this
        exact .inr (.inr ⟨2,v',rfl,by simpa using h⟩)
    obtain ⟨w,o1,hf1,hw,_⟩ := hz'.frz hfz
    refine ⟨.agg [iV k,iV n,sV nm,w],o1, ?_,w,ws,rfl,hw,by rw [hq.len]; rw [← h3.len]; exact h2,isExs_all.2 hq⟩
    show (freezes _ [iV k,iV n,sV nm,z]).map _ = _
    rw [frzs_cons frz1_sc,frzs_cons frz1_sc,frzs_cons frz1_sc,frzs_cons hf1,frzs_nil]; rfl
termination_by y => SizeOf.sizeOf y
decreasing_by have := List.sizeOf_lt_of_mem hx; simp; omega
end Go.Proofs.Ytfncfdiomolieaa
end

section
set_option linter.unusedVariables false
set_option linter.unusedSimpArgs false
open Go.Proofs.Pe renaming putCells → qC, bslOf → qO, bsaOf → qA, bslS → qS, isUpto → qU, step → qT, intOf → qI, iop → qP, sop → qQ
open List renaming replicate → qR
open Go.Proofs.Pe.V renaming dead → qD
namespace Go.Proofs.Ytfncfdiomolieaa
open Go.Proofs.Pe

/-! ### Copies of processes -/
theorem clone9 {v : V} {vs : List V} (hv : IsSl 9 v vs) (hk : okRow 9 vs) (hf : vs.all V.free = true) (hs : vs.length ≤ cap) : PAr Try.prog T 55 [v] 9 fun ws => ws = vs := by
  unfold cap at hs
  intro yi hy
  refine Call.step hy ?_
  rw [body_eq t55]
  rcases hv with ⟨rfl,hn⟩ | ⟨f,rfl⟩
  · simp only [c55,c55x1,c55x2,c55x3,RUA,RUB,RUC,RUD,RUE,RUF,if_true,if_false,Int.reduceEq,Int.reduceLT,Int.reduceLE,qC,qO,qA,qS,qU,Nat.reduceEqDiff,qT,E.at,qR,Nat.reduceAdd,Nat.reduceSub,Nat.reduceLeDiff,Nat.reduceMul,qI,qP,qQ]
    exact ⟨[],.inl ⟨rfl,rfl⟩,rfl,hn.symm⟩
  · by_cases h0 : vs = []
    · have ha : appOf 9 120 [] (.sl 9 true []) (.sl 9 f vs) = some (.sl 9 true [],[]) := ap_none (by rw [h0]; rfl) (.inl ⟨[],.inr ⟨_,rfl⟩⟩)
      simp only [c55,c55x1,c55x2,c55x3,RUA,RUB,RUC,RUD,RUE,RUF,if_true,if_false,Int.reduceEq,Int.reduceLT,Int.reduceLE,qC,qO,qA,qS,qU,Nat.reduceEqDiff,qT,E.at,qR,Nat.reduceAdd,Nat.reduceSub,Nat.reduceLeDiff,Nat.reduceMul,qI,qP,qQ,ha]
      exact ⟨[],.inr (.inl ⟨rfl,rfl⟩),rfl,h0.symm⟩
    · have ha : appOf 9 120 [] (.sl 9 true []) (.sl 9 f vs) = some (.ar 0 0,[] ++ [O.arr 0 true 9 ([] ++ vs)]) := ap_full rfl hk h0 (by simp [room]; omega)
      simp only [c55,c55x1,c55x2,c55x3,RUA,RUB,RUC,RUD,RUE,RUF,if_true,if_false,Int.reduceEq,Int.reduceLT,Int.reduceLE,qC,qO,qA,qS,qU,Nat.reduceEqDiff,qT,E.at,qR,Nat.reduceAdd,Nat.reduceSub,Nat.reduceLeDiff,Nat.reduceMul,qI,qP,qQ,ha]
      exact ⟨vs,.inr (.inr ⟨0,0,rfl,rfl⟩),hf,rfl⟩
theorem mapped9 {v : V} {vs : List V} {l : List Tm} (hv : IsSl 9 v vs) (hl : All2 IsTm l vs) (hs : vs.length ≤ cap)
    (hd : ∀ x,x ∈ l → ∀ u,IsTm x u → PFn Try.prog T 33 [u] (IsTm x)) : PAr Try.prog T 44 [v,.fn (.func 33) [] []] 9 fun ws => All2 IsTm l ws := by
  have hs' := hs
  unfold cap at hs
  have hlen := hl.len
  intro yi hy
  refine Call.step hy ?_
  rw [body_eq t44]
  simp only [c44,c44x1,c44x2,c44x3,RUA,RUB,RUC,RUD,RUE,RUF,if_true,if_false,Int.reduceEq,Int.reduceLT,Int.reduceLE,qC,qO,qA,qS,qU,Nat.reduceEqDiff,qT,E.at,qR,Nat.reduceAdd,Nat.reduceSub,Nat.reduceLeDiff,Nat.reduceMul,qI,qP,qQ,hv.row]
  refine Lfp.inv call_le hy (fun a : Nat × List O × V => ⟨⟨[.dead,.fn (.func 33) [] [],.dead,.dead,.dead,a.2.2,.dead,.dead,.dead,v,iV vs.length,iV a.1,.dead,.dead,.dead,.dead,.dead,.dead,.dead,.dead,.dead,.dead,.dead,.dead,.dead,.dead,.dead,.dead,.dead],a.2.1⟩,[]⟩) (fun a => vs.length - a.1)
    (fun a => a.1 ≤ vs.length ∧ ∃ ws A,RowAt a.2.1 9 a.2.2 ws A ∧ All2 IsTm (l.take a.1) ws) (0,[],nilV) ⟨Nat.zero_le _,[],[],.inl ⟨rfl,rfl,rfl⟩,rfl⟩ (by simp only [kill_L,killTs_nil,RUF] <;> rfl) ?_
  rintro ⟨i,o',out⟩ ⟨hi,ws,A,hr,hws⟩
  dsimp only at hi hr hws
  have hwl := hws.len
  by_cases hlt : i < vs.length
  · have hd1 : decide ((i : Int) < (vs.length : Int)) = true := by simpa using hlt
    have hx : vs[i]? = some vs[i] := List.getElem?_eq_getElem hlt
    have hlx : i < l.length := by omega
    have hxl : l[i]? = some l[i] := List.getElem?_eq_getElem hlx
    have hE := hl.get hx hxl
    have hE' := hE
    generalize hgv : vs[i] = u at hx hE hE'
    generalize hgx : l[i] = x at hxl hE hE'
    have hmem : x ∈ l := List.mem_of_getElem? hxl
    have hok := hE.ok
    rcases x with ⟨k,a,b,s,⟨ek,en,em,el⟩,xl⟩
    obtain ⟨ev,evs,lv,us,rfl,he0,_,_,he1,he2,he3⟩ := hE
    have hone0 : ev.one = true := free1_one he0.free
    have hI := fun o => hv.ix o hx
    have hw1 : IntKind.i64.wrap ((i : Int) + 1) = ((i + 1 : Nat) : Int) := wrap_succ (by omega)
    have hone : lv.one = true := free1_one he1.free
    simp only [c44,c44x1,c44x2,c44x3,c44x4,c44x5,c44x6,c44x7,c44x8,c44x9,c44x10,RUA,RUB,RUC,RUD,RUE,RUF,if_true,if_false,Int.reduceEq,Int.reduceLT,Int.reduceLE,qC,qO,qA,qS,qU,Nat.reduceEqDiff,qT,E.at,qR,Nat.reduceAdd,Nat.reduceSub,Nat.reduceLeDiff,Nat.reduceMul,qI,qP,qQ,hd1,hI,hone,hone0]
    refine (hd _ hmem _ hE').callF rfl (by simpa using hok.1) fun z hz => ?_
    have hzk := hz.ok
    have hr' : RowAt (o' ++ [.cells [iV k,iV a,iV b,sV s,iV ek,iV en,sV em,ev,lv]]) 9 out ws A := hr.frm (.app _ _ []) (fun _ _ => by simp)
    obtain ⟨rv',o1,A2,ha,hr2,hfr,hA⟩ := hr'.push (b := 120) (f := true) (y := z) (okRow1 hzk) (by
      have : (l.take i).length ≤ l.length := by simp; omega
      unfold room; omega)
    simp only [c44,c44x1,c44x2,c44x3,c44x4,c44x5,c44x6,c44x7,c44x8,c44x9,c44x10,RUA,RUB,RUC,RUD,RUE,RUF,if_true,if_false,Int.reduceEq,Int.reduceLT,Int.reduceLE,qC,qO,qA,qS,qU,Nat.reduceEqDiff,qT,E.at,qR,Nat.reduceAdd,Nat.reduceSub,Nat.reduceLeDiff,Nat.reduceMul,qI,qP,qQ,hzk.1,hzk.2,get_set (get_new (l := [])),ha,hw1]
    refine ⟨(i + 1,o1,rv'),⟨by simp only; omega,_,A2,hr2, ?_⟩,by simp only; omega,rfl⟩
    simp only; rw [List.take_add_one,hxl]; exact hws.snoc hz
  · have hd1 : decide ((i : Int) < (vs.length : Int)) = false := by simpa using hlt
    have hi' : l.take i = l := List.take_of_length_le (by omega)
    rw [hi'] at hws
    have hwf := hws.free fun x v h => h.ok.1
    have hrow := hr.row
    obtain ⟨w,o1,hc,hw,hf⟩ : ∃ w o1,slcOf 9 o' out none (some (iV ws.length)) (some (iV ws.length)) = some (w,o1) ∧ IsSl 9 w ws ∧ True := by
      rcases hr with ⟨rfl,rfl,rfl⟩ | ⟨la,v,wr,rfl,h,rfl⟩
      · exact ⟨nilV,o',by simp [slcOf,freeze1,V.free1,boundV,intOf],.inl ⟨rfl,rfl⟩,trivial⟩
      · exact ⟨.sl 9 true ws,o'.set la (O.arr v false 9 ws),by simp [slcOf,freeze1,h,hwf,boundV,intOf],.inr ⟨_,rfl⟩,trivial⟩
    simp only [c44,c44x1,c44x2,c44x3,c44x4,c44x5,c44x6,c44x7,c44x8,c44x9,c44x10,RUA,RUB,RUC,RUD,RUE,RUF,if_true,if_false,Int.reduceEq,Int.reduceLT,Int.reduceLE,qC,qO,qA,qS,qU,Nat.reduceEqDiff,qT,E.at,qR,Nat.reduceAdd,Nat.reduceSub,Nat.reduceLeDiff,Nat.reduceMul,qI,qP,qQ,hd1,hrow,hc]
    refine (clone9 hw (hws.okRow fun x v h => h.ok) hwf (by rw [hwl,hi']; unfold cap; omega)).callF rfl (by simpa using hw.freeV) fun z ext ws' hq hfz hz hl => ?_
    subst hq
    exact ⟨ws',hz,hwf,hws⟩
theorem ownTm : ∀ (x : Tm) {u : V},IsTm x u → PFn Try.prog T 33 [u] (IsTm x)
  | .mk k a b nm (.mk ek en em el) l,u,h => by
    obtain ⟨ev,evs,lv,vs,rfl,e1,e2,e3,h1,h2,h3⟩ := h
    rw [isTms_all] at h3
    have ih : ∀ x,x ∈ l → ∀ u,IsTm x u → PFn Try.prog T 33 [u] (IsTm x) := fun y hx u hu => ownTm y hu
    have hE : IsEx (.mk ek en em el) (.agg [iV ek,iV en,sV em,ev]) := ⟨ev,evs,rfl,e1,e2,e3⟩
    intro yi hy
    refine Call.step hy ?_
    rw [body_eq t33]
    have hone : lv.one = true := free1_one h1.free
    have hone0 : ev.one = true := free1_one e1.free
    simp only [c33,c33x1,c33x2,RUA,RUB,RUC,RUD,RUE,RUF,if_true,if_false,Int.reduceEq,Int.reduceLT,Int.reduceLE,qC,qO,qA,qS,qU,Nat.reduceEqDiff,qT,E.at,qR,Nat.reduceAdd,Nat.reduceSub,Nat.reduceLeDiff,Nat.reduceMul,qI,qP,qQ,hone,hone0,List.drop_succ_cons]
    refine (ownEx _ hE).callF rfl (by simpa using hE.ok.1) fun z hz => ?_
    obtain ⟨ev',evs',rfl,f1,f2,f3⟩ := hz
    have hone1 : ev'.one = true := free1_one f1.free
    simp only [c33,c33x1,c33x2,RUA,RUB,RUC,RUD,RUE,RUF,if_true,if_false,Int.reduceEq,Int.reduceLT,Int.reduceLE,qC,qO,qA,qS,qU,Nat.reduceEqDiff,qT,E.at,qR,Nat.reduceAdd,Nat.reduceSub,Nat.reduceLeDiff,Nat.reduceMul,qI,qP,qQ]
    refine (mapped9 h1 h3 h2 ih).callF rfl (fun x hx => by simp only [List.mem_cons,List.not_mem_nil,or_false] at hx; rcases hx with rfl | rfl <;> first | exact h1.freeV | rfl) fun z ext ws hq hfz hz hl => ?_
    obtain ⟨hz1,hz2,hz3⟩ := hz.solid
    simp only [c33,c33x1,c33x2,RUA,RUB,RUC,RUD,RUE,RUF,if_true,if_false,Int.reduceEq,Int.reduceLT,Int.reduceLE,qC,qO,qA,qS,qU,Nat.reduceEqDiff,qT,E.at,qR,Nat.reduceAdd,Nat.reduceSub,Nat.reduceLeDiff,Nat.reduceMul,qI,qP,qQ,hz1,hz2,hz3,hone1]
    have hz' : Fresh z (O.cells [iV k,iV a,iV b,sV nm,iV ek,iV en,sV em,ev',z] :: O.cells [iV k,iV a,iV b,sV nm,iV ek,iV en,sV em,ev',z] :: ext) 9 ws := by
      rcases hz with h | h | ⟨l',v',rfl,h⟩
      · exact .inl h
      · exact .inr (.inl h)
      · have : l' = 2 := hl _ _ rfl
        subst this
        exact .inr (.inr ⟨2,v',rfl,by simpa using h⟩)
    obtain ⟨w,o1,hf1,hw,_⟩ := hz'.frz hfz
    refine ⟨.agg [iV k,iV a,iV b,sV nm,iV ek,iV en,sV em,ev',w],o1, ?_,ev',evs',w,ws,rfl,f1,f2,f3,hw,by rw [hq.len]; rw [← h3.len]; exact h2,isTms_all.2 hq⟩
    show (freezes _ [iV k,iV a,iV b,sV nm,iV ek,iV en,sV em,ev',z]).map _ = _
    rw [frzs_cons frz1_sc,frzs_cons frz1_sc,frzs_cons frz1_sc,frzs_cons frz1_sc,frzs_cons frz1_sc,frzs_cons frz1_sc,frzs_cons frz1_sc,frzs_cons (f1.frz1 _),frzs_cons hf1,frzs_nil]; rfl
termination_by y => SizeOf.sizeOf y
decreasing_by have := List.sizeOf_lt_of_mem hx; simp; omega
end Go.Proofs.Ytfncfdiomolieaa
end

section
set_option linter.unusedVariables false
set_option linter.unusedSimpArgs false
open Go.Proofs.Pe renaming putCells → qC, bslOf → qO, bsaOf → qA, bslS → qS, isUpto → qU, step → qT, intOf → qI, iop → qP, sop → qQ
open List renaming replicate → qR
open Go.Proofs.Pe.V renaming dead → qD
namespace Go.Proofs.Ytfncfdiomolieaa
open Go.Proofs.Pe

/-! ### Stacks -/
def IsRow (ts : List Tm) (v : V) : Prop := ∃ vs,IsSl 9 v vs ∧ vs.length ≤ cap ∧ All2 IsTm ts vs
theorem IsRow.ok {ts : List Tm} {v : V} (h : IsRow ts v) : v.free = true ∧ v.cells.length = 1 := by
  obtain ⟨vs,h1,_⟩ := h
  exact ⟨h1.freeV,by rw [h1.cells]; rfl⟩
structure Nest (o : List O) (ws : List V) (S : List (List Tm)) (lo : Nat) : Prop where
  len : ws.length = S.length
  row : ∀ (i : Nat) (w : V) (ts : List Tm),ws[i]? = some w → S[i]? = some ts → ∃ vs,Fresh w o 9 vs ∧ vs.length ≤ cap ∧ All2 IsTm ts vs
  inj : ∀ (i j l v v' : Nat),ws[i]? = some (.ar l v) → ws[j]? = some (.ar l v') → i = j
  lo : ∀ (i l v : Nat),ws[i]? = some (.ar l v) → lo ≤ l
def NestAt (z : V) (o : List O) (S : List (List Tm)) (lo : Nat) : Prop :=
  (z = nilV ∧ S = []) ∨ ∃ L v ws,z = .ar L v ∧ o[L]? = some (.arr v true 1 ws) ∧ Nest o ws S lo ∧ lo ≤ L ∧ ws ≠ []
theorem Nest.okRowS {o : List O} {ws : List V} {S : List (List Tm)} {lo : Nat} (h : Nest o ws S lo) : okRowS 1 ws := by
  unfold Pe.okRowS
  simp only [List.all_eq_true,Bool.and_eq_true,decide_eq_true_eq]
  intro w hw
  obtain ⟨i,hi⟩ := List.getElem?_of_mem hw
  have hlt := (List.getElem?_eq_some_iff.1 hi).1
  have hlt2 : i < S.length := by rw [← h.len]; exact hlt
  obtain ⟨vs,h1,_⟩ := h.row i w S[i] hi (List.getElem?_eq_getElem hlt2)
  exact ⟨h1.solid.1,by rw [h1.solid.2.1]; rfl⟩
theorem Nest.app {o : List O} {ws : List V} {S : List (List Tm)} {lo : Nat} (h : Nest o ws S lo) (l : List O) : Nest (o ++ l) ws S lo :=
  ⟨h.len,fun i w ts hw hs => by obtain ⟨vs,h1,h2⟩ := h.row i w ts hw hs; exact ⟨vs,h1.app l,h2⟩,h.inj,h.lo⟩
theorem Nest.setNe {o : List O} {ws : List V} {S : List (List Tm)} {lo L v k' : Nat} {wr : Bool} {xs : List V} {b : O} (h : Nest o ws S lo) (hL : o[L]? = some (.arr v wr k' xs)) (hk : k' ≠ 9) : Nest (o.set L b) ws S lo :=
  ⟨h.len,fun i w ts hw hs => by obtain ⟨vs,h1,h2⟩ := h.row i w ts hw hs; exact ⟨vs,h1.setNe hL hk,h2⟩,h.inj,h.lo⟩
theorem Nest.nil {o : List O} {lo : Nat} : Nest o [] [] lo := ⟨rfl,fun i w ts h => by simp at h,fun i j l v v' h => by simp at h,fun i l v h => by simp at h⟩
theorem Nest.bound {o : List O} {ws : List V} {S : List (List Tm)} {lo : Nat} (h : Nest o ws S lo) {i l v : Nat} (hw : ws[i]? = some (.ar l v)) : l < o.length := by
  have hlt := (List.getElem?_eq_some_iff.1 hw).1
  have hlt2 : i < S.length := by rw [← h.len]; exact hlt
  obtain ⟨vs,h1,_⟩ := h.row i _ S[i] hw (List.getElem?_eq_getElem hlt2)
  rcases h1 with ⟨e,_⟩ | ⟨e,_⟩ | ⟨l',v',e,h⟩
  · cases e
  · cases e
  · cases e; exact get_lt h
theorem Nest.snoc {o : List O} {ws : List V} {S : List (List Tm)} {lo n : Nat} {w : V} {ts : List Tm} {vs : List V} (h : Nest o ws S lo) (hw : Fresh w o 9 vs) (hc : vs.length ≤ cap) (ht : All2 IsTm ts vs)
    (hn : ∀ (l v : Nat),w = V.ar l v → l = n) (hnew : ∀ (i l v : Nat),ws[i]? = some (V.ar l v) → l < n) (hlo : lo ≤ n) : Nest o (ws ++ [w]) (S ++ [ts]) lo := by
  have hl := h.len
  have split : ∀ (i : Nat) (u : V),(ws ++ [w])[i]? = some u → (i < ws.length ∧ ws[i]? = some u) ∨ (i = ws.length ∧ u = w) := fun i u hu => by
    by_cases hi : i < ws.length
    · rw [List.getElem?_append_left hi] at hu; exact .inl ⟨hi,hu⟩
    · have := (List.getElem?_eq_some_iff.1 hu).1
      have e : i = ws.length := by simp at this; omega
      subst e; simp at hu; exact .inr ⟨rfl,hu.symm⟩
  refine ⟨by simp [hl],fun i u ts' hu hs => ?_,fun i j l v v' hi hj => ?_,fun i l v hi => ?_⟩
  · rcases split i u hu with ⟨hi,hu⟩ | ⟨rfl,rfl⟩
    · rw [List.getElem?_append_left (by omega)] at hs
      exact h.row i u ts' hu hs
    · rw [hl] at hs; simp at hs; subst hs; exact ⟨vs,hw,hc,ht⟩
  · rcases split i _ hi with ⟨hi1,hi2⟩ | ⟨rfl,e⟩ <;> rcases split j _ hj with ⟨hj1,hj2⟩ | ⟨rfl,e'⟩
    · exact h.inj i j l v v' hi2 hj2
    · have := hn _ _ e'.symm; have := hnew _ _ _ hi2; omega
    · have := hn _ _ e.symm; have := hnew _ _ _ hj2; omega
    · rfl
  · rcases split i _ hi with ⟨hi1,hi2⟩ | ⟨rfl,e⟩
    · exact h.lo i l v hi2
    · have := hn _ _ e.symm; omega

theorem own1 {v : V} {vs : List V} {l : List Tm} (hv : IsSl 9 v vs) (hl : All2 IsTm l vs) (hs : vs.length ≤ cap) : PAr Try.prog T 43 [v] 9 fun ws => All2 IsTm l ws := by
  intro yi hy
  refine Call.step hy ?_
  rw [body_eq t43]
  simp only [c43,c43x1,RUA,RUB,RUC,RUD,RUE,RUF,if_true,if_false,Int.reduceEq,Int.reduceLT,Int.reduceLE,qC,qO,qA,qS,qU,Nat.reduceEqDiff,qT,E.at,qR,Nat.reduceAdd,Nat.reduceSub,Nat.reduceLeDiff,Nat.reduceMul,qI,qP,qQ]
  refine (mapped9 hv hl hs fun x _ u hu => ownTm x hu).callF rfl (fun x hx => by simp only [List.mem_cons,List.not_mem_nil,or_false] at hx; rcases hx with rfl | rfl <;> first | exact hv.freeV | rfl) fun z ext ws hq hfz hz hl => ?_
  exact ⟨ws,hz,hfz,hq⟩

section
variable {o : List O} {yi : Nat → Sem'} {K : V → List O → Prop}
theorem cloneN {x : V} {ws : List V} (hx : (x = nilV ∧ ws = []) ∨ (x.cells = [x] ∧ rowOf o x = some ws ∧ ws ≠ [] ∧ ((∃ f,x = .sl 1 f ws) ∨ ∃ l v a n,x = .vw l v a n))) (hk : okRowS 1 ws) (hs : ws.length ≤ cap) (hy : YLe yi yi)
    (hK : ∀ z o',(z = nilV ∧ ws = [] ∧ o' = o) ∨ (z = .ar o.length 0 ∧ o' = o ++ [.arr 0 true 1 ws] ∧ ws ≠ []) → K z o') : Pe.Call Try.prog T yi 54 [x] o K := by
  unfold cap at hs
  refine Call.step hy ?_
  rw [body_eq t54]
  rcases hx with ⟨rfl,hn⟩ | ⟨_,hrow,h0,hx⟩
  · simp only [c54,c54x1,c54x2,c54x3,RUA,RUB,RUC,RUD,RUE,RUF,if_true,if_false,Int.reduceEq,Int.reduceLT,Int.reduceLE,qC,qO,qA,qS,qU,Nat.reduceEqDiff,qT,E.at,qR,Nat.reduceAdd,Nat.reduceSub,Nat.reduceLeDiff,Nat.reduceMul,qI,qP,qQ]
    exact hK _ _ (.inl ⟨rfl,hn,rfl⟩)
  · have ha : appOf 1 24 o (.sl 1 true []) x = some (.ar o.length 0,o ++ [O.arr 0 true 1 ([] ++ ws)]) := aps_full hrow hk h0 (by simp [room]; omega)
    rcases hx with ⟨f,rfl⟩ | ⟨l,v,a,n,rfl⟩
    · simp only [c54,c54x1,c54x2,c54x3,RUA,RUB,RUC,RUD,RUE,RUF,if_true,if_false,Int.reduceEq,Int.reduceLT,Int.reduceLE,qC,qO,qA,qS,qU,Nat.reduceEqDiff,qT,E.at,qR,Nat.reduceAdd,Nat.reduceSub,Nat.reduceLeDiff,Nat.reduceMul,qI,qP,qQ,ha]
      exact hK _ _ (.inr ⟨rfl,rfl,h0⟩)
    · simp only [c54,c54x1,c54x2,c54x3,RUA,RUB,RUC,RUD,RUE,RUF,if_true,if_false,Int.reduceEq,Int.reduceLT,Int.reduceLE,qC,qO,qA,qS,qU,Nat.reduceEqDiff,qT,E.at,qR,Nat.reduceAdd,Nat.reduceSub,Nat.reduceLeDiff,Nat.reduceMul,qI,qP,qQ,ha]
      exact hK _ _ (.inr ⟨rfl,rfl,h0⟩)
theorem mappedN {v : V} {rows : List V} {S : List (List Tm)} (hv : IsSl 1 v rows) (hS : All2 IsRow S rows) (hs : rows.length ≤ cap) (hy : YLe yi yi)
    (hK : ∀ z o',Frm o o' [] → NestAt z o' S o.length → K z o') : Pe.Call Try.prog T yi 42 [v,.fn (.func 43) [] []] o K := by
  have hlen := hS.len
  have hs' := hs
  unfold cap at hs
  refine Call.step hy ?_
  rw [body_eq t42]
  simp only [c42,c42x1,c42x2,c42x3,RUA,RUB,RUC,RUD,RUE,RUF,if_true,if_false,Int.reduceEq,Int.reduceLT,Int.reduceLE,qC,qO,qA,qS,qU,Nat.reduceEqDiff,qT,E.at,qR,Nat.reduceAdd,Nat.reduceSub,Nat.reduceLeDiff,Nat.reduceMul,qI,qP,qQ,hv.row]
  refine Lfp.inv call_le hy (fun a : Nat × List O × V => ⟨⟨[.dead,.fn (.func 43) [] [],.dead,.dead,.dead,a.2.2,.dead,.dead,.dead,v,iV rows.length,iV a.1,.dead,.dead,.dead,.dead,.dead,.dead,.dead,.dead,.dead,.dead,.dead,.dead,.dead,.dead,.dead,.dead,.dead],a.2.1⟩,[]⟩) (fun a => rows.length - a.1)
    (fun a => a.1 ≤ rows.length ∧ Frm o a.2.1 [] ∧ NestAt a.2.2 a.2.1 (S.take a.1) o.length) (0,o,nilV) ⟨Nat.zero_le _,.refl _ _,.inl ⟨rfl,rfl⟩⟩ (by simp only [kill_L,killTs_nil,RUF] <;> rfl) ?_
  rintro ⟨i,o',out⟩ ⟨hi,hfo,hN⟩
  dsimp only at hi hfo hN
  by_cases hlt : i < rows.length
  · have hd1 : decide ((i : Int) < (rows.length : Int)) = true := by simpa using hlt
    have hx : rows[i]? = some rows[i] := List.getElem?_eq_getElem hlt
    have hlx : i < S.length := by omega
    have hxl : S[i]? = some S[i] := List.getElem?_eq_getElem hlx
    obtain ⟨vs,r1,r2,r3⟩ := hS.get hx hxl
    have hI := fun o => hv.ix o hx
    have hC := r1.cells
    have hw1 : IntKind.i64.wrap ((i : Int) + 1) = ((i + 1 : Nat) : Int) := wrap_succ (by omega)
    simp only [c42,c42x1,c42x2,c42x3,c42x4,c42x5,c42x6,c42x7,c42x8,c42x9,c42x10,RUA,RUB,RUC,RUD,RUE,RUF,if_true,if_false,Int.reduceEq,Int.reduceLT,Int.reduceLE,qC,qO,qA,qS,qU,Nat.reduceEqDiff,qT,E.at,qR,Nat.reduceAdd,Nat.reduceSub,Nat.reduceLeDiff,Nat.reduceMul,qI,qP,qQ,hd1,hI,hC]
    refine (own1 r1 r3 r2).callF rfl (by simpa using r1.freeV) fun z ext ws hq hfz hz hl => ?_
    obtain ⟨hz1,hz2,hz3⟩ := hz.solid
    have hzc : decide (z.cells.length = 1) = true := by rw [hz2]; rfl
    have hwc : ws.length ≤ cap := by rw [hq.len,← r3.len]; exact r2
    have hob : ((z.free && decide (z.cells.length = 1)) || (z.solid && decide (z.cells.length = 1))) = true := by rw [hzc,hz1]; simp
    simp only [c42,c42x1,c42x2,c42x3,c42x4,c42x5,c42x6,c42x7,c42x8,c42x9,c42x10,RUA,RUB,RUC,RUD,RUE,RUF,if_true,if_false,Int.reduceEq,Int.reduceLT,Int.reduceLE,qC,qO,qA,qS,qU,Nat.reduceEqDiff,qT,E.at,qR,Nat.reduceAdd,Nat.reduceSub,Nat.reduceLeDiff,Nat.reduceMul,qI,qP,qQ,hz1,hzc,Bool.or_true,Bool.true_or]
    have hrow : rowOf (o' ++ ext ++ [O.arr 0 true 1 [z]]) (.ar (o' ++ ext).length 0) = some [z] := by simp only [rowOf,get_new,if_true]
    have hkz : okRowS 1 [z] := by simp [Pe.okRowS,hz1,hz2]
    have hn0 : ∀ {ws' : List V},Nest o' ws' (S.take i) o.length → Nest (o' ++ ext ++ [O.arr 0 true 1 [z]]) (ws' ++ [z]) (S.take (i + 1)) o.length := fun {ws'} hn => by
      rw [List.take_add_one,hxl]
      exact ((hn.app ext).app _).snoc (n := o'.length) (hz.app _) hwc hq hl (fun i l v h => hn.bound h) hfo.len
    have hfr : Frm o (o' ++ ext ++ [O.arr 0 true 1 [z]]) [] := (hfo.trans (.app _ _ []) (by simp)).trans (.app _ _ []) (by simp)
    rcases hN with ⟨rfl,hS0⟩ | ⟨L,v',ws',rfl,hL,hn,hLo,hne⟩
    · have ha := aps_nil (b := 24) hrow hkz (by simp) (by simp [room])
      simp only [c42,c42x1,c42x2,c42x3,c42x4,c42x5,c42x6,c42x7,c42x8,c42x9,c42x10,RUA,RUB,RUC,RUD,RUE,RUF,if_true,if_false,Int.reduceEq,Int.reduceLT,Int.reduceLE,qC,qO,qA,qS,qU,Nat.reduceEqDiff,qT,E.at,qR,Nat.reduceAdd,Nat.reduceSub,Nat.reduceLeDiff,Nat.reduceMul,qI,qP,qQ,ha,hw1]
      refine ⟨(i + 1,_,_),⟨by simp only; omega,hfr.trans (.app _ _ []) (by simp),.inr ⟨_,0,[z],rfl,get_new, ?_, ?_,by simp⟩⟩,by simp only; omega,rfl⟩
      · have : Nest o' [] (S.take i) o.length := by rw [hS0]; exact .nil
        exact (hn0 this).app _
      · simp; have := hfo.len; omega
    · have hL' := get_app (l := [O.arr 0 true 1 [z]]) (get_app (l := ext) hL)
      have hwl := hn.len
      have ha := aps_ar (b := 24) hL' hrow hkz (by simp) (by simp [hwl,room]; omega)
      simp only [c42,c42x1,c42x2,c42x3,c42x4,c42x5,c42x6,c42x7,c42x8,c42x9,c42x10,RUA,RUB,RUC,RUD,RUE,RUF,if_true,if_false,Int.reduceEq,Int.reduceLT,Int.reduceLE,qC,qO,qA,qS,qU,Nat.reduceEqDiff,qT,E.at,qR,Nat.reduceAdd,Nat.reduceSub,Nat.reduceLeDiff,Nat.reduceMul,qI,qP,qQ,ha,hw1]
      refine ⟨(i + 1,_,_),⟨by simp only; omega, ?_,.inr ⟨L,v' + 1,ws' ++ [z],rfl,get_set hL',(hn0 hn).setNe hL' (by omega),hLo,by simp⟩⟩,by simp only; omega,rfl⟩
      refine ⟨by simp; have := hfo.len; omega,fun j a _ ha => ?_⟩
      obtain ⟨b,hb,hab⟩ := hfr.obj j a (by simp) ha
      exact ⟨b,get_set_ne hb (fun e => by subst e; have := get_lt ha; omega),hab⟩
  · have hd1 : decide ((i : Int) < (rows.length : Int)) = false := by simpa using hlt
    have hi' : S.take i = S := List.take_of_length_le (by omega)
    rw [hi'] at hN
    rcases hN with ⟨rfl,hS0⟩ | ⟨L,v',ws',rfl,hL,hn,hLo,hne⟩
    · have hc : slcOf 1 o' nilV none (some (iV 0)) (some (iV 0)) = some (nilV,o') := by simp [slcOf,freeze1,V.free1,boundV,intOf]
      simp only [c42,c42x1,c42x2,c42x3,c42x4,c42x5,c42x6,c42x7,c42x8,c42x9,c42x10,RUA,RUB,RUC,RUD,RUE,RUF,if_true,if_false,Int.reduceEq,Int.reduceLT,Int.reduceLE,qC,qO,qA,qS,qU,Nat.reduceEqDiff,qT,E.at,qR,Nat.reduceAdd,Nat.reduceSub,Nat.reduceLeDiff,Nat.reduceMul,qI,qP,qQ,hd1,List.length_nil,hc]
      refine call3 rfl (cm_free rfl cm_nil) (cloneN (.inl ⟨rfl,rfl⟩) rfl (by simp [cap]) noY_le fun z o2 h => ?_)
      rcases h with ⟨rfl,_,rfl⟩ | ⟨_,_,h⟩
      · exact ⟨Sim.refl _ _,hK _ _ hfo (.inl ⟨rfl,hS0⟩)⟩
      · exact absurd rfl h
    · have hwl := hn.len
      have hrow : rowOf o' (.ar L v') = some ws' := by simp only [rowOf,hL,if_true]
      have hws : ws'.length ≤ cap := by unfold cap; omega
      have fin : ∀ x o1,(x.cells = [x] ∧ rowOf o1 x = some ws' ∧ ws' ≠ [] ∧ ((∃ f,x = .sl 1 f ws') ∨ ∃ l v a n,x = .vw l v a n)) → Frm o o1 [] → Nest o1 ws' S o.length →
          Pe.Call Try.prog T noY 54 [x] o1 fun y o' => Sim 2 o1 o' ∧ K y o' := fun x o1 hx hf hn1 => by
        refine cloneN (.inr hx) hn.okRowS hws noY_le fun z o2 h => ?_
        rcases h with ⟨_,h,_⟩ | ⟨rfl,rfl,h⟩
        · exact absurd h hne
        · exact ⟨Sim.push _ _ _,hK _ _ (hf.trans (.app _ _ []) (by simp)) (.inr ⟨_,0,ws',rfl,get_new,hn1.app _,hf.len,hne⟩)⟩
      by_cases hfr : ws'.all V.free = true
      · have hc : slcOf 1 o' (.ar L v') none (some (iV ws'.length)) (some (iV ws'.length)) = some (.sl 1 true ws',o'.set L (.arr v' false 1 ws')) := by simp [slcOf,freeze1,hL,hfr,boundV,intOf]
        simp only [c42,c42x1,c42x2,c42x3,c42x4,c42x5,c42x6,c42x7,c42x8,c42x9,c42x10,RUA,RUB,RUC,RUD,RUE,RUF,if_true,if_false,Int.reduceEq,Int.reduceLT,Int.reduceLE,qC,qO,qA,qS,qU,Nat.reduceEqDiff,qT,E.at,qR,Nat.reduceAdd,Nat.reduceSub,Nat.reduceLeDiff,Nat.reduceMul,qI,qP,qQ,hd1,hrow,hc]
        have hf1 : Frm o' (o'.set L (.arr v' false 1 ws')) [] := Frm.setSame hL (.inr ⟨_,_,_,_,_,rfl,rfl⟩)
        exact call3 rfl (cm_free rfl cm_nil) (fin _ _ ⟨rfl,rfl,hne,.inl ⟨true,rfl⟩⟩ (hfo.trans hf1 (by simp)) (hn.setNe hL (by omega)))
      · have hpos := List.length_pos_iff.2 hne
        have hc : slcOf 1 o' (.ar L v') none (some (iV ws'.length)) (some (iV ws'.length)) = some (.vw L v' 0 ws'.length,o') := by
          simp [slcOf,freeze1,hL,hfr,boundV,intOf,viewV]
          omega
        simp only [c42,c42x1,c42x2,c42x3,c42x4,c42x5,c42x6,c42x7,c42x8,c42x9,c42x10,RUA,RUB,RUC,RUD,RUE,RUF,if_true,if_false,Int.reduceEq,Int.reduceLT,Int.reduceLE,qC,qO,qA,qS,qU,Nat.reduceEqDiff,qT,E.at,qR,Nat.reduceAdd,Nat.reduceSub,Nat.reduceLeDiff,Nat.reduceMul,qI,qP,qQ,hd1,hrow,hc]
        refine call3 rfl (cm_keep rfl cm_nil) (fin _ _ ⟨rfl, ?_,hne,.inr ⟨_,_,_,_,rfl⟩⟩ hfo hn)
        simp [rowOf,hL]
theorem own_c {v : V} {rows : List V} {S : List (List Tm)} (hv : IsSl 1 v rows) (hS : All2 IsRow S rows) (hs : rows.length ≤ cap) (hy : YLe yi yi)
    (hK : ∀ z o',Frm o o' [] → NestAt z o' S o.length → K z o') : Pe.Call Try.prog T yi 31 [v] o K := by
  refine Call.step hy ?_
  rw [body_eq t31]
  simp only [c31,c31x1,RUA,RUB,RUC,RUD,RUE,RUF,if_true,if_false,Int.reduceEq,Int.reduceLT,Int.reduceLE,qC,qO,qA,qS,qU,Nat.reduceEqDiff,qT,E.at,qR,Nat.reduceAdd,Nat.reduceSub,Nat.reduceLeDiff,Nat.reduceMul,qI,qP,qQ]
  refine call3 rfl (cm_free hv.freeV (cm_free rfl cm_nil)) (mappedN hv hS hs noY_le fun z o' hf hN => ⟨hf.sim, ?_⟩)
  exact hK _ _ hf hN
theorem is_c {z : V} {ws : List V} {i : Nat} (hz : rowOf o z = some ws) (hi : i < ws.length) (hy : YLe yi yi) (hK : K (bV true) o) : Pe.Call Try.prog T yi 32 [z,iV i] o K := by
  refine Call.step hy ?_
  rw [body_eq t32]
  have h1 : decide ((0 : Int) ≤ (i : Int)) = true := by simp
  have h2 : decide ((i : Int) < (ws.length : Int)) = true := by simpa using hi
  simp only [c32,c32x1,RUA,RUB,RUC,RUD,RUE,RUF,if_true,if_false,Int.reduceEq,Int.reduceLT,Int.reduceLE,qC,qO,qA,qS,qU,Nat.reduceEqDiff,qT,E.at,qR,Nat.reduceAdd,Nat.reduceSub,Nat.reduceLeDiff,Nat.reduceMul,qI,qP,qQ,hz,h1,h2]
  exact hK
end
end Go.Proofs.Ytfncfdiomolieaa
end

section
set_option linter.unusedVariables false
set_option linter.unusedSimpArgs false
set_option maxHeartbeats 1000000
open Go.Proofs.Pe renaming putCells → qC, bslOf → qO, bsaOf → qA, bslS → qS, isUpto → qU, step → qT, intOf → qI, iop → qP, sop → qQ
open List renaming replicate → qR
open Go.Proofs.Pe.V renaming dead → qD
namespace Go.Proofs.Ytfncfdiomolieaa
open Go.Proofs.Pe

/-! ### What is told is written no more -/
def IsStk (S : List (List Tm)) (v : V) : Prop := ∃ rows,IsSl 1 v rows ∧ rows.length ≤ cap ∧ All2 IsRow S rows
theorem IsStk.freeV {S : List (List Tm)} {v : V} (h : IsStk S v) : v.free = true := by obtain ⟨_,h,_⟩ := h; exact h.freeV
theorem nest_fz : ∀ {ws : List V} {S : List (List Tm)} {o : List O} {lo : Nat},Nest o ws S lo → ∃ rows o1,step.freezes' o ws = some (rows,o1) ∧ All2 IsRow S rows ∧ ∀ (i : Nat),(∀ (j v : Nat),ws[j]? ≠ some (V.ar i v)) → o1[i]? = o[i]?
  | [],S,o,lo,h => by
    have : S = [] := List.length_eq_zero_iff.1 (by simpa using h.len.symm)
    subst this
    exact ⟨[],o,rfl,rfl,fun _ _ => rfl⟩
  | w :: ws,S,o,lo,h => by
    obtain ⟨ts,S',rfl⟩ : ∃ ts S',S = ts :: S' := by
      cases S with
      | nil => have := h.len; simp at this
      | cons a b => exact ⟨a,b,rfl⟩
    obtain ⟨vs,h1,hc,h2⟩ := h.row 0 w ts rfl rfl
    obtain ⟨r,o1,f1,f2,f3⟩ := h1.fz (h2.free fun x v h => h.ok.1)
    have hN : Nest o1 ws S' lo := by
      refine ⟨by have := h.len; simpa using this,fun i u ts' hu hs => ?_,fun i j l v v' hi hj => ?_,fun i l v hi => h.lo (i + 1) l v (by simpa using hi)⟩
      · obtain ⟨vs',g1,g2⟩ := h.row (i + 1) u ts' (by simpa using hu) (by simpa using hs)
        refine ⟨vs',g1.same fun l v e => f3 l fun v' e' => ?_,g2⟩
        subst e e'
        have := h.inj 0 (i + 1) l v' v rfl (by simpa using hu)
        omega
      · have := h.inj (i + 1) (j + 1) l v v' (by simpa using hi) (by simpa using hj); omega
    obtain ⟨rows,o2,g1,g2,g3⟩ := nest_fz hN
    refine ⟨r :: rows,o2,by simp [step.freezes',f1,g1],⟨r,rows,rfl,⟨vs,f2,hc,h2⟩,g2⟩,fun i hi => ?_⟩
    rw [g3 i fun j v e => hi (j + 1) v (by simpa using e),f3 i fun v e => hi 0 v (by rw [e]; rfl)]
theorem nest_frz {o : List O} {L v lo : Nat} {ws : List V} {S : List (List Tm)} (hL : o[L]? = some (.arr v true 1 ws)) (h : Nest o ws S lo) (hs : S.length ≤ cap) : ∃ z o2,freezeT o (.ar L v) = some (z,o2) ∧ IsStk S z := by
  by_cases hf : ws.all V.free = true
  · refine ⟨.sl 1 false ws,o.set L (.arr v false 1 ws),by simp [freezeT,freezeD,hL,hf],ws,.inr ⟨_,rfl⟩,by rw [h.len]; exact hs,.of h.len fun i w ts hw ht => ?_⟩
    obtain ⟨vs,h1,hc,h2⟩ := h.row i w ts hw ht
    simp only [List.all_eq_true] at hf
    have := hf w (List.mem_of_getElem? hw)
    rcases h1 with ⟨rfl,rfl⟩ | ⟨rfl,rfl⟩ | ⟨l,v,rfl,_⟩
    · exact ⟨[],.inl ⟨rfl,rfl⟩,by simp,h2⟩
    · exact ⟨[],.inr ⟨true,rfl⟩,by simp,h2⟩
    · cases this
  · obtain ⟨rows,o1,h1,h2,h3⟩ := nest_fz h
    have hL1 : o1[L]? = some (.arr v true 1 ws) := by
      rw [h3 L fun j v' e => ?_]; exact hL
      obtain ⟨vs,g1,_⟩ := h.row j _ _ e (List.getElem?_eq_getElem (by rw [← h.len]; exact (List.getElem?_eq_some_iff.1 e).1))
      rcases g1 with ⟨e,_⟩ | ⟨e,_⟩ | ⟨l,v2,e,g⟩
      · cases e
      · cases e
      · cases e; rw [hL] at g; cases g
    have hc : (rows.all fun y => decide (y.cells.length = 1)) = true := by
      simp only [List.all_eq_true,decide_eq_true_eq]
      intro y hy
      obtain ⟨ts,_,hr⟩ := h2.mem hy
      exact hr.ok.2
    refine ⟨.sl 1 false rows,(o1.set L (.arr v true 1 rows)).set L (.arr v false 1 rows), ?_,rows,.inr ⟨_,rfl⟩,by rw [h2.len]; exact hs,h2⟩
    simp only [freezeT,freezeD,hL,if_true,if_neg hf,h1,hL1,hc,and_self]

/-! ### One row is turned -/
theorem Nest.turn {o o' : List O} {ws : List V} {S : List (List Tm)} {lo : Nat} (h : Nest o ws S lo) {at' : Nat} {w' : V} {ts : List Tm} {vs : List V} (ha : at' < S.length) (hw : Fresh w' o' 9 vs) (hc : vs.length ≤ cap) (ht : All2 IsTm ts vs)
    (hsame : ∀ (i l v : Nat),i ≠ at' → ws[i]? = some (V.ar l v) → o'[l]? = o[l]?)
    (hdis : ∀ (i l v v' : Nat),i ≠ at' → ws[i]? = some (V.ar l v) → w' ≠ .ar l v') (hlo : ∀ (l v : Nat),w' = V.ar l v → lo ≤ l) : Nest o' (ws.set at' w') (S.set at' ts) lo := by
  have hl := h.len
  have hwl : at' < ws.length := by omega
  have sp : ∀ (i : Nat) (u : V),(ws.set at' w')[i]? = some u → (i = at' ∧ u = w') ∨ (i ≠ at' ∧ ws[i]? = some u) := fun i u hu => by
    rw [List.getElem?_set] at hu
    split at hu
    · rename_i e; subst e; simp [hwl] at hu; exact .inl ⟨rfl,hu.symm⟩
    · rename_i e; exact .inr ⟨fun h => e h.symm,hu⟩
  refine ⟨by simp [hl],fun i u ts' hu hs => ?_,fun i j l v v' hi hj => ?_,fun i l v hi => ?_⟩
  · rcases sp i u hu with ⟨rfl,rfl⟩ | ⟨hne,hu⟩
    · simp [ha] at hs; subst hs; exact ⟨vs,hw,hc,ht⟩
    · rw [List.getElem?_set_ne (fun e => hne e.symm)] at hs
      obtain ⟨vs',g1,g2⟩ := h.row i u ts' hu hs
      exact ⟨vs',g1.same fun l v e => hsame i l v hne (by rw [hu,e]),g2⟩
  · rcases sp i _ hi with ⟨rfl,e1⟩ | ⟨hi1,hi2⟩ <;> rcases sp j _ hj with ⟨rfl,e2⟩ | ⟨hj1,hj2⟩
    · rfl
    · exact absurd e1.symm (hdis j l v' v hj1 hj2)
    · exact absurd e2.symm (hdis i l v v' hi1 hi2)
    · exact h.inj i j l v v' hi2 hj2
  · rcases sp i _ hi with ⟨rfl,e1⟩ | ⟨hi1,hi2⟩
    · exact hlo l v e1.symm
    · exact h.lo i l v hi2
theorem zeroTm : IsTm (.mk 0 0 0 (ByteArray.mk #[]) (.mk 0 0 (ByteArray.mk #[]) []) []) (.agg [iV 0,iV 0,iV 0,sV (ByteArray.mk #[]),iV 0,iV 0,sV (ByteArray.mk #[]),nilV,nilV]) :=
  ⟨nilV,[],nilV,[],rfl,.inl ⟨rfl,rfl⟩,by simp,rfl,.inl ⟨rfl,rfl⟩,by simp,rfl⟩
theorem push_ok {v t : V} {S : List (List Tm)} {x : Tm} {at' : Nat} (hv : IsStk S v) (ht : IsTm x t) (ha : at' < S.length) (hb : ∀ r,r ∈ S → r.length < cap) :
    PFn Try.prog T 15 [v,iV at',t] (IsStk (S.set at' (S.getD at' [] ++ [x]))) := by
  obtain ⟨rows,v1,v2,v3⟩ := hv
  have hlen := v3.len
  have hSc : S.length ≤ cap := by rw [← hlen]; exact v2
  have htt := ht
  rcases x with ⟨k,a,b,nm,⟨ek,en,em,el⟩,tl⟩
  obtain ⟨ev,evs,lv,vs,rfl,e1,e2,e3,e4,e5,e6⟩ := ht
  intro yi hy
  refine Call.step hy ?_
  rw [body_eq t15]
  have hone : lv.one = true := free1_one e4.free
  have hone0 : ev.one = true := free1_one e1.free
  simp only [c15,c15x1,c15x2,RUA,RUB,RUC,RUD,RUE,RUF,if_true,if_false,Int.reduceEq,Int.reduceLT,Int.reduceLE,qC,qO,qA,qS,qU,Nat.reduceEqDiff,qT,E.at,qR,Nat.reduceAdd,Nat.reduceSub,Nat.reduceLeDiff,Nat.reduceMul,qI,qP,qQ,hone,hone0]
  refine call3 rfl (cm_free v1.freeV cm_nil) (own_c v1 v3 v2 noY_le fun z o1 hf hN => ⟨hf.sim, ?_⟩)
  rcases hN with ⟨_,h0⟩ | ⟨L,v,ws,rfl,hL,hn,hLo,hne⟩
  · rw [h0] at ha; simp at ha
  have hwl := hn.len
  have hrow : rowOf o1 (.ar L v) = some ws := by simp only [rowOf,hL,if_true]
  refine call4 rfl (is_c hrow (by omega) hy ?_)
  have haw : at' < ws.length := by omega
  have hx : ws[at']? = some ws[at'] := List.getElem?_eq_getElem haw
  have hSx : S[at']? = some S[at'] := List.getElem?_eq_getElem ha
  obtain ⟨us,r1,r2,r3⟩ := hn.row at' _ _ hx hSx
  generalize hgw : ws[at'] = w at hx r1
  have hI : ixOf 1 o1 (.ar L v) (iV at') = some (.pa L v at' 0,o1) := by simp [ixOf,intOf,hL,haw]
  have hcells := hf.cells (l := 0) rfl (by simp)
  have hro := r1.row
  obtain ⟨hw1,hw2,hw3⟩ := r1.solid
  simp only [c15,c15x1,c15x2,c15x3,c15x3,RUA,RUB,RUC,RUD,RUE,RUF,if_true,if_false,Int.reduceEq,Int.reduceLT,Int.reduceLE,qC,qO,qA,qS,qU,Nat.reduceEqDiff,qT,E.at,qR,Nat.reduceAdd,Nat.reduceSub,Nat.reduceLeDiff,Nat.reduceMul,qI,qP,qQ,hI,hL,hx,hw2,hcells,hro,depL_pa]
  have hgd : S.getD at' [] = S[at'] := by rw [List.getD_eq_getElem?_getD,hSx]; rfl
  have hul : us.length < cap := by rw [r3.len]; exact hb _ (List.getElem_mem ha)
  unfold cap at hul hSc
  generalize hzv : (V.agg [iV 0,iV 0,iV 0,sV (ByteArray.mk #[]),iV 0,iV 0,sV (ByteArray.mk #[]),nilV,nilV]) = zv
  have hzt := zeroTm
  rw [hzv] at hzt
  obtain ⟨l2,v2',o2,hap,hl2,hlen2,hsame,hor⟩ := r1.push (b := 120) (f := true) (y := zv) (okRow1 hzt.ok).s (by unfold room; omega)
  have hLl : L ≠ l2 := fun e => by
    rcases hor with ⟨v0,rfl⟩ | h
    · rcases r1 with ⟨e',_⟩ | ⟨e',_⟩ | ⟨l,v9,e',h⟩
      · cases e'
      · cases e'
      · cases e'; rw [← e,hL] at h; cases h
    · have := get_lt hL; omega
  have hL2 : o2[L]? = some (.arr v true 1 ws) := by rw [hsame L hLl (get_lt hL)]; exact hL
  have hI2 : ixOf 9 o2 (.ar l2 v2') (iV us.length) = some (.pa l2 v2' us.length 0,o2) := by simp [ixOf,intOf,hl2]; omega
  have hI3 : ixOf 1 o2 (.ar L v) (iV at') = some (.pa L v at' 0,o2) := by simp [ixOf,intOf,hL2,haw]
  have hel : (us ++ [zv])[us.length]? = some zv := by simp
  have hA : ∀ b,(o2.set l2 b)[L]? = some (.arr v true 1 ws) := fun b => get_set_ne hL2 (fun e => hLl e.symm)
  have hB : ∀ b,(o2.set L b)[l2]? = some (.arr v2' true 9 (us ++ [zv])) := fun b => get_set_ne hl2 hLl
  have hzl := hzt.ok.2
  have hwc : w.cells.length = 1 := by rw [hw2]; rfl
  have fin : ∀ z' o3,IsTm (.mk k a b nm (.mk ek en em el) tl) z' → o3[L]? = some (.arr v true 1 (ws.set at' (.ar l2 v2'))) → o3[l2]? = some (.arr v2' true 9 ((us ++ [zv]).set us.length z')) → (∀ i,i ≠ l2 → i ≠ L → i < o1.length → o3[i]? = o1[i]?) →
      ∃ z o2,freezeT o3 (.ar L v) = some (z,o2) ∧ IsStk (S.set at' (S[at'] ++ [.mk k a b nm (.mk ek en em el) tl])) z := fun z' o3 hz h1 h2 h3 => by
    have e9 : (us ++ [zv]).set us.length z' = us ++ [z'] := by simp
    rw [e9] at h2
    refine nest_frz (lo := 0) h1 (Nest.turn (o := o1) (lo := 0) ⟨hn.len,hn.row,hn.inj,fun _ _ _ _ => Nat.zero_le _⟩ ha (.inr (.inr ⟨l2,v2',rfl,h2⟩)) (by simp [cap]; omega) (r3.snoc hz) (fun i l v0 hne' hi => ?_) (fun i l v0 v1 hne' hi e => ?_) (fun _ _ _ => Nat.zero_le _)) (by simp [cap]; omega)
    · refine h3 l (fun e => ?_) (fun e => ?_) (hn.bound hi)
      · subst e
        rcases hor with ⟨v9,rfl⟩ | h
        · exact hne' (hn.inj i at' _ _ _ hi hx)
        · have := hn.bound hi; omega
      · subst e
        obtain ⟨vs',g1,_⟩ := hn.row i _ _ hi (List.getElem?_eq_getElem (by rw [← hn.len]; exact (List.getElem?_eq_some_iff.1 hi).1))
        rcases g1 with ⟨e',_⟩ | ⟨e',_⟩ | ⟨l',v9,e',h⟩
        · cases e'
        · cases e'
        · cases e'; rw [hL] at h; cases h
    · cases e
      rcases hor with ⟨v9,rfl⟩ | h
      · exact hne' (hn.inj i at' _ _ _ hi hx)
      · have := hn.bound hi; omega
  rw [hgd]
  refine ⟨(ownTm _ htt).callF rfl (by simpa using htt.ok.1) fun z' hz' => ?_,(ownTm _ htt).callF rfl (by simpa using htt.ok.1) fun z' hz' => ?_⟩
  all_goals
    have hz9 := hz'.ok
    have hz10 := free_solid hz9.1
    simp only [hap,hI2,hI3,hl2,hL2,hA,hB,hel,hx,hz9.2,hz10,hzl,hwc,RUA,RUB,RUC,RUD,RUE,RUF,if_true,if_false,Int.reduceEq,Int.reduceLT,Int.reduceLE,qC,qO,qA,qS,qU,Nat.reduceEqDiff,qT,E.at,qR,Nat.reduceAdd,Nat.reduceSub,Nat.reduceLeDiff,Nat.reduceMul,qI,qP,qQ,c15,c15x1,c15x2,c15x3,c15x4]
    refine ⟨fin z' _ hz' ?_ ?_ fun i h1 h2 h3 => ?_,fin z' _ hz' ?_ ?_ fun i h1 h2 h3 => ?_⟩
    · exact get_set (hA _)
    · rw [List.getElem?_set_ne hLl]; exact get_set hl2
    · rw [List.getElem?_set_ne (fun e => h2 e.symm),List.getElem?_set_ne (fun e => h1 e.symm)]; exact hsame i h1 h3
    · rw [List.getElem?_set_ne hLl.symm]; exact get_set hL2
    · exact get_set (hB _)
    · rw [List.getElem?_set_ne (fun e => h1 e.symm),List.getElem?_set_ne (fun e => h2 e.symm)]; exact hsame i h1 h3
end Go.Proofs.Ytfncfdiomolieaa
end

section
set_option linter.unusedVariables false
set_option linter.unusedSimpArgs false
set_option maxHeartbeats 1000000
open Go.Proofs.Pe renaming putCells → qC, bslOf → qO, bsaOf → qA, bslS → qS, isUpto → qU, step → qT, intOf → qI, iop → qP, sop → qQ
open List renaming replicate → qR
open Go.Proofs.Pe.V renaming dead → qD
namespace Go.Proofs.Ytfncfdiomolieaa
open Go.Proofs.Pe

theorem ix0 {k : Nat} {v : V} {xs : List V} {y : V} (h : IsSl k v xs) (hy : xs[0]? = some y) (o : List O) : ixOf k o v (iV 0) = some (.ep y.cells,o) := h.ix o (n := 0) hy
theorem ix1 {k : Nat} {v : V} {xs : List V} {y : V} (h : IsSl k v xs) (hy : xs[1]? = some y) (o : List O) : ixOf k o v (iV 1) = some (.ep y.cells,o) := h.ix o (n := 1) hy
theorem Nest.notL {o : List O} {ws : List V} {S : List (List Tm)} {lo L v : Nat} {wr : Bool} {xs : List V} (h : Nest o ws S lo) (hL : o[L]? = some (.arr v wr 1 xs)) {i l v0 : Nat} (hi : ws[i]? = some (V.ar l v0)) : l ≠ L := fun e => by
  subst e
  obtain ⟨vs',g1,_⟩ := h.row i _ _ hi (List.getElem?_eq_getElem (by rw [← h.len]; exact (List.getElem?_eq_some_iff.1 hi).1))
  rcases g1 with ⟨e',_⟩ | ⟨e',_⟩ | ⟨l',v9,e',h⟩
  · cases e'
  · cases e'
  · cases e'; rw [hL] at h; cases h
theorem Nest.empty {o : List O} {ws xs : List V} {S : List (List Tm)} {lo L v v' : Nat} {wr : Bool} {b : O} (h : Nest o ws S lo) (hL : o[L]? = some (.arr v wr 1 xs)) {at' : Nat} (ha : at' < S.length) : Nest (o.set L b) (ws.set at' nilV) (S.set at' []) lo :=
  h.turn ha (.inl ⟨rfl,rfl⟩) (by simp) rfl (fun i l v0 _ hi => List.getElem?_set_ne (fun e => h.notL hL hi e.symm)) (fun i l v0 v1 _ _ e => by cases e) (fun l v0 e => by cases e)

theorem accept_ok {v : V} {S : List (List Tm)} {at' : Nat} (hv : IsStk S v) (ha : at' < S.length) : PFn Try.prog T 19 [v,iV at'] (IsStk (S.set at' [])) := by
  obtain ⟨rows,v1,v2,v3⟩ := hv
  have hlen := v3.len
  intro yi hy
  refine Call.step hy ?_
  rw [body_eq t19]
  simp only [c19,c19x1,c19x2,RUA,RUB,RUC,RUD,RUE,RUF,if_true,if_false,Int.reduceEq,Int.reduceLT,Int.reduceLE,qC,qO,qA,qS,qU,Nat.reduceEqDiff,qT,E.at,qR,Nat.reduceAdd,Nat.reduceSub,Nat.reduceLeDiff,Nat.reduceMul,qI,qP,qQ]
  refine call3 rfl (cm_free v1.freeV cm_nil) (own_c v1 v3 v2 noY_le fun z o1 hf hN => ⟨hf.sim, ?_⟩)
  rcases hN with ⟨_,h0⟩ | ⟨L,v,ws,rfl,hL,hn,hLo,hne⟩
  · rw [h0] at ha; simp at ha
  have hwl := hn.len
  have hrow : rowOf o1 (.ar L v) = some ws := by simp only [rowOf,hL,if_true]
  refine call4 rfl (is_c hrow (by omega) hy ?_)
  have haw : at' < ws.length := by omega
  have hx : ws[at']? = some ws[at'] := List.getElem?_eq_getElem haw
  have hSx : S[at']? = some S[at'] := List.getElem?_eq_getElem ha
  obtain ⟨us,r1,_⟩ := hn.row at' _ _ hx hSx
  generalize hgw : ws[at'] = w at hx r1
  have hI : ixOf 1 o1 (.ar L v) (iV at') = some (.pa L v at' 0,o1) := by simp [ixOf,intOf,hL,haw]
  have hwc : w.cells.length = 1 := by rw [r1.solid.2.1]; rfl
  simp only [c19,c19x1,c19x2,c19x3,c19x4,RUA,RUB,RUC,RUD,RUE,RUF,if_true,if_false,Int.reduceEq,Int.reduceLT,Int.reduceLE,qC,qO,qA,qS,qU,Nat.reduceEqDiff,qT,E.at,qR,Nat.reduceAdd,Nat.reduceSub,Nat.reduceLeDiff,Nat.reduceMul,qI,qP,qQ,hI,hL,hx,hwc]
  exact nest_frz (get_set hL) (hn.empty (v' := 0) hL ha) (by simp; rw [← hlen]; exact v2)
/-! ### What is reversed -/
def zTm : Tm := .mk 0 0 0 (ByteArray.mk #[]) (.mk 0 0 (ByteArray.mk #[]) []) []
def seqT (x y : Tm) : Tm := .mk 12 0 0 (ByteArray.mk #[]) (.mk 0 0 (ByteArray.mk #[]) []) [x,y]
def revT : List Tm → Tm
  | [] => zTm
  | x :: l => l.foldl (fun acc t => seqT t acc) x
theorem revT_snoc (l : List Tm) (x : Tm) : revT (l ++ [x]) = if l = [] then x else seqT x (revT l) := by
  cases l with
  | nil => rfl
  | cons a l => simp [revT,List.foldl_append]
theorem reverse_ok {v : V} {S : List (List Tm)} {at' : Nat} (hv : IsStk S v) (ha : at' < S.length) :
    PFn Try.prog T 16 [v,iV at'] fun z => ∃ t r,z = .tup [t,r] ∧ IsTm (revT (S.getD at' [])) t ∧ IsStk (S.set at' []) r := by
  have hv' := hv
  obtain ⟨rows,v1,v2,v3⟩ := hv
  have hlen := v3.len
  intro yi hy
  refine Call.step hy ?_
  rw [body_eq t16]
  simp only [c16,c16x1,RUA,RUB,RUC,RUD,RUE,RUF,if_true,if_false,Int.reduceEq,Int.reduceLT,Int.reduceLE,qC,qO,qA,qS,qU,Nat.reduceEqDiff,qT,E.at,qR,Nat.reduceAdd,Nat.reduceSub,Nat.reduceLeDiff,Nat.reduceMul,qI,qP,qQ]
  have har : at' < rows.length := by omega
  refine call4 rfl (is_c (v1.row _) har hy ?_)
  have hx : rows[at']? = some rows[at'] := List.getElem?_eq_getElem har
  have hSx : S[at']? = some S[at'] := List.getElem?_eq_getElem ha
  have hgd : S.getD at' [] = S[at'] := by rw [List.getD_eq_getElem?_getD,hSx]; rfl
  obtain ⟨us,r1,r2,r3⟩ := v3.get hx hSx
  generalize hgw : rows[at'] = w at hx r1
  generalize S[at'] = ts at hSx hgd r3
  have hI := fun o => v1.ix o hx
  have hC := r1.cells
  have hlu := r3.len
  rw [hgd]
  simp only [c16,c16x1,c16x2,c16x3,c16x4,RUA,RUB,RUC,RUD,RUE,RUF,if_true,if_false,Int.reduceEq,Int.reduceLT,Int.reduceLE,qC,qO,qA,qS,qU,Nat.reduceEqDiff,qT,E.at,qR,Nat.reduceAdd,Nat.reduceSub,Nat.reduceLeDiff,Nat.reduceMul,qI,qP,qQ,hI,hC,r1.row]
  refine Lfp.inv call_le hy (fun a : Nat × List O => ⟨⟨[v,iV at',.dead,.dead,.pt 0 0,.dead,.pt 1 0,.dead,.dead,.dead,.dead,.dead,.dead,.dead,.dead,w,iV us.length,iV a.1,.dead,.dead,.dead,.dead,.dead,.dead,.dead,.dead,.dead,.dead,.dead,.dead,.dead,.dead,.dead,.dead,.dead,.dead],a.2⟩,[]⟩) (fun a => us.length - a.1)
    (fun a => a.1 ≤ us.length ∧ a.2[0]? = some (.cells [iV 0,iV 0,iV 0,sV (ByteArray.mk #[]),iV 0,iV 0,sV (ByteArray.mk #[]),nilV,nilV]) ∧ ∃ cs,a.2[1]? = some (.cells cs) ∧ IsTm (revT (ts.take a.1)) (.agg cs))
    (0,[.cells [iV 0,iV 0,iV 0,sV (ByteArray.mk #[]),iV 0,iV 0,sV (ByteArray.mk #[]),nilV,nilV],.cells [iV 0,iV 0,iV 0,sV (ByteArray.mk #[]),iV 0,iV 0,sV (ByteArray.mk #[]),nilV,nilV]]) ⟨Nat.zero_le _,rfl,_,rfl,zeroTm⟩ (by simp only [kill_L,killTs_nil,RUF] <;> rfl) ?_
  rintro ⟨i,o'⟩ ⟨hi,h0,cs,h1,hT⟩
  dsimp only at hi h0 h1 hT
  have hTok := hT.ok
  have hl2 : 1 < o'.length := get_lt h1
  by_cases hlt : i < us.length
  · have hd1 : decide ((i : Int) < (us.length : Int)) = true := by simpa using hlt
    have hxu : us[i]? = some us[i] := List.getElem?_eq_getElem hlt
    have hlx : i < ts.length := by omega
    have hxl : ts[i]? = some ts[i] := List.getElem?_eq_getElem hlx
    have hE := r3.get hxu hxl
    have hE' := hE
    generalize hgv : us[i] = u at hxu hE hE'
    generalize hgx : ts[i] = x at hxl hE hE'
    have hok := hE.ok
    rcases x with ⟨k,a,b,s,⟨ek,en,em,el⟩,xl⟩
    obtain ⟨ev,evs,lv,us',rfl,he0,_,_,he1,he2,he3⟩ := hE
    have hone0 : ev.one = true := free1_one he0.free
    have hone : lv.one = true := free1_one he1.free
    have hI2 := fun o => r1.ix o hxu
    have hw1 : IntKind.i64.wrap ((i : Int) + 1) = ((i + 1 : Nat) : Int) := wrap_succ (by unfold cap at r2; omega)
    have htk : ts.take (i + 1) = ts.take i ++ [.mk k a b s (.mk ek en em el) xl] := by rw [List.take_add_one,hxl]; rfl
    generalize hrt : revT (ts.take i) = acc at hT
    rcases acc with ⟨k',a',b',s',⟨ek',en',em',el'⟩,xl'⟩
    have hT' := hT
    obtain ⟨ev',evs',lv',us'',hcs,hf0,_,_,hf1,hf2,hf3⟩ := hT
    cases hcs
    have hone2 : ev'.one = true := free1_one hf0.free
    have hone3 : lv'.one = true := free1_one hf1.free
    have hA : ∀ b,(o' ++ [b])[1]? = some (.cells [iV k',iV a',iV b',sV s',iV ek',iV en',sV em',ev',lv']) := fun b => get_app h1
    have hB : ∀ b,(o' ++ [b])[0]? = some (.cells [iV 0,iV 0,iV 0,sV (ByteArray.mk #[]),iV 0,iV 0,sV (ByteArray.mk #[]),nilV,nilV]) := fun b => get_app h0
    have hts : i ≠ 0 → ts.take i ≠ [] := fun h e => by
      have : (ts.take i).length = 0 := by rw [e]; rfl
      rw [List.length_take] at this; omega
    by_cases hz : i = 0
    · have hd2 : decide ((i : Int) = 0) = true := by simp [hz]
      simp only [c16,c16x1,c16x2,c16x3,c16x4,c16x5,c16x6,c16x7,c16x8,c16x9,c16x10,c16x11,RUA,RUB,RUC,RUD,RUE,RUF,if_true,if_false,Int.reduceEq,Int.reduceLT,Int.reduceLE,qC,qO,qA,qS,qU,Nat.reduceEqDiff,qT,E.at,qR,Nat.reduceAdd,Nat.reduceSub,Nat.reduceLeDiff,Nat.reduceMul,qI,qP,qQ,hd1,hI2,hone,hone0,hd2]
      refine (ownTm _ hE').callF rfl (by simpa using hok.1) fun z hzt => ?_
      have hzt' := hzt
      obtain ⟨ev2,evs2,lv2,us2,rfl,hg0,_,_,hg1,hg2,hg3⟩ := hzt
      have hone4 : ev2.one = true := free1_one hg0.free
      have hone5 : lv2.one = true := free1_one hg1.free
      simp only [c16,c16x1,c16x2,c16x3,c16x4,c16x5,c16x6,c16x7,c16x8,c16x9,c16x10,c16x11,RUA,RUB,RUC,RUD,RUE,RUF,if_true,if_false,Int.reduceEq,Int.reduceLT,Int.reduceLE,qC,qO,qA,qS,qU,Nat.reduceEqDiff,qT,E.at,qR,Nat.reduceAdd,Nat.reduceSub,Nat.reduceLeDiff,Nat.reduceMul,qI,qP,qQ,hone4,hone5,hA,hw1]
      refine ⟨(i + 1,_),⟨by simp only; omega, ?_,_,get_set (hA _), ?_⟩,by simp only; omega,rfl⟩
      · exact get_set_ne (hB _) (by omega)
      · show IsTm (revT (ts.take (i + 1))) _
        rw [htk,hz]; exact hzt'
    · have hd2 : decide ((i : Int) = 0) = false := by simpa using hz
      have hfr0 := hf0.free
      have hfr1 := hf1.free
      simp only [c16,c16x1,c16x2,c16x3,c16x4,c16x5,c16x6,c16x7,c16x8,c16x9,c16x10,c16x11,RUA,RUB,RUC,RUD,RUE,RUF,if_true,if_false,Int.reduceEq,Int.reduceLT,Int.reduceLE,qC,qO,qA,qS,qU,Nat.reduceEqDiff,qT,E.at,qR,Nat.reduceAdd,Nat.reduceSub,Nat.reduceLeDiff,Nat.reduceMul,qI,qP,qQ,hd1,hI2,hone,hone0,hd2,hA,hfr0,hfr1]
      refine (ownTm _ hE').callF rfl (by simpa using hok.1) fun z hzt => ?_
      have hzk := hzt.ok
      have hz9 : decide (z.cells.length = 9) = true := by simpa using hzk.2
      simp only [c16,c16x1,c16x2,c16x3,c16x4,c16x5,c16x6,c16x7,c16x8,c16x9,c16x10,c16x11,RUA,RUB,RUC,RUD,RUE,RUF,if_true,if_false,Int.reduceEq,Int.reduceLT,Int.reduceLE,qC,qO,qA,qS,qU,Nat.reduceEqDiff,qT,E.at,qR,Nat.reduceAdd,Nat.reduceSub,Nat.reduceLeDiff,Nat.reduceMul,qI,qP,qQ,hzk.1,hz9,hA,hw1,fillC]
      refine ⟨(i + 1,_),⟨by simp only; omega, ?_,_,get_set (hA _), ?_⟩,by simp only; omega,rfl⟩
      · exact get_set_ne (hB _) (by omega)
      · show IsTm (revT (ts.take (i + 1))) _
        rw [htk,revT_snoc,if_neg (hts hz),hrt]
        exact ⟨nilV,[],.sl 9 true [z,_],[z,_],rfl,.inl ⟨rfl,rfl⟩,by simp,rfl,.inr ⟨_,rfl⟩,by simp [cap],z,_,rfl,hzt,_,_,rfl,hT',rfl⟩
  · have hd1 : decide ((i : Int) < (us.length : Int)) = false := by simpa using hlt
    have hi' : ts.take i = ts := List.take_of_length_le (by omega)
    rw [hi'] at hT
    generalize hrt : revT ts = acc at hT
    rcases acc with ⟨k',a',b',s',⟨ek',en',em',el'⟩,xl'⟩
    have hT' := hT
    obtain ⟨ev',evs',lv',us'',hcs,hf0,_,_,hf1,hf2,hf3⟩ := hT
    cases hcs
    have hone2 : ev'.one = true := free1_one hf0.free
    have hone3 : lv'.one = true := free1_one hf1.free
    simp only [c16,c16x1,c16x2,c16x3,c16x4,c16x5,c16x6,c16x7,c16x8,c16x9,c16x10,c16x11,RUA,RUB,RUC,RUD,RUE,RUF,if_true,if_false,Int.reduceEq,Int.reduceLT,Int.reduceLE,qC,qO,qA,qS,qU,Nat.reduceEqDiff,qT,E.at,qR,Nat.reduceAdd,Nat.reduceSub,Nat.reduceLeDiff,Nat.reduceMul,qI,qP,qQ,hd1,h1]
    refine (accept_ok hv' ha).callF rfl (fun x hx => by simp only [List.mem_cons,List.not_mem_nil,or_false] at hx; rcases hx with rfl | rfl <;> first | exact v1.freeV | rfl) fun z hz => ?_
    have hg0 : ∀ b,(o'.set 0 b)[0]? = some b := fun b => get_set h0
    simp only [c16,c16x1,c16x2,c16x3,c16x4,c16x5,c16x6,c16x7,c16x8,c16x9,c16x10,c16x11,RUA,RUB,RUC,RUD,RUE,RUF,if_true,if_false,Int.reduceEq,Int.reduceLT,Int.reduceLE,qC,qO,qA,qS,qU,Nat.reduceEqDiff,qT,E.at,qR,Nat.reduceAdd,Nat.reduceSub,Nat.reduceLeDiff,Nat.reduceMul,qI,qP,qQ,h0,hone2,hone3,hg0,rets]
    exact ⟨_,_,frzT_tup hT'.ok.1 hz.freeV,_,_,rfl,hT',hz⟩
end Go.Proofs.Ytfncfdiomolieaa
end

section
set_option linter.unusedVariables false
set_option linter.unusedSimpArgs false
set_option maxRecDepth 100000
set_option maxHeartbeats 4000000
open Go.Proofs.Pe renaming putCells → qC, bslOf → qO, bsaOf → qA, bslS → qS, isUpto → qU, step → qT, intOf → qI, iop → qP, sop → qQ
open List renaming replicate → qR
open Go.Proofs.Pe.V renaming dead → qD
namespace Go.Proofs.Ytfncfdiomolieaa
open Go.Proofs.Pe
theorem within2_p (a : Int) (n : Int) (hn : 0 < n) (hn2 : n ≤ 1000000) : PFn Try.prog T 71 [iV a,iV n] fun z => z = iV (withinI a n) := by
  intro yi hy
  refine Call.step hy ?_
  rw [body_eq t71]
  have h0 : ¬ n = 0 := by omega
  have h1 := Int.tmod_lt_of_pos a hn
  have h2 := neg_lt_tmod a hn
  by_cases hlt : a.tmod n < 0
  · have hd : decide (a.tmod n < 0) = true := by simpa using hlt
    have hw : IntKind.i64.wrap (a.tmod n + n) = withinI a n := by rw [wrap_ok (by omega) (by omega)]; unfold withinI; rw [if_pos hlt]
    simp only [c71,c71x1,c71x2,c71x3,c71x4,RUA,RUB,RUC,RUD,RUE,RUF,if_true,if_false,Int.reduceEq,Int.reduceLT,Int.reduceLE,qC,qO,qA,qS,qU,Nat.reduceEqDiff,qT,E.at,qR,Nat.reduceAdd,Nat.reduceSub,Nat.reduceLeDiff,Nat.reduceMul,qI,qP,qQ,h0,hd,hw]
    exact ⟨_,_,rfl,rfl⟩
  · have hw : a.tmod n = withinI a n := by unfold withinI; rw [if_neg hlt]
    have hd : decide (a.tmod n < 0) = false := by simpa using hlt
    simp only [c71,c71x1,c71x2,c71x3,c71x4,RUA,RUB,RUC,RUD,RUE,RUF,if_true,if_false,Int.reduceEq,Int.reduceLT,Int.reduceLE,qC,qO,qA,qS,qU,Nat.reduceEqDiff,qT,E.at,qR,Nat.reduceAdd,Nat.reduceSub,Nat.reduceLeDiff,Nat.reduceMul,qI,qP,qQ,h0,hd]
    exact ⟨_,_,rfl,by rw [hw]⟩
theorem size2_p : ∀ (r : Nat),r ≤ 9 → ∀ {l : List Rw} {lv : V} {vs : List V},IsSl 3 lv vs → All2 IsRw l vs → vs.length ≤ maxLen → ∀ {d : Int},d = 9 - r → PFn Try.prog T 66 [lv,iV d] fun z => z = iV (szL r l)
  | 0,_,l,lv,vs,h1,h2,h3,d,hd => by
    obtain rfl : d = 9 := by omega
    intro yi hy
    refine Call.step hy ?_
    rw [body_eq t66]
    simp only [c66,c66x1,c66x2,c66x3,c66x4,c66x5,c66x6,c66x7,c66x8,c66x9,c66x10,RUA,RUB,RUC,RUD,RUE,RUF,if_true,if_false,Int.reduceEq,Int.reduceLT,Int.reduceLE,qC,qO,qA,qS,qU,Nat.reduceEqDiff,qT,E.at,qR,Nat.reduceAdd,Nat.reduceSub,Nat.reduceLeDiff,Nat.reduceMul,qI,qP,qQ]
    exact ⟨_,_,rfl,rfl⟩
  | r + 1,hr,l,lv,vs,h1,h2,h3,d,hd => by
    have hq : decide (8 < d) = false := by simp; omega
    have hlen := h2.len
    unfold maxLen at h3
    intro yi hy
    refine Call.step hy ?_
    rw [body_eq t66]
    simp only [c66,c66x1,c66x2,c66x3,c66x4,c66x5,RUA,RUB,RUC,RUD,RUE,RUF,if_true,if_false,Int.reduceEq,Int.reduceLT,Int.reduceLE,qC,qO,qA,qS,qU,Nat.reduceEqDiff,qT,E.at,qR,Nat.reduceAdd,Nat.reduceSub,Nat.reduceLeDiff,Nat.reduceMul,qI,qP,qQ,hq]
    refine Lfp.inv call_le hy (fun a : Nat × Int => ⟨⟨[lv,iV d,.dead,.dead,.dead,iV a.2,iV a.1,.dead,.dead,.dead,.dead,.dead,.dead,.dead,.dead,.dead,.dead,.dead,.dead,.dead,.dead,.dead,.dead,.dead,.dead,.dead,.dead,.dead,.dead,.dead,.dead],[]⟩,[]⟩) (fun a => vs.length - a.1)
      (fun a => a.1 ≤ vs.length ∧ 0 ≤ a.2 ∧ a.2 ≤ 3000 ∧ szLoop (szL r) (l.drop a.1) a.2 = szL (r + 1) l) (0,0) ⟨Nat.zero_le _,by omega,by omega,rfl⟩ (by simp only [kill_L,killTs_nil,RUF] <;> rfl) ?_
    rintro ⟨i,n⟩ ⟨hi,hn0,hn1,hs⟩
    dsimp only at hi hn0 hn1 hs
    by_cases hlt : i < vs.length
    · have hd1 : decide ((i : Int) < (vs.length : Int)) = true := by simpa using hlt
      by_cases hn : n ≤ 20
      · have hd2 : decide (n ≤ 20) = true := by simpa using hn
        have hx : vs[i]? = some vs[i] := List.getElem?_eq_getElem hlt
        have hlx : i < l.length := by omega
        have hxl : l[i]? = some l[i] := List.getElem?_eq_getElem hlx
        have hE := h2.get hx hxl
        generalize hgv : vs[i] = u at hx hE
        generalize hgx : l[i] = x at hxl hE
        rcases x with ⟨k,m,xl⟩
        rw [szLoop_drop hxl hn] at hs
        obtain ⟨lv1,us,rfl,_,_,g1,g2,g3⟩ := hE
        rw [isRws_all] at g3
        have hI := fun o => h1.ix o hx
        have hw1 : IntKind.i64.wrap ((i : Int) + 1) = ((i + 1 : Nat) : Int) := wrap_succ (by omega)
        have hw2 : IntKind.i64.wrap (d + 1) = d + 1 := wrap_in (by unfold I64; omega)
        have hrow := fun o => h1.row o
        simp only [c66,c66x1,c66x2,c66x3,c66x4,c66x5,c66x6,c66x7,c66x8,c66x9,c66x10,RUA,RUB,RUC,RUD,RUE,RUF,if_true,if_false,Int.reduceEq,Int.reduceLT,Int.reduceLE,qC,qO,qA,qS,qU,Nat.reduceEqDiff,qT,E.at,qR,Nat.reduceAdd,Nat.reduceSub,Nat.reduceLeDiff,Nat.reduceMul,qI,qP,qQ,hd1,hd2,hI,hrow,hw2]
        have hb := szL_le r xl
        refine (size2_p r (by omega) g1 g3 g2 (d := d + 1) (by omega)).callE rfl (cf2 g1.freeV rfl _) rfl ?_
        have hw3 : IntKind.i64.wrap (n + 1) = n + 1 := wrap_in (by unfold I64; omega)
        have hw4 : IntKind.i64.wrap (n + 1 + szL r xl) = n + 1 + szL r xl := wrap_in (by unfold I64; omega)
        simp only [c66,c66x1,c66x2,c66x3,c66x4,c66x5,c66x6,c66x7,c66x8,c66x9,c66x10,RUA,RUB,RUC,RUD,RUE,RUF,if_true,if_false,Int.reduceEq,Int.reduceLT,Int.reduceLE,qC,qO,qA,qS,qU,Nat.reduceEqDiff,qT,E.at,qR,Nat.reduceAdd,Nat.reduceSub,Nat.reduceLeDiff,Nat.reduceMul,qI,qP,qQ,hw1,hw3,hw4]
        exact ⟨(i + 1,n + 1 + szL r xl),⟨by simp only; omega,by simp only; omega,by simp only; omega,hs⟩,by simp only; omega,rfl⟩
      · have hd2 : decide (n ≤ 20) = false := by simpa using hn
        rw [szLoop_stop hn] at hs
        have hrow := fun o => h1.row o
        simp only [c66,c66x1,c66x2,c66x3,c66x4,c66x5,c66x6,c66x7,c66x8,c66x9,c66x10,RUA,RUB,RUC,RUD,RUE,RUF,if_true,if_false,Int.reduceEq,Int.reduceLT,Int.reduceLE,qC,qO,qA,qS,qU,Nat.reduceEqDiff,qT,E.at,qR,Nat.reduceAdd,Nat.reduceSub,Nat.reduceLeDiff,Nat.reduceMul,qI,qP,qQ,hd1,hd2,hrow]
        exact ⟨_,_,rfl,by rw [hs]⟩
    · have hd1 : decide ((i : Int) < (vs.length : Int)) = false := by simpa using hlt
      have hrow := fun o => h1.row o
      rw [List.drop_eq_nil_of_le (by omega)] at hs
      simp only [c66,c66x1,c66x2,c66x3,c66x4,c66x5,c66x6,c66x7,c66x8,c66x9,c66x10,RUA,RUB,RUC,RUD,RUE,RUF,if_true,if_false,Int.reduceEq,Int.reduceLT,Int.reduceLE,qC,qO,qA,qS,qU,Nat.reduceEqDiff,qT,E.at,qR,Nat.reduceAdd,Nat.reduceSub,Nat.reduceLeDiff,Nat.reduceMul,qI,qP,qQ,hd1,hrow]
      exact ⟨_,_,rfl,by rw [← hs]; rfl⟩
theorem few2_p {l : List Rw} {lv : V} {vs : List V} (h1 : IsSl 3 lv vs) (h2 : All2 IsRw l vs) (h3 : vs.length ≤ maxLen) : PFn Try.prog T 57 [lv] fun z => z = bV (decide (szL 9 l ≤ 20)) := by
  intro yi hy
  refine Call.step hy ?_
  rw [body_eq t57]
  simp only [c57,c57x1,RUA,RUB,RUC,RUD,RUE,RUF,if_true,if_false,Int.reduceEq,Int.reduceLT,Int.reduceLE,qC,qO,qA,qS,qU,Nat.reduceEqDiff,qT,E.at,qR,Nat.reduceAdd,Nat.reduceSub,Nat.reduceLeDiff,Nat.reduceMul,qI,qP,qQ]
  refine (size2_p 9 (by omega) h1 h2 h3 (d := 0) (by omega)).callE rfl (cf2 h1.freeV rfl _) rfl ?_
  simp only [c57,c57x1,RUA,RUB,RUC,RUD,RUE,RUF,if_true,if_false,Int.reduceEq,Int.reduceLT,Int.reduceLE,qC,qO,qA,qS,qU,Nat.reduceEqDiff,qT,E.at,qR,Nat.reduceAdd,Nat.reduceSub,Nat.reduceLeDiff,Nat.reduceMul,qI,qP,qQ]
  exact ⟨_,_,rfl,rfl⟩
theorem frE {x : Ex} {z : V} (h : IsEx x z) (o : List O) : ∃ w o2,freezeT o z = some (w,o2) ∧ IsEx x w := ⟨z,o,frzT_free h.ok.1,h⟩
theorem part2_p {nm : List ByteArray} {nv : V} (hn : IsSl 1 nv (nm.map sV)) {k n : Int} {l : List Rw} {u : V} (h : IsRw (.mk k n l) u) (i : Nat) (hi : i < 1000)
    (ih : ∀ x ∈ l,∀ u,IsRw x u → PFn Try.prog T 67 [u,nv] (IsEx (mkS nm x))) : PFn Try.prog T 72 [u,iV i,nv] (IsEx (ptS n (l.map (mkS nm)) i)) := by
  obtain ⟨lv,vs,rfl,hk,hnn,h1,h2,h3⟩ := h
  rw [isRws_all] at h3
  have hlen := h3.len
  have hone : lv.one = true := free1_one h1.free
  have hrow := fun o => h1.row o
  intro yi hy
  refine Call.step hy ?_
  rw [body_eq t72]
  by_cases hlt : i < vs.length
  · have hd1 : decide ((i : Int) < (vs.length : Int)) = true := by simpa using hlt
    have hx : vs[i]? = some vs[i] := List.getElem?_eq_getElem hlt
    have hxl : l[i]? = some l[i] := List.getElem?_eq_getElem (by omega)
    have hE := h3.get hx hxl
    have hmem : l[i] ∈ l := List.getElem_mem _
    have he : ptS n (l.map (mkS nm)) i = mkS nm l[i] := by
      unfold ptS; rw [List.getD_eq_getElem?_getD,List.getElem?_map,hxl]; rfl
    rw [he]
    generalize hgv : vs[i] = u at hx hE
    generalize hgx : l[i] = x at hxl hE hmem
    have hE' := hE
    rcases x with ⟨k1,n1,l1⟩
    obtain ⟨lv1,us,rfl,_,_,g1,g2,g3⟩ := hE
    have hI := fun o => h1.ix o hx
    simp only [c72,c72x1,c72x2,c72x3,RUA,RUB,RUC,RUD,RUE,RUF,if_true,if_false,Int.reduceEq,Int.reduceLT,Int.reduceLE,qC,qO,qA,qS,qU,Nat.reduceEqDiff,qT,E.at,qR,Nat.reduceAdd,Nat.reduceSub,Nat.reduceLeDiff,Nat.reduceMul,qI,qP,qQ,hone,hd1,hrow,hI]
    refine (ih _ hmem _ hE').callF rfl (fun x hx => by simp only [List.mem_cons,List.not_mem_nil,or_false] at hx; rcases hx with rfl | rfl <;> first | exact hE'.ok.1 | exact hn.freeV) fun z hz => ?_
    have hz' := hz
    generalize mkS nm (.mk k1 n1 l1) = e at hz hz'
    rcases e with ⟨a,b,c,d⟩
    obtain ⟨zv,zs,rfl,q1,q2,q3⟩ := hz
    have honez : zv.one = true := free1_one q1.free
    simp only [c72,c72x1,c72x2,c72x3,RUA,RUB,RUC,RUD,RUE,RUF,if_true,if_false,Int.reduceEq,Int.reduceLT,Int.reduceLE,qC,qO,qA,qS,qU,Nat.reduceEqDiff,qT,E.at,qR,Nat.reduceAdd,Nat.reduceSub,Nat.reduceLeDiff,Nat.reduceMul,qI,qP,qQ,honez,rets]
    exact frE hz' _
  · have hd1 : decide ((i : Int) < (vs.length : Int)) = false := by simpa using hlt
    have he : ptS n (l.map (mkS nm)) i = .mk 1 (withinI (IntKind.i64.wrap (n + i)) 5) emp [] := by
      unfold ptS; rw [List.getD_eq_getElem?_getD,List.getElem?_map,List.getElem?_eq_none (by omega)]; rfl
    rw [he]
    simp only [c72,c72x1,c72x2,c72x3,RUA,RUB,RUC,RUD,RUE,RUF,if_true,if_false,Int.reduceEq,Int.reduceLT,Int.reduceLE,qC,qO,qA,qS,qU,Nat.reduceEqDiff,qT,E.at,qR,Nat.reduceAdd,Nat.reduceSub,Nat.reduceLeDiff,Nat.reduceMul,qI,qP,qQ,hone,hd1,hrow]
    refine (within2_p _ 5 (by decide) (by decide)).callE rfl rfl rfl ?_
    simp only [c72,c72x1,c72x2,c72x3,RUA,RUB,RUC,RUD,RUE,RUF,if_true,if_false,Int.reduceEq,Int.reduceLT,Int.reduceLE,qC,qO,qA,qS,qU,Nat.reduceEqDiff,qT,E.at,qR,Nat.reduceAdd,Nat.reduceSub,Nat.reduceLeDiff,Nat.reduceMul,qI,qP,qQ,hone,fillC,rets]
    exact frE (x := .mk 1 _ emp []) ⟨nilV,[],rfl,.inl ⟨rfl,rfl⟩,by simp,rfl⟩ _
theorem numsRow (i : Nat) (hi : i < 8) (o : List O) : ixOf 1 o (.sl 1 true [iV 0,iV 1,iV 2,iV 7,iV 99,iV 999999999999999999,iV 5,iV 3]) (iV i) = some (.ep [iV (nums.getD i 0)],o) := by
  have : i = 0 ∨ i = 1 ∨ i = 2 ∨ i = 3 ∨ i = 4 ∨ i = 5 ∨ i = 6 ∨ i = 7 := by omega
  rcases this with rfl | rfl | rfl | rfl | rfl | rfl | rfl | rfl <;> rfl
theorem natI {a n : Int} (h : 0 < n) : ∃ i : Nat,withinI a n = i ∧ (i : Int) < n := by
  have := withinI_ok a h
  exact ⟨(withinI a n).toNat,by omega,by omega⟩
theorem make2_p {nm : List ByteArray} {nv : V} (hn : IsSl 1 nv (nm.map sV)) (hnl : nm.length ≤ 1000) : ∀ (x : Rw) (u : V),IsRw x u → PFn Try.prog T 67 [u,nv] (IsEx (mkS nm x))
  | .mk k n l,u,h => by
    have h' := h
    have ih : ∀ x ∈ l,∀ u,IsRw x u → PFn Try.prog T 67 [u,nv] (IsEx (mkS nm x)) := fun x hx u hu => make2_p hn hnl x u hu
    have hp0 := part2_p hn h' 0 (by omega) ih
    have hp1 := part2_p hn h' 1 (by omega) ih
    rw [mkS_eq]
    generalize l.map (mkS nm) = ps at hp0 hp1
    obtain ⟨lv,vs,rfl,hk,hnn,h1,h2,h3⟩ := h
    have hone : lv.one = true := free1_one h1.free
    have hrow := fun o => h1.row o
    have hrn := fun o => hn.row o
    have hfr : ∀ x : V,x ∈ [V.agg [iV k,iV n,lv],iV 0,nv] → x.free = true := fun x hx => by
      simp only [List.mem_cons,List.not_mem_nil,or_false] at hx; rcases hx with rfl | rfl | rfl <;> first | exact h'.ok.1 | exact hn.freeV | rfl
    have hfr1 : ∀ x : V,x ∈ [V.agg [iV k,iV n,lv],iV 1,nv] → x.free = true := fun x hx => by
      simp only [List.mem_cons,List.not_mem_nil,or_false] at hx; rcases hx with rfl | rfl | rfl <;> first | exact h'.ok.1 | exact hn.freeV | rfl
    unfold mkC
    intro yi hy
    refine Call.step hy ?_
    rw [body_eq t67]
    simp only [c67,c67x1,RUA,RUB,RUC,RUD,RUE,RUF,if_true,if_false,Int.reduceEq,Int.reduceLT,Int.reduceLE,qC,qO,qA,qS,qU,Nat.reduceEqDiff,qT,E.at,qR,Nat.reduceAdd,Nat.reduceSub,Nat.reduceLeDiff,Nat.reduceMul,qI,qP,qQ,hone]
    refine (within2_p _ 24 (by decide) (by decide)).callE rfl rfl rfl ?_
    obtain ⟨w1,w2⟩ := withinI_ok k (n := 24) (by decide)
    generalize withinI k 24 = kk at w1 w2
    by_cases c4 : kk < 4
    · have d4 : decide (kk < 4) = true := by simpa using c4
      rw [if_pos c4]
      simp only [c67,c67x1,c67x2,c67x3,c67x4,c67x5,c67x6,c67x7,RUA,RUB,RUC,RUD,RUE,RUF,if_true,if_false,Int.reduceEq,Int.reduceLT,Int.reduceLE,qC,qO,qA,qS,qU,Nat.reduceEqDiff,qT,E.at,qR,Nat.reduceAdd,Nat.reduceSub,Nat.reduceLeDiff,Nat.reduceMul,qI,qP,qQ,hone,d4]
      refine (within2_p _ 8 (by decide) (by decide)).callE rfl rfl rfl ?_
      obtain ⟨i,hi,hi2⟩ := natI (a := n) (n := 8) (by decide)
      rw [hi]
      have hI := fun o => numsRow i (by omega) o
      simp only [c67,c67x1,c67x2,c67x3,c67x4,c67x5,c67x6,c67x7,RUA,RUB,RUC,RUD,RUE,RUF,if_true,if_false,Int.reduceEq,Int.reduceLT,Int.reduceLE,qC,qO,qA,qS,qU,Nat.reduceEqDiff,qT,E.at,qR,Nat.reduceAdd,Nat.reduceSub,Nat.reduceLeDiff,Nat.reduceMul,qI,qP,qQ,hone,hI,fillC,rets]
      exact frE (x := .mk 1 _ emp []) ⟨nilV,[],rfl,.inl ⟨rfl,rfl⟩,by simp,rfl⟩ _
    rw [if_neg c4]
    have d4 : decide (kk < 4) = false := by simpa using c4
    by_cases c9 : kk < 9
    · have d9 : decide (kk < 9) = true := by simpa using c9
      rw [if_pos c9]
      by_cases e : nm = []
      · rw [if_pos e]
        subst e
        simp only [c67,c67x1,c67x2,c67x3,c67x4,c67x5,c67x6,c67x7,RUA,RUB,RUC,RUD,RUE,RUF,if_true,if_false,Int.reduceEq,Int.reduceLT,Int.reduceLE,qC,qO,qA,qS,qU,Nat.reduceEqDiff,qT,E.at,qR,Nat.reduceAdd,Nat.reduceSub,Nat.reduceLeDiff,Nat.reduceMul,qI,qP,qQ,hone,d4,d9,hrn]
        refine (within2_p _ 3 (by decide) (by decide)).callE rfl rfl rfl ?_
        simp only [c67,c67x1,c67x2,c67x3,c67x4,c67x5,c67x6,c67x7,RUA,RUB,RUC,RUD,RUE,RUF,if_true,if_false,Int.reduceEq,Int.reduceLT,Int.reduceLE,qC,qO,qA,qS,qU,Nat.reduceEqDiff,qT,E.at,qR,Nat.reduceAdd,Nat.reduceSub,Nat.reduceLeDiff,Nat.reduceMul,qI,qP,qQ,hone,fillC,rets]
        exact frE (x := .mk 2 _ emp []) ⟨nilV,[],rfl,.inl ⟨rfl,rfl⟩,by simp,rfl⟩ _
      · rw [if_neg e]
        have hl : 0 < nm.length := List.length_pos_iff.2 e
        have dl : decide ((0 : Int) < (nm.length : Int)) = true := by simpa using hl
        simp only [c67,c67x1,c67x2,c67x3,c67x4,c67x5,c67x6,c67x7,RUA,RUB,RUC,RUD,RUE,RUF,if_true,if_false,Int.reduceEq,Int.reduceLT,Int.reduceLE,qC,qO,qA,qS,qU,Nat.reduceEqDiff,qT,E.at,qR,Nat.reduceAdd,Nat.reduceSub,Nat.reduceLeDiff,Nat.reduceMul,qI,qP,qQ,hone,d4,d9,hrn,List.length_map,dl]
        refine (within2_p _ (nm.length : Int) (by omega) (by omega)).callE rfl rfl rfl ?_
        obtain ⟨i,hi,hi2⟩ := natI (a := n) (n := (nm.length : Int)) (by omega)
        rw [hi]
        have hI := fun o => hn.ix o (n := i) (y := sV (nm.getD i emp)) (by rw [List.getElem?_map,List.getD_eq_getElem?_getD,List.getElem?_eq_getElem (by omega)]; rfl)
        simp only [c67,c67x1,c67x2,c67x3,c67x4,c67x5,c67x6,c67x7,RUA,RUB,RUC,RUD,RUE,RUF,if_true,if_false,Int.reduceEq,Int.reduceLT,Int.reduceLE,qC,qO,qA,qS,qU,Nat.reduceEqDiff,qT,E.at,qR,Nat.reduceAdd,Nat.reduceSub,Nat.reduceLeDiff,Nat.reduceMul,qI,qP,qQ,hone,hI,fillC,rets]
        exact frE (x := .mk 2 0 _ []) ⟨nilV,[],rfl,.inl ⟨rfl,rfl⟩,by simp,rfl⟩ _
    rw [if_neg c9]
    have d9 : decide (kk < 9) = false := by simpa using c9
    by_cases e9 : kk = 9
    · rw [if_pos e9]
      subst e9
      simp only [c67,c67x1,c67x2,c67x3,c67x4,c67x5,c67x6,c67x7,RUA,RUB,RUC,RUD,RUE,RUF,if_true,if_false,Int.reduceEq,Int.reduceLT,Int.reduceLE,qC,qO,qA,qS,qU,Nat.reduceEqDiff,qT,E.at,qR,Nat.reduceAdd,Nat.reduceSub,Nat.reduceLeDiff,Nat.reduceMul,qI,qP,qQ,hone,hrn]
      refine hp0.callF rfl hfr fun z hz => ?_
      have hz' := hz.ok
      have hz4 : decide (z.cells.length = 4) = true := by simpa using hz'.2
      simp only [c67,c67x1,c67x2,c67x3,c67x4,c67x5,c67x6,c67x7,RUA,RUB,RUC,RUD,RUE,RUF,if_true,if_false,Int.reduceEq,Int.reduceLT,Int.reduceLE,qC,qO,qA,qS,qU,Nat.reduceEqDiff,qT,E.at,qR,Nat.reduceAdd,Nat.reduceSub,Nat.reduceLeDiff,Nat.reduceMul,qI,qP,qQ,hone,hz'.1,hz4,fillC,rets]
      exact frE (x := .mk 3 0 emp [_]) ⟨_,[z],rfl,.inr ⟨_,rfl⟩,by simp [cap],z,[],rfl,hz,rfl⟩ _
    rw [if_neg e9]
    have f9 : decide (kk = 9) = false := by simpa using e9
    by_cases e10 : kk = 10
    · rw [if_pos e10]
      subst e10
      simp only [c67,c67x1,c67x2,c67x3,c67x4,c67x5,c67x6,c67x7,RUA,RUB,RUC,RUD,RUE,RUF,if_true,if_false,Int.reduceEq,Int.reduceLT,Int.reduceLE,qC,qO,qA,qS,qU,Nat.reduceEqDiff,qT,E.at,qR,Nat.reduceAdd,Nat.reduceSub,Nat.reduceLeDiff,Nat.reduceMul,qI,qP,qQ,hone,hrn]
      refine hp0.callF rfl hfr fun z hz => ?_
      have hz' := hz.ok
      have hz4 : decide (z.cells.length = 4) = true := by simpa using hz'.2
      simp only [c67,c67x1,c67x2,c67x3,c67x4,c67x5,c67x6,c67x7,RUA,RUB,RUC,RUD,RUE,RUF,if_true,if_false,Int.reduceEq,Int.reduceLT,Int.reduceLE,qC,qO,qA,qS,qU,Nat.reduceEqDiff,qT,E.at,qR,Nat.reduceAdd,Nat.reduceSub,Nat.reduceLeDiff,Nat.reduceMul,qI,qP,qQ,hone,hz'.1,hz4,fillC,rets]
      exact frE (x := .mk 4 0 emp [_]) ⟨_,[z],rfl,.inr ⟨_,rfl⟩,by simp [cap],z,[],rfl,hz,rfl⟩ _
    rw [if_neg e10]
    have f10 : decide (kk = 10) = false := by simpa using e10
    have hw : IntKind.i64.wrap (IntKind.i64.wrap (5 + kk) - 11) = 5 + kk - 11 := by
      rw [wrap_in (n := 5 + kk) (by unfold I64; omega),wrap_in (by unfold I64; omega)]
    simp only [c67,c67x1,c67x2,c67x3,c67x4,c67x5,c67x6,c67x7,RUA,RUB,RUC,RUD,RUE,RUF,if_true,if_false,Int.reduceEq,Int.reduceLT,Int.reduceLE,qC,qO,qA,qS,qU,Nat.reduceEqDiff,qT,E.at,qR,Nat.reduceAdd,Nat.reduceSub,Nat.reduceLeDiff,Nat.reduceMul,qI,qP,qQ,hone,hrn,d4,d9,f9,f10,hw]
    refine hp0.callF rfl hfr fun z hz => ?_
    have hz' := hz.ok
    have hz4 : decide (z.cells.length = 4) = true := by simpa using hz'.2
    refine hp1.callF rfl hfr1 fun y hy' => ?_
    have hy2 := hy'.ok
    have hy4 : decide (y.cells.length = 4) = true := by simpa using hy2.2
    simp only [c67,c67x1,c67x2,c67x3,c67x4,c67x5,c67x6,c67x7,RUA,RUB,RUC,RUD,RUE,RUF,if_true,if_false,Int.reduceEq,Int.reduceLT,Int.reduceLE,qC,qO,qA,qS,qU,Nat.reduceEqDiff,qT,E.at,qR,Nat.reduceAdd,Nat.reduceSub,Nat.reduceLeDiff,Nat.reduceMul,qI,qP,qQ,hone,hz'.1,hz4,hy2.1,hy4,fillC,rets]
    exact frE (x := .mk _ 0 emp [_,_]) ⟨_,[z,y],rfl,.inr ⟨_,rfl⟩,by simp [cap],z,[y],rfl,hz,y,[],rfl,hy',rfl⟩ _
termination_by x => SizeOf.sizeOf x
decreasing_by have := List.sizeOf_lt_of_mem hx; simp; omega
theorem one2_p {nm : List ByteArray} {nv : V} (hn : IsSl 1 nv (nm.map sV)) (hnl : nm.length ≤ 1000) {l : List Rw} {lv : V} {vs : List V} (h1 : IsSl 3 lv vs) (h2 : All2 IsRw l vs) :
    PFn Try.prog T 59 [lv,nv] (IsEx (oneS nm l)) := by
  have hrow := fun o => h1.row o
  intro yi hy
  refine Call.step hy ?_
  rw [body_eq t59]
  cases l with
  | nil =>
    rw [show vs = [] from h2] at h1
    have hrow := fun o => h1.row o
    simp only [c59,c59x1,c59x2,c59x3,RUA,RUB,RUC,RUD,RUE,RUF,if_true,if_false,Int.reduceEq,Int.reduceLT,Int.reduceLE,qC,qO,qA,qS,qU,Nat.reduceEqDiff,qT,E.at,qR,Nat.reduceAdd,Nat.reduceSub,Nat.reduceLeDiff,Nat.reduceMul,qI,qP,qQ,hrow,fillC,rets]
    exact frE (x := .mk 1 1 emp []) ⟨nilV,[],rfl,.inl ⟨rfl,rfl⟩,by simp,rfl⟩ _
  | cons r l =>
    obtain ⟨v,ws,rfl,hr,_⟩ := h2
    have hr' := hr
    have hI := h1.ix0 rfl
    rcases r with ⟨k,n,rl⟩
    have hlen : decide (((v :: ws).length : Int) = 0) = false := by simp; omega
    show Pe.ev _ _ _ _ _ _ _ _ _
    obtain ⟨lv1,us,rfl,_,_,g1,g2,g3⟩ := hr
    have hlen' : decide (((ws.length + 1 : Nat) : Int) = 0) = false := by simp; omega
    simp only [c59,c59x1,c59x2,c59x3,RUA,RUB,RUC,RUD,RUE,RUF,if_true,if_false,Int.reduceEq,Int.reduceLT,Int.reduceLE,qC,qO,qA,qS,qU,Nat.reduceEqDiff,qT,E.at,qR,Nat.reduceAdd,Nat.reduceSub,Nat.reduceLeDiff,Nat.reduceMul,qI,qP,qQ,hrow,hlen',hI]
    refine (make2_p hn hnl _ _ hr').callF rfl (fun x hx => by simp only [List.mem_cons,List.not_mem_nil,or_false] at hx; rcases hx with rfl | rfl <;> first | exact hr'.ok.1 | exact hn.freeV) fun z hz => ?_
    have hz' := hz
    show Pe.oK _ _
    have e : oneS nm (Rw.mk k n rl :: l) = mkS nm (Rw.mk k n rl) := rfl
    rw [e]
    generalize mkS nm (Rw.mk k n rl) = ee at hz hz' ⊢
    rcases ee with ⟨a,b,c,d⟩
    obtain ⟨zv,zs,rfl,q1,q2,q3⟩ := hz
    have honez : zv.one = true := free1_one q1.free
    simp only [c59,c59x1,c59x2,c59x3,RUA,RUB,RUC,RUD,RUE,RUF,if_true,if_false,Int.reduceEq,Int.reduceLT,Int.reduceLE,qC,qO,qA,qS,qU,Nat.reduceEqDiff,qT,E.at,qR,Nat.reduceAdd,Nat.reduceSub,Nat.reduceLeDiff,Nat.reduceMul,qI,qP,qQ,honez,rets]
    exact frE hz' _
end Go.Proofs.Ytfncfdiomolieaa
end

section
set_option linter.unusedVariables false
set_option linter.unusedSimpArgs false
set_option maxRecDepth 100000
set_option maxHeartbeats 4000000
open Go.Proofs.Pe renaming putCells → qC, bslOf → qO, bsaOf → qA, bslS → qS, isUpto → qU, step → qT, intOf → qI, iop → qP, sop → qQ
open List renaming replicate → qR
open Go.Proofs.Pe.V renaming dead → qD
namespace Go.Proofs.Ytfncfdiomolieaa
open Go.Proofs.Pe

theorem size3_p : ∀ (r : Nat),r ≤ 9 → ∀ (x : R3) {u : V},IsR3 x u → ∀ {d : Int},d = 9 - r → PFn Try.prog T 46 [u,iV d] fun z => ∃ n : Int,z = iV n
  | 0,_,.mk k a b e l,u,hu,d,hd => by
    obtain rfl : d = 9 := by omega
    obtain ⟨ev,evs,lv,vs,rfl,e1,e2,e3,h1,h2,h3⟩ := hu
    have hone : lv.one = true := free1_one h1.free
    have hone1 : ev.one = true := free1_one e1.free
    intro yi hy
    refine Call.step hy ?_
    rw [body_eq t46]
    simp only [c46,c46x1,c46x2,c46x3,c46x4,c46x5,c46x6,c46x7,c46x8,c46x9,c46x10,RUA,RUB,RUC,RUD,RUE,RUF,if_true,if_false,Int.reduceEq,Int.reduceLT,Int.reduceLE,qC,qO,qA,qS,qU,Nat.reduceEqDiff,qT,E.at,qR,Nat.reduceAdd,Nat.reduceSub,Nat.reduceLeDiff,Nat.reduceMul,qI,qP,qQ,hone,hone1]
    exact ⟨_,_,rfl,_,rfl⟩
  | r + 1,hr,.mk k a b e l,u,hu,d,hd => by
    obtain ⟨ev,evs,lv,vs,rfl,e1,e2,e3,h1,h2,h3⟩ := hu
    rw [isR3s_all] at h3
    have hone : lv.one = true := free1_one h1.free
    have hone1 : ev.one = true := free1_one e1.free
    have hrow := fun o => h1.row o
    have hq : decide (8 < d) = false := by simp; omega
    have hlen := h3.len
    unfold maxLen at h2
    intro yi hy
    refine Call.step hy ?_
    rw [body_eq t46]
    simp only [c46,c46x1,c46x2,RUA,RUB,RUC,RUD,RUE,RUF,if_true,if_false,Int.reduceEq,Int.reduceLT,Int.reduceLE,qC,qO,qA,qS,qU,Nat.reduceEqDiff,qT,E.at,qR,Nat.reduceAdd,Nat.reduceSub,Nat.reduceLeDiff,Nat.reduceMul,qI,qP,qQ,hone,hone1,hq]
    refine (few2_p e1 e3 e2).callE rfl (cf1 e1.freeV _) rfl ?_
    cases hf : decide (szL 9 e ≤ 20) with
    | false =>
      simp only [c46,c46x1,c46x2,c46x3,RUA,RUB,RUC,RUD,RUE,RUF,if_true,if_false,Int.reduceEq,Int.reduceLT,Int.reduceLE,qC,qO,qA,qS,qU,Nat.reduceEqDiff,qT,E.at,qR,Nat.reduceAdd,Nat.reduceSub,Nat.reduceLeDiff,Nat.reduceMul,qI,qP,qQ]
      exact ⟨_,_,rfl,_,rfl⟩
    | true =>
      simp only [c46,c46x1,c46x2,c46x3,c46x4,c46x5,c46x5,RUA,RUB,RUC,RUD,RUE,RUF,if_true,if_false,Int.reduceEq,Int.reduceLT,Int.reduceLE,qC,qO,qA,qS,qU,Nat.reduceEqDiff,qT,E.at,qR,Nat.reduceAdd,Nat.reduceSub,Nat.reduceLeDiff,Nat.reduceMul,qI,qP,qQ]
      refine Lfp.inv call_le hy (fun s : Nat × Int => ⟨⟨[.dead,iV d,.pt 0 0,.dead,.dead,iV s.2,iV s.1,.dead,.dead,.dead,.dead,.dead,.dead,.dead,.dead,.dead,.dead,.dead,.dead,.dead,.dead,.dead,.dead,.dead,.dead,.dead,.dead,.dead,.dead,.dead,.dead,.dead,.dead,.dead,.dead,.dead,.dead],[.cells [iV k,iV a,iV b,ev,lv]]⟩,[]⟩) (fun s => vs.length - s.1)
        (fun s => s.1 ≤ vs.length) (0,1) (by simp) (by simp only [kill_L,killTs_nil,RUF] <;> rfl) ?_
      rintro ⟨i,n⟩ hi
      dsimp only at hi
      by_cases hlt : i < vs.length
      · have hd1 : decide ((i : Int) < (vs.length : Int)) = true := by simpa using hlt
        have hx : vs[i]? = some vs[i] := List.getElem?_eq_getElem hlt
        have hxl : l[i]? = some l[i] := List.getElem?_eq_getElem (by omega)
        have hE := h3.get hx hxl
        generalize hgv : vs[i] = u at hx hE
        generalize hgx : l[i] = x at hxl hE
        have hE' := hE
        rcases x with ⟨k1,a1,b1,ee1,l1⟩
        obtain ⟨ev1,evs1,lv1,us1,rfl,_⟩ := hE
        have hI := fun o => h1.ix o hx
        have hw1 : IntKind.i64.wrap ((i : Int) + 1) = ((i + 1 : Nat) : Int) := wrap_succ (by omega)
        have hw2 : IntKind.i64.wrap (d + 1) = d + 1 := wrap_in (by unfold I64; omega)
        cases hn : decide (n ≤ 40) with
        | false =>
          simp only [c46,c46x1,c46x2,c46x3,c46x4,c46x5,c46x6,c46x7,c46x8,c46x9,c46x10,RUA,RUB,RUC,RUD,RUE,RUF,if_true,if_false,Int.reduceEq,Int.reduceLT,Int.reduceLE,qC,qO,qA,qS,qU,Nat.reduceEqDiff,qT,E.at,qR,Nat.reduceAdd,Nat.reduceSub,Nat.reduceLeDiff,Nat.reduceMul,qI,qP,qQ,hrow,hd1,hn]
          exact ⟨_,_,rfl,_,rfl⟩
        | true =>
          simp only [c46,c46x1,c46x2,c46x3,c46x4,c46x5,c46x6,c46x7,c46x8,c46x9,c46x10,RUA,RUB,RUC,RUD,RUE,RUF,if_true,if_false,Int.reduceEq,Int.reduceLT,Int.reduceLE,qC,qO,qA,qS,qU,Nat.reduceEqDiff,qT,E.at,qR,Nat.reduceAdd,Nat.reduceSub,Nat.reduceLeDiff,Nat.reduceMul,qI,qP,qQ,hrow,hd1,hn,hI,hw2]
          refine (size3_p r (by omega) _ hE' (d := d + 1) (by omega)).callB rfl (cf2 hE'.ok.1 rfl _) (fun z hz => by obtain ⟨m,rfl⟩ := hz; rfl) fun z hz => ?_
          obtain ⟨m,rfl⟩ := hz
          simp only [c46,c46x1,c46x2,c46x3,c46x4,c46x5,c46x6,c46x7,c46x8,c46x9,c46x10,RUA,RUB,RUC,RUD,RUE,RUF,if_true,if_false,Int.reduceEq,Int.reduceLT,Int.reduceLE,qC,qO,qA,qS,qU,Nat.reduceEqDiff,qT,E.at,qR,Nat.reduceAdd,Nat.reduceSub,Nat.reduceLeDiff,Nat.reduceMul,qI,qP,qQ,hw1]
          exact ⟨(i + 1,_),by simp only; omega,by simp only; omega,rfl⟩
      · have hd1 : decide ((i : Int) < (vs.length : Int)) = false := by simpa using hlt
        simp only [c46,c46x1,c46x2,c46x3,c46x4,c46x5,c46x6,c46x7,c46x8,c46x9,c46x10,RUA,RUB,RUC,RUD,RUE,RUF,if_true,if_false,Int.reduceEq,Int.reduceLT,Int.reduceLE,qC,qO,qA,qS,qU,Nat.reduceEqDiff,qT,E.at,qR,Nat.reduceAdd,Nat.reduceSub,Nat.reduceLeDiff,Nat.reduceMul,qI,qP,qQ,hrow,hd1]
        exact ⟨_,_,rfl,_,rfl⟩
theorem fewS3_p {l : List R3} {lv : V} {vs : List V} (h1 : IsSl 5 lv vs) (h3 : All2 IsR3 l vs) (h2 : vs.length ≤ maxLen) : PFn Try.prog T 34 [.agg [iV 0,iV 0,lv]] fun z => ∃ b,z = bV b ∧ (b = true → vs.length ≤ 5) := by
  have hone : lv.one = true := free1_one h1.free
  have hrow := fun o => h1.row o
  have hlen := h3.len
  unfold maxLen at h2
  intro yi hy
  refine Call.step hy ?_
  rw [body_eq t34]
  simp only [c34,c34x1,c34x2,c34x3,c34x3,RUA,RUB,RUC,RUD,RUE,RUF,if_true,if_false,Int.reduceEq,Int.reduceLT,Int.reduceLE,qC,qO,qA,qS,qU,Nat.reduceEqDiff,qT,E.at,qR,Nat.reduceAdd,Nat.reduceSub,Nat.reduceLeDiff,Nat.reduceMul,qI,qP,qQ,hone]
  refine Lfp.inv call_le hy (fun s : Nat × Int => ⟨⟨[.dead,.pt 0 0,.dead,iV s.2,iV s.1,.dead,.dead,.dead,.dead,.dead,.dead,.dead,.dead,.dead,.dead,.dead,.dead,.dead,.dead,.dead,.dead,.dead,.dead,.dead,.dead,.dead,.dead,.dead],[.cells [iV 0,iV 0,lv]]⟩,[]⟩) (fun s => vs.length - s.1)
    (fun s => s.1 ≤ vs.length) (0,0) (by simp) (by simp only [kill_L,killTs_nil,RUF] <;> rfl) ?_
  rintro ⟨i,n⟩ hi
  dsimp only at hi
  by_cases hlt : i < vs.length
  · have hd1 : decide ((i : Int) < (vs.length : Int)) = true := by simpa using hlt
    have hx : vs[i]? = some vs[i] := List.getElem?_eq_getElem hlt
    have hxl : l[i]? = some l[i] := List.getElem?_eq_getElem (by omega)
    have hE := h3.get hx hxl
    generalize hgv : vs[i] = u at hx hE
    generalize hgx : l[i] = x at hxl hE
    have hE' := hE
    rcases x with ⟨k1,a1,b1,ee1,l1⟩
    obtain ⟨ev1,evs1,lv1,us1,rfl,_⟩ := hE
    have hI := fun o => h1.ix o hx
    have hw1 : IntKind.i64.wrap ((i : Int) + 1) = ((i + 1 : Nat) : Int) := wrap_succ (by omega)
    simp only [c34,c34x1,c34x2,c34x3,c34x4,c34x5,c34x6,c34x7,c34x8,RUA,RUB,RUC,RUD,RUE,RUF,if_true,if_false,Int.reduceEq,Int.reduceLT,Int.reduceLE,qC,qO,qA,qS,qU,Nat.reduceEqDiff,qT,E.at,qR,Nat.reduceAdd,Nat.reduceSub,Nat.reduceLeDiff,Nat.reduceMul,qI,qP,qQ,hrow,hd1,hI]
    refine (size3_p 9 (by omega) _ hE' (d := 0) (by omega)).callB rfl (cf2 hE'.ok.1 rfl _) (fun z hz => by obtain ⟨m,rfl⟩ := hz; rfl) fun z hz => ?_
    obtain ⟨m,rfl⟩ := hz
    simp only [c34,c34x1,c34x2,c34x3,c34x4,c34x5,c34x6,c34x7,c34x8,RUA,RUB,RUC,RUD,RUE,RUF,if_true,if_false,Int.reduceEq,Int.reduceLT,Int.reduceLE,qC,qO,qA,qS,qU,Nat.reduceEqDiff,qT,E.at,qR,Nat.reduceAdd,Nat.reduceSub,Nat.reduceLeDiff,Nat.reduceMul,qI,qP,qQ,hw1]
    exact ⟨(i + 1,_),by simp only; omega,by simp only; omega,rfl⟩
  · have hd1 : decide ((i : Int) < (vs.length : Int)) = false := by simpa using hlt
    by_cases h5 : vs.length ≤ 5
    · have d5 : decide ((vs.length : Int) ≤ 5) = true := by simp; omega
      simp only [c34,c34x1,c34x2,c34x3,c34x4,c34x5,c34x6,c34x7,c34x8,RUA,RUB,RUC,RUD,RUE,RUF,if_true,if_false,Int.reduceEq,Int.reduceLT,Int.reduceLE,qC,qO,qA,qS,qU,Nat.reduceEqDiff,qT,E.at,qR,Nat.reduceAdd,Nat.reduceSub,Nat.reduceLeDiff,Nat.reduceMul,qI,qP,qQ,hrow,hd1,d5]
      exact ⟨_,_,rfl,_,rfl,fun _ => h5⟩
    · have d5 : decide ((vs.length : Int) ≤ 5) = false := by simp; omega
      simp only [c34,c34x1,c34x2,c34x3,c34x4,c34x5,c34x6,c34x7,c34x8,RUA,RUB,RUC,RUD,RUE,RUF,if_true,if_false,Int.reduceEq,Int.reduceLT,Int.reduceLE,qC,qO,qA,qS,qU,Nat.reduceEqDiff,qT,E.at,qR,Nat.reduceAdd,Nat.reduceSub,Nat.reduceLeDiff,Nat.reduceMul,qI,qP,qQ,hrow,hd1,d5]
      exact ⟨_,_,rfl,_,rfl,fun h => by cases h⟩
theorem few_p {l : List R3} {lv : V} {vs : List V} (h1 : IsSl 5 lv vs) (h3 : All2 IsR3 l vs) (h2 : vs.length ≤ maxLen) : PFn Try.prog T 17 [lv] fun z => ∃ b,z = bV b ∧ (b = true → vs.length ≤ 5) := by
  have hfr : (V.agg [iV 0,iV 0,lv]).free = true := by simp only [free_agg,List.all_cons,List.all_nil,free1_sc,h1.free,Bool.and_self]
  intro yi hy
  refine Call.step hy ?_
  rw [body_eq t17]
  have hs := h1.solid
  have hc := h1.cells
  simp only [c17,c17x1,RUA,RUB,RUC,RUD,RUE,RUF,if_true,if_false,Int.reduceEq,Int.reduceLT,Int.reduceLE,qC,qO,qA,qS,qU,Nat.reduceEqDiff,qT,E.at,qR,Nat.reduceAdd,Nat.reduceSub,Nat.reduceLeDiff,Nat.reduceMul,qI,qP,qQ,fillC,hs,hc]
  refine (fewS3_p h1 h3 h2).callB rfl (cf1 hfr _) (fun z hz => by obtain ⟨m,rfl,_⟩ := hz; rfl) fun z hz => ?_
  obtain ⟨b,rfl,hb⟩ := hz
  exact ⟨_,_,rfl,b,rfl,hb⟩
end Go.Proofs.Ytfncfdiomolieaa
end

section
set_option linter.unusedVariables false
set_option linter.unusedSimpArgs false
set_option maxRecDepth 100000
set_option maxHeartbeats 4000000
open Go.Proofs.Pe renaming putCells → qC, bslOf → qO, bsaOf → qA, bslS → qS, isUpto → qU, step → qT, intOf → qI, iop → qP, sop → qQ
open List renaming replicate → qR
open Go.Proofs.Pe.V renaming dead → qD
namespace Go.Proofs.Ytfncfdiomolieaa
open Go.Proofs.Pe

theorem within3_p (a : Int) (n : Int) (hn : 0 < n) (hn2 : n ≤ 1000000) : PFn Try.prog T 49 [iV a,iV n] fun z => z = iV (withinI a n) := by
  intro yi hy
  refine Call.step hy ?_
  rw [body_eq t49]
  have h0 : ¬ n = 0 := by omega
  have h1 := Int.tmod_lt_of_pos a hn
  have h2 := neg_lt_tmod a hn
  by_cases hlt : a.tmod n < 0
  · have hd : decide (a.tmod n < 0) = true := by simpa using hlt
    have hw : IntKind.i64.wrap (a.tmod n + n) = withinI a n := by rw [wrap_ok (by omega) (by omega)]; unfold withinI; rw [if_pos hlt]
    simp only [c49,c49x1,c49x2,c49x3,c49x4,RUA,RUB,RUC,RUD,RUE,RUF,if_true,if_false,Int.reduceEq,Int.reduceLT,Int.reduceLE,qC,qO,qA,qS,qU,Nat.reduceEqDiff,qT,E.at,qR,Nat.reduceAdd,Nat.reduceSub,Nat.reduceLeDiff,Nat.reduceMul,qI,qP,qQ,h0,hd,hw]
    exact ⟨_,_,rfl,rfl⟩
  · have hw : a.tmod n = withinI a n := by unfold withinI; rw [if_neg hlt]
    have hd : decide (a.tmod n < 0) = false := by simpa using hlt
    simp only [c49,c49x1,c49x2,c49x3,c49x4,RUA,RUB,RUC,RUD,RUE,RUF,if_true,if_false,Int.reduceEq,Int.reduceLT,Int.reduceLE,qC,qO,qA,qS,qU,Nat.reduceEqDiff,qT,E.at,qR,Nat.reduceAdd,Nat.reduceSub,Nat.reduceLeDiff,Nat.reduceMul,qI,qP,qQ,h0,hd]
    exact ⟨_,_,rfl,by rw [hw]⟩
def nmV : List ByteArray := [⟨#[120]⟩,⟨#[121]⟩,⟨#[116,111,116,97,108]⟩]
def nmS : List ByteArray := [⟨#[115]⟩,⟨#[117,110,100,111]⟩]
def nmD : List ByteArray := [⟨#[109,97,105,110]⟩,⟨#[112]⟩,⟨#[113]⟩,⟨#[114,101,116,114,121]⟩,⟨#[108,97,115,116]⟩]
def nmA : List ByteArray := [⟨#[112,97,121]⟩,⟨#[115,104,105,112]⟩,⟨#[97,115,107]⟩]
def vV : V := .sl 1 true (nmV.map sV)
def sVl : V := .sl 1 true (nmS.map sV)
def dV : V := .sl 1 true (nmD.map sV)
theorem vars_p : PFn Try.prog T 48 [] fun z => z = vV := by
  intro yi hy
  refine Call.step hy ?_
  rw [body_eq t48]
  simp only [c48,c48x1,RUA,RUB,RUC,RUD,RUE,RUF,if_true,if_false,Int.reduceEq,Int.reduceLT,Int.reduceLE,qC,qO,qA,qS,qU,Nat.reduceEqDiff,qT,E.at,qR,Nat.reduceAdd,Nat.reduceSub,Nat.reduceLeDiff,Nat.reduceMul,qI,qP,qQ]
  exact ⟨_,_,rfl,rfl⟩
theorem stacks_p : PFn Try.prog T 47 [] fun z => z = sVl := by
  intro yi hy
  refine Call.step hy ?_
  rw [body_eq t47]
  simp only [c47,c47x1,RUA,RUB,RUC,RUD,RUE,RUF,if_true,if_false,Int.reduceEq,Int.reduceLT,Int.reduceLE,qC,qO,qA,qS,qU,Nat.reduceEqDiff,qT,E.at,qR,Nat.reduceAdd,Nat.reduceSub,Nat.reduceLeDiff,Nat.reduceMul,qI,qP,qQ]
  exact ⟨_,_,rfl,rfl⟩
theorem defs_p : PFn Try.prog T 50 [] fun z => z = dV := by
  intro yi hy
  refine Call.step hy ?_
  rw [body_eq t50]
  simp only [c50,c50x1,RUA,RUB,RUC,RUD,RUE,RUF,if_true,if_false,Int.reduceEq,Int.reduceLT,Int.reduceLE,qC,qO,qA,qS,qU,Nat.reduceEqDiff,qT,E.at,qR,Nat.reduceAdd,Nat.reduceSub,Nat.reduceLeDiff,Nat.reduceMul,qI,qP,qQ]
  exact ⟨_,_,rfl,rfl⟩
theorem ixN {nm : List ByteArray} {f : Bool} (i : Nat) (hi : i < nm.length) (o : List O) : ixOf 1 o (.sl 1 f (nm.map sV)) (iV i) = some (.ep [sV (nm.getD i emp)],o) := by
  have h : (nm.map sV)[i]? = some (sV (nm.getD i emp)) := by rw [List.getElem?_map,List.getD_eq_getElem?_getD,List.getElem?_eq_getElem hi]; rfl
  exact IsSl.ix (.inr ⟨f,rfl⟩) o h
theorem w3 {a n : Int} {nm : List ByteArray} {f : Bool} (hn : 0 < n) (h : n = nm.length) : ∃ s : ByteArray,∀ o,ixOf 1 o (.sl 1 f (nm.map sV)) (iV (withinI a n)) = some (.ep [sV s],o) := by
  obtain ⟨i,hi,hi2⟩ := natI (a := a) (n := n) hn
  exact ⟨_,fun o => by rw [hi]; exact ixN i (by omega) o⟩
theorem part3_p {k a b : Int} {e : List Rw} {l : List R3} {u : V} (h : IsR3 (.mk k a b e l) u) (i : Nat) (hi : i < 1000) (d : Int) (ih : ∀ x ∈ l,∀ u,IsR3 x u → ∀ d,PFn Try.prog T 51 [u,iV d] prP) :
    PFn Try.prog T 58 [u,iV i,iV d] prP := by
  obtain ⟨ev,evs,lv,vs,rfl,e1,e2,e3,h1,h2,h3⟩ := h
  rw [isR3s_all] at h3
  have hone : lv.one = true := free1_one h1.free
  have hone1 : ev.one = true := free1_one e1.free
  have hrow := fun o => h1.row o
  have hlen := h3.len
  intro yi hy
  refine Call.step hy ?_
  rw [body_eq t58]
  by_cases hlt : i < vs.length
  · have hd1 : decide ((i : Int) < (vs.length : Int)) = true := by simpa using hlt
    have hx : vs[i]? = some vs[i] := List.getElem?_eq_getElem hlt
    have hxl : l[i]? = some l[i] := List.getElem?_eq_getElem (by omega)
    have hE := h3.get hx hxl
    have hmem : l[i] ∈ l := List.getElem_mem _
    generalize hgv : vs[i] = u at hx hE
    generalize hgx : l[i] = x at hxl hE hmem
    have hE' := hE
    rcases x with ⟨k1,a1,b1,ee1,l1⟩
    obtain ⟨ev1,evs1,lv1,us1,rfl,_⟩ := hE
    have hI := fun o => h1.ix o hx
    cases hd : decide (d < 6) with
    | true =>
      simp only [c58,c58x1,c58x2,c58x3,RUA,RUB,RUC,RUD,RUE,RUF,if_true,if_false,Int.reduceEq,Int.reduceLT,Int.reduceLE,qC,qO,qA,qS,qU,Nat.reduceEqDiff,qT,E.at,qR,Nat.reduceAdd,Nat.reduceSub,Nat.reduceLeDiff,Nat.reduceMul,qI,qP,qQ,hone,hone1,hrow,hd1,hd,hI]
      refine (ih _ hmem _ hE' _).callF rfl (fun x hx => by simp only [List.mem_cons,List.not_mem_nil,or_false] at hx; rcases hx with rfl | rfl <;> first | exact hE'.ok.1 | rfl) fun z hz => ?_
      have hz' := hz
      obtain ⟨⟨pk,pn,pt,⟨qk,qn,qm,ql⟩,pl⟩,hz1,hz2⟩ := hz
      obtain ⟨ev2,evs2,lv2,vs2,rfl,g1,_,_,g2,_⟩ := hz1
      have ho1 : ev2.one = true := free1_one g1.free
      have ho2 : lv2.one = true := free1_one g2.free
      simp only [c58,c58x1,c58x2,c58x3,RUA,RUB,RUC,RUD,RUE,RUF,if_true,if_false,Int.reduceEq,Int.reduceLT,Int.reduceLE,qC,qO,qA,qS,qU,Nat.reduceEqDiff,qT,E.at,qR,Nat.reduceAdd,Nat.reduceSub,Nat.reduceLeDiff,Nat.reduceMul,qI,qP,qQ,ho1,ho2,rets]
      exact hz'.fr _
    | false =>
      simp only [c58,c58x1,c58x2,c58x3,RUA,RUB,RUC,RUD,RUE,RUF,if_true,if_false,Int.reduceEq,Int.reduceLT,Int.reduceLE,qC,qO,qA,qS,qU,Nat.reduceEqDiff,qT,E.at,qR,Nat.reduceAdd,Nat.reduceSub,Nat.reduceLeDiff,Nat.reduceMul,qI,qP,qQ,hone,hone1,hrow,hd1,hd,fillC,rets]
      exact (prLeaf 0 (by decide) _ _).fr _
  · have hd1 : decide ((i : Int) < (vs.length : Int)) = false := by simpa using hlt
    simp only [c58,c58x1,c58x2,c58x3,RUA,RUB,RUC,RUD,RUE,RUF,if_true,if_false,Int.reduceEq,Int.reduceLT,Int.reduceLE,qC,qO,qA,qS,qU,Nat.reduceEqDiff,qT,E.at,qR,Nat.reduceAdd,Nat.reduceSub,Nat.reduceLeDiff,Nat.reduceMul,qI,qP,qQ,hone,hone1,hrow,hd1,fillC,rets]
    exact (prLeaf 0 (by decide) _ _).fr _
theorem prP.agg {z : V} (h : prP z) : ∃ pk pn pt qk qn qm ev lv,z = .agg [iV pk,sV pn,sV pt,iV qk,iV qn,sV qm,ev,lv] ∧ ev.one = true ∧ lv.one = true := by
  obtain ⟨⟨pk,pn,pt,⟨qk,qn,qm,ql⟩,pl⟩,hz1,hz2⟩ := h
  obtain ⟨ev2,evs2,lv2,vs2,rfl,g1,_,_,g2,_⟩ := hz1
  exact ⟨pk,pn,pt,qk,qn,qm,ev2,lv2,rfl,free1_one g1.free,free1_one g2.free⟩
end Go.Proofs.Ytfncfdiomolieaa
end
