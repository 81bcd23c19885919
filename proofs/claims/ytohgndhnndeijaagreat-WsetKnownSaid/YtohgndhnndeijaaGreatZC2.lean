/- Texts put behind one another: AxCOps, AxCLaw23, AxCGauss, AxCSuper, AxCImage, AxCWset. Conditions: none. -/
import Derived.Test.YtohgndhnndeijaaGreatZC1
import Derived.Test.YtohgndhnndeijaaGreatProg
import Derived.KernelRfl
set_option linter.all false
open Go.Proofs.Tryz renaming prog -> Qa
namespace Go.Proofs.YtohgndhnndeijaaGreat.Ax
open Go Go.Ax
set_option maxRecDepth 100000
abbrev k62_11:=ze (za [zQ 63 25 9,zV 62 63] (zb 62 zd (.region [zQ 64 25 10,zV 62 64]))) (zb 62 (za [zL 65 5 3,zV 66 1,zL 67 6 5,zu 68 104 65 66 67,zE 69 68 0,zE 70 68 1,zS 5 6 69,zS 3 7 70] zc) zd)
abbrev k62_12:=ze (za [zQ 54 25 7,zV 53 54] (zb 53 zd (.region [zQ 55 25 8,zV 53 55]))) (zb 53 (za [zL 56 5 3,zV 57 1,zL 58 6 5,zu 59 103 56 57 58,zE 60 59 0,zE 61 59 1,zS 5 6 60,zS 3 7 61] zc) k62_11)
abbrev k62_13:=ze (za [zQ 45 25 5,zV 44 45] (zb 44 zd (.region [zQ 46 25 6,zV 44 46]))) (zb 44 (za [zL 47 5 3,zV 48 1,zL 49 6 5,zu 50 102 47 48 49,zE 51 50 0,zE 52 50 1,zS 5 6 51,zS 3 7 52] zc) k62_12)
abbrev k62_14:=ze (za [zQ 35 25 2,zV 34 35] (zb 34 zd (za [zQ 36 25 3,zV 34 36] (zb 34 zd (.region [zQ 37 25 4,zV 34 37]))))) (zb 34 (za [zL 38 5 3,zV 39 1,zL 40 6 5,zu 41 101 38 39 40,zE 42 41 0,zE 43 41 1,zS 5 6 42,zS 3 7 43] zc) k62_13)
abbrev k62_15:AD:= .block 0 (za [zQ 27 25 1,zV 26 27] (zb 26 (za [zL 28 5 3,zV 29 1,zL 30 6 5,zu 31 100 28 29 30,zE 32 31 0,zE 33 31 1,zS 5 6 32,zS 3 7 33] zc) k62_14))
abbrev k62_17:=ze (za [zF 24 0 5,zM 25 24] k62_15) (za [zL 71 5 3,zV 72 1,zL 73 6 5,zu 74 105 71 72 73,zE 75 74 0,zE 76 74 1,zS 5 6 75,zS 3 7 76] zc)
abbrev k62_18:=ze (za [zL 8 5 3,zi 9 64 8,zN 10 9,zV 11 10,z7 12 11 6 5,ym 13 11 98 12,yf 14 11 13,zO 15 11 14,zV 16 15,z7 17 16 5 3,zT 18 1 16,ju 19 16 99 17 18,yf 20 16 19,zO 21 16 20] (zb 21 (za [zL 22 5 3,zo 23 1,zS 5 6 22,zS 3 7 23] zc) zd)) k62_17
abbrev c62:=za [zl 3 0,zl 5 2,zf 6,zC 7] k62_18
theorem ok62:Ao Qa 62 c62 77 [.c 6 (some 5),.c 7 (some 3)]=true:=by kernel_rfl
abbrev c99:=za [zl 2 0,zt 4] (za [zV 5 1,zP 6 5 0,zV 7 6,zH 8 1 7,zR 9 7 0 2,zR 10 7 0 9,z8 11 7 10,yD 12 7 8 11,zA 13 7 12,zV 4 13] zc)
theorem ok99:Ao Qa 99 c99 14 [.t 4]=true:=by kernel_rfl
abbrev k100_2:=ze (za [zV 19 10,zw 20 19 0] (zb 20 (za [zL 21 5 3,zV 22 10,zp 23 0 22,zS 5 6 21,zS 3 7 23] zc) zd)) (za [zL 24 5 8,zV 25 9,zp 26 2 25,zS 5 6 24,zS 3 7 26] zc)
abbrev k100_3:=za [zL 12 5 3,zV 13 1,zL 14 6 5,zu 15 148 12 13 14,zV 11 15,zE 16 11 0,zE 17 11 1,zE 18 11 2,zf 8,zS 5 8 16,zV 9 17,zV 10 18] k100_2
abbrev c100:=za [zl 3 0,zl 5 2,zf 6,zC 7] k100_3
theorem ok100:Ao Qa 100 c100 27 [.c 6 (some 5),.c 7 (some 3)]=true:=by kernel_rfl
abbrev k101_2:=ze (za [zV 17 9,zw 18 17 0] (zb 18 (za [zL 19 5 3,zV 20 9,zp 21 0 20,zS 5 6 19,zS 3 7 21] zc) zd)) (za [zL 22 5 8,yH 23,zS 5 6 22,zS 3 7 23] zc)
abbrev k101_3:=za [zL 11 5 3,zV 12 1,zL 13 6 5,zu 14 149 11 12 13,zV 10 14,zE 15 10 0,zE 16 10 1,zf 8,zS 5 8 15,zV 9 16] k101_2
abbrev c101:=za [zl 3 0,zl 5 2,zf 6,zC 7] k101_3
theorem ok101:Ao Qa 101 c101 24 [.c 6 (some 5),.c 7 (some 3)]=true:=by kernel_rfl
abbrev k102_4:=za [zL 52 5 3,zV 53 11,zj 54 152 52 53,zV 51 54,zE 55 51 0,zE 56 51 1,zS 5 3 55,zV 12 56] (za [zL 57 5 3,zV 58 12,zp 59 2 58,zS 5 6 57,zS 3 7 59] zc)
abbrev k102_5:=ze (za [zF 44 0 5,zM 45 44,zQ 46 45 6] (zb 46 (.region [zL 47 5 3,zi 48 111 47,zV 49 8,zj 50 151 48 49,zV 11 50]) zd)) k102_4
abbrev k102_7:=ze (za [zV 37 10,zw 38 37 0] (zb 38 (za [zL 39 5 3,zV 40 10,zp 41 0 40,zS 5 6 39,zS 3 7 41] zc) zd)) (za [zV 42 8,yz 43 42,zV 11 43] k102_5)
abbrev k102_8:=za [zL 29 5 3,zV 30 1,zF 31 1 5,zL 32 1 31,zu 33 150 29 30 32,zV 28 33,zE 34 28 0,zE 35 28 1,zE 36 28 2,zr 9,zV 8 34,zS 4 9 35,zV 10 36] k102_7
abbrev k102_9:=ze (za [zL 13 6 5,zi 14 98 13,zN 15 14,zV 16 15,yb 17 16 0 5,yg 18 16 17,yA 19 16 18 5,zT 20 19 16,zR 21 20 0 5,z8 22 20 21,ya 23 20 22 6,zZ 24 16 20 23,zO 25 16 24] (zb 25 (za [zL 26 5 3,zo 27 1,zS 5 6 26,zS 3 7 27] zc) zd)) k102_8
abbrev c102:=za [zl 3 0,zl 5 2,zf 6,zC 7] k102_9
theorem ok102:Ao Qa 102 c102 60 [.c 6 (some 5),.c 7 (some 3)]=true:=by kernel_rfl
abbrev k103_4:=za [zV 52 11,zF 53 2 9,zM 54 53,zj 55 153 52 54,zN 56 55,zV 51 56] (zb 51 (za [zL 57 5 3,zo 58 6,zS 5 6 57,zS 3 7 58] zc) zd)
abbrev k103_8:=ze (za [zF 59 0 5,zM 60 59,zQ 61 60 7] (zb 61 (za [zL 62 5 3,zV 63 1,zL 64 6 5,zL 65 4 9,jl 66 154 62 63 64 65,zE 67 66 0,zE 68 66 1,zS 5 6 67,zS 3 7 68] zc) zd)) (za [zL 69 5 3,zV 70 1,zL 71 6 5,zL 72 4 9,jl 73 155 69 70 71 72,zE 74 73 0,zE 75 73 1,zS 5 6 74,zS 3 7 75] zc)
abbrev k103_9:=ze (.block 0 (za [zV 40 10,zw 41 40 0,zV 39 41] (zb 39 (za [zL 42 5 3,zV 43 10,zp 44 0 43,zS 5 6 42,zS 3 7 44] zc) (za [zF 46 0 9,zM 47 46,zw 48 47 3,zV 45 48] (zb 45 (za [zL 49 5 3,zo 50 7,zS 5 6 49,zS 3 7 50] zc) k103_4))))) k103_8
abbrev k103_11:=za [zL 28 5 3,zV 29 1,zF 30 1 5,zL 31 1 30,zu 32 150 28 29 31,zV 27 32,zE 33 27 0,zE 34 27 1,zE 35 27 2,zr 9,zV 8 33,zS 4 9 34,zV 10 35] (za [zK 11 2] (ze (za [zF 36 0 5,zM 37 36,zQ 38 37 8] (zb 38 (.region [zK 11 1]) zd)) k103_9))
abbrev k103_12:=ze (za [zL 12 6 5,zi 13 98 12,zN 14 13,zV 15 14,yb 16 15 0 5,yg 17 15 16,yA 18 15 17 7,zT 19 18 15,zR 20 19 0 5,z8 21 19 20,ya 22 19 21 8,zZ 23 15 19 22,zO 24 15 23] (zb 24 (za [zL 25 5 3,zo 26 1,zS 5 6 25,zS 3 7 26] zc) zd)) k103_11
abbrev c103:=za [zl 3 0,zl 5 2,zf 6,zC 7] k103_12
theorem ok103:Ao Qa 103 c103 76 [.c 6 (some 5),.c 7 (some 3)]=true:=by kernel_rfl
abbrev k104_4:=za [zV 53 11,zF 54 2 9,zM 55 54,zj 56 153 53 55,zN 57 56,zV 52 57] (zb 52 (za [zL 58 5 3,zo 59 6,zS 5 6 58,zS 3 7 59] zc) zd)
abbrev k104_8:=za [zF 81 4 3,zM 82 81,zF 83 1 9,zM 84 83,zX 85 13 82 84,zF 86 8 85,⟨none,.st 1 (.t 86) (.c (.int .u64 0)),none⟩] (za [zL 87 5 3,zV 88 12,zp 89 1 88,zS 5 6 87,zS 3 7 89] zc)
abbrev k104_10:=ze (.drawn [(0,zF 90 4 3),(1,zM 91 90),(2,zF 92 1 9),(3,zM 93 92),(5,zF 95 3 9),(6,zM 96 95),(4,zV 94 12),(7,ji 97 96 64),(8,W1 98 (.bin .shl (.c (.int .u64 1)) (.t 97))),(9,jv 99 94 98),(10,zX 100 13 91 93),(11,zF 101 8 100),(12,zS 1 101 99)] [[],[0],[],[2],[],[],[5],[6],[7],[4,8],[1,3,0,1,2,3,4,5,6,7,8,9],[10,0,1,2,3,4,5,6,7,8,9],[11,9,0,1,2,3,4,5,6,7,8,9]] 0) (za [zL 102 5 3,yH 103,zS 5 6 102,zS 3 7 103] zc)
abbrev k104_13:=ze (za [zF 67 0 5,zM 68 67,zQ 69 68 10,zV 70 69,zH 71 12 70,jk 72 70 71,zA 73 70 72] (zb 73 (za [zL 74 5 3,zo 75 14,zS 5 6 74,zS 3 7 75] zc) zd)) (za [zL 76 5 3,zi 77 156 76,zS 5 3 77] (ze (za [zF 78 0 5,zM 79 78,zQ 80 79 10] (zb 80 k104_8 zd)) k104_10))
abbrev k104_15:=ze (.block 0 (za [zV 41 10,zw 42 41 0,zV 40 42] (zb 40 (za [zL 43 5 3,zV 44 10,zp 45 0 44,zS 5 6 43,zS 3 7 45] zc) (za [zF 47 0 9,zM 48 47,zw 49 48 4,zV 46 49] (zb 46 (za [zL 50 5 3,zo 51 7,zS 5 6 50,zS 3 7 51] zc) k104_4))))) (za [zF 60 4 3,zM 61 60,zF 62 1 9,zM 63 62,zX 64 13 61 63,zF 65 8 64,zM 66 65,zV 12 66] k104_13)
abbrev k104_17:=za [zL 29 5 3,zV 30 1,zF 31 1 5,zL 32 1 31,zu 33 150 29 30 32,zV 28 33,zE 34 28 0,zE 35 28 1,zE 36 28 2,zr 9,zV 8 34,zS 4 9 35,zV 10 36] (za [zK 11 2] (ze (za [zF 37 0 5,zM 38 37,zQ 39 38 10] (zb 39 (.region [zK 11 1]) zd)) k104_15))
abbrev k104_18:=ze (za [zL 13 6 5,zi 14 98 13,zN 15 14,zV 16 15,yb 17 16 0 5,yg 18 16 17,yA 19 16 18 9,zT 20 19 16,zR 21 20 0 5,z8 22 20 21,ya 23 20 22 10,zZ 24 16 20 23,zO 25 16 24] (zb 25 (za [zL 26 5 3,zo 27 1,zS 5 6 26,zS 3 7 27] zc) zd)) k104_17
abbrev c104:=za [zl 3 0,zl 5 2,zf 6,zC 7] k104_18
theorem ok104:Ao Qa 104 c104 104 [.c 6 (some 5),.c 7 (some 3)]=true:=by kernel_rfl
abbrev k105_2:=ze (.drawn [(0,zL 56 5 3),(2,zL 58 5 3),(3,zi 59 111 58),(4,zV 60 8),(5,zj 61 157 59 60),(7,zS 5 6 56),(1,zV 57 11),(6,jo 62 57 61),(8,zS 3 7 62)] [[],[],[],[2],[],[3,4,3],[1,5],[0,5,0],[6,7,0,1,2,3,4,5,6,7]] 0) zc
abbrev k105_6:=ze (.drawn [(0,zL 84 5 3),(1,zF 85 4 3),(2,zM 86 85),(3,zF 87 1 9),(4,zM 88 87),(5,zF 89 3 5),(6,zM 90 89),(7,zX 91 13 86 88),(8,zF 92 9 91),(9,jE 93 4 92 90),(10,zM 94 93),(12,zS 5 6 84),(11,zp 95 1 94),(13,zS 3 7 95)] [[],[],[1],[],[3],[],[5],[2,4],[7],[8,6],[9],[10],[0,0],[11,12,0,1,2,3,4,5,6,7,8,9,10,11,12]] 0) zc
abbrev k105_8:=za [zV 73 13,zF 74 2 9,zM 75 74,zj 76 153 73 75,zN 77 76,zV 72 77] (zb 72 (za [zL 78 5 3,zo 79 6,zS 5 6 78,zS 3 7 79] zc) (za [zF 81 0 5,zM 82 81,zQ 83 82 12,zV 80 83] (zb 80 k105_6 zd)))
abbrev k105_10:=ze (.drawn [(0,zF 98 4 3),(1,zM 99 98),(2,zF 100 1 9),(3,zM 101 100),(4,zF 102 3 5),(5,zM 103 102),(6,zF 104 5 5),(7,zM 105 104),(8,zX 106 13 99 101),(9,zF 107 9 106),(10,jE 108 4 107 103),(11,zS 1 108 105)] [[],[0],[],[2],[],[4],[],[6],[1,3],[8],[9,5,0,1,2,3,4,5,6,7],[10,7,0,1,2,3,4,5,6,7]] 0) (za [zL 109 5 3,yH 110,zS 5 6 109,zS 3 7 110] zc)
abbrev k105_12:=ze (.block 0 (za [zF 67 0 9,zM 68 67,zw 69 68 5,zV 66 69] (zb 66 (za [zL 70 5 3,zo 71 7,zS 5 6 70,zS 3 7 71] zc) k105_8))) (za [zL 96 5 3,zi 97 156 96,zS 5 3 97] k105_10)
abbrev k105_14:=ze (za [zF 48 0 5,zM 49 48,zQ 50 49 13] (zb 50 (za [zL 52 4 9,zi 53 67 52,zV 51 53,zE 54 51 0,zE 55 51 1,zV 11 54,zV 12 55] k105_2) zd)) (za [zK 13 2] (ze (za [zF 63 0 5,zM 64 63,zQ 65 64 12] (zb 65 (.region [zK 13 1]) zd)) k105_12))
abbrev k105_16:=za [zL 35 5 3,zV 36 1,zF 37 1 5,zL 38 1 37,zu 39 150 35 36 38,zV 34 39,zE 40 34 0,zE 41 34 1,zE 42 34 2,zr 9,zV 8 40,zS 4 9 41,zV 10 42] (ze (za [zV 43 10,zw 44 43 0] (zb 44 (za [zL 45 5 3,zV 46 10,zp 47 0 46,zS 5 6 45,zS 3 7 47] zc) zd)) k105_14)
abbrev k105_17:=ze (za [zL 14 6 5,zi 15 98 14,zN 16 15,zV 17 16,yb 18 17 0 5,yg 19 17 18,yA 20 17 19 11,zT 21 20 17,zR 22 21 0 5,z8 23 21 22,ya 24 21 23 12,zZ 25 17 21 24,zT 26 25 17,zR 27 26 0 5,z8 28 26 27,ya 29 26 28 13,zZ 30 17 26 29,zO 31 17 30] (zb 31 (za [zL 32 5 3,zo 33 1,zS 5 6 32,zS 3 7 33] zc) zd)) k105_16
abbrev c105:=za [zl 3 0,zl 5 2,zf 6,zC 7] k105_17
theorem ok105:Ao Qa 105 c105 111 [.c 6 (some 5),.c 7 (some 3)]=true:=by kernel_rfl
abbrev k148_4:=za [zF 47 2 10,zM 48 47,W1 49 (.call 153 [(zI 2),(.t 48)]),zN 50 49,zV 46 50] (zb 46 (za [zL 51 5 3,zS 5 6 51,zK 7 0,zK 8 6] zc) zd)
abbrev k148_11:=za [zF 132 3 3,zM 133 132,zV 134 12,zF 135 3 5,zM 136 135,zV 137 16,W1 138 (.build [.int .i64 0,.int .i64 0,.int .i64 0,.int .i64 0] [(0,1,(.t 136)),(1,1,(.t 137)),(2,1,(zI 7))]),zV 139 9,yo 140 138 139,zX 141 5 133 134,zS 5 141 140] (za [zL 142 5 3,zV 143 16,zS 5 6 142,zV 7 143,zK 8 0] zc)
abbrev k148_13:=ze (.drawn [(0,zF 113 4 3),(1,zM 114 113),(3,zF 116 3 5),(4,zM 117 116),(5,zF 118 4 5),(6,zM 119 118),(7,zV 120 17),(8,zu 121 56 117 119 120),(2,zV 115 16),(9,zV 112 121),(10,zE 122 112 0),(12,zX 124 13 114 115),(13,zS 13 124 122),(11,zE 123 112 1)] [[],[0],[],[],[3],[],[5],[],[4,6,7],[8],[9],[9],[1,2,0,1,2,3,4,5,6,7,8,9,10],[12,10,8,0,1,2,3,4,5,6,7,8,9,10]] 0) (za [zF 125 4 3,zM 126 125,zF 127 1 10,zM 128 127,zV 129 15,zX 130 13 126 128,zF 131 4 130,zS 1 131 129] k148_11)
abbrev k148_15:=ze (za [zV 92 15,zF 93 4 3,zM 94 93,zF 95 1 10,zM 96 95,zX 97 13 94 96,zF 98 3 97,zM 99 98,W1 100 (.bin .gtr (.t 92) (.t 99)),zV 101 100,zT 102 14 101,yf 103 101 102,zO 104 101 103,zV 105 104,zT 106 16 105,yj 107 105 106 0,zO 108 105 107] (zb 108 (za [zL 109 5 3,zS 5 6 109,zK 7 0,zK 8 8] zc) zd)) (za [zL 110 5 3,zi 111 156 110,zS 5 3 111] k148_13)
abbrev k148_16:=ze (za [zF 82 3 5,zM 83 82,zQ 84 83 2] (zb 84 (.region [zL 86 5 3,zF 87 4 5,zM 88 87,zj 89 197 86 88,zV 85 89,zE 90 85 0,zE 91 85 1,zV 17 90,zV 14 91]) zd)) k148_15
abbrev k148_18:=za [zL 75 5 3,zV 76 9,zj 77 195 75 76,zV 78 13,zW 79 77 78,zV 15 79] (za [zL 80 5 3,zi 81 196 80,zV 16 81] (za [zK 17 0] k148_16))
abbrev k148_20:=za [zF 65 3 5,zM 66 65,zF 67 4 5,zM 68 67,zj 69 194 66 68,zV 64 69,zE 70 64 0,zE 71 64 1,zV 13 70,zV 14 71] (ze (za [zV 72 14,zN 73 72] (zb 73 (za [zL 74 5 3,zS 5 6 74,zK 7 0,zK 8 1] zc) zd)) k148_18)
abbrev k148_22:=za [zL 53 5 3,zV 54 1,zF 55 2 5,zL 56 1 55,zu 57 193 53 54 56,zV 52 57,zE 58 52 0,zE 59 52 1,zV 12 58,zV 11 59] (ze (za [zV 60 11,zw 61 60 0] (zb 61 (za [zL 62 5 3,zV 63 11,zS 5 6 62,zK 7 0,zV 8 63] zc) zd)) k148_20)
abbrev k148_23:=ze (.block 0 (za [zV 37 11,zw 38 37 0,zV 36 38] (zb 36 (za [zL 39 5 3,zV 40 11,zS 5 6 39,zK 7 0,zV 8 40] zc) (za [zF 42 0 10,zM 43 42,zw 44 43 1,zV 41 44] (zb 41 (za [zL 45 5 3,zS 5 6 45,zK 7 0,zK 8 7] zc) k148_4))))) k148_22
abbrev k148_24:=za [zL 28 5 3,zV 29 1,zF 30 1 5,zL 31 1 30,zu 32 150 28 29 31,zV 27 32,zE 33 27 0,zE 34 27 1,zE 35 27 2,zr 10,zV 9 33,zS 4 10 34,zV 11 35] k148_23
abbrev k148_25:=ze (za [zL 18 6 5,zi 19 98 18,zN 20 19,zV 21 20,yb 22 21 0 5,yg 23 21 22,yA 24 21 23 1,zO 25 21 24] (zb 25 (za [zL 26 5 3,zS 5 6 26,zK 7 0,zK 8 1] zc) zd)) k148_24
abbrev c148:=za [zl 3 0,zl 5 2,zf 6,zK 7 0,zK 8 0] k148_25
theorem ok148:Ao Qa 148 c148 144 [.c 6 (some 5),.t 7,.t 8]=true:=by kernel_rfl
abbrev k149_5:=za [zL 55 4 9,zF 56 4 5,zM 57 56,zj 58 199 55 57,zV 54 58,zE 59 54 0,zE 60 54 1,zS 4 9 59,zV 10 60] (za [zV 61 10,zw 62 61 0] (zb 62 (za [zL 63 5 3,zV 64 10,zS 5 6 63,zV 7 64] zc) zd))
abbrev k149_10:=ze (za [zL 87 5 3,zL 88 4 9,zV 89 11,zu 90 201 87 88 89] (zb 90 (za [zL 91 5 3,zS 5 6 91,zK 7 1] zc) zd)) (za [zL 92 5 3,zV 93 8,zV 94 11,zu 95 202 92 93 94,zS 5 6 95,zK 7 0] zc)
abbrev k149_11:=ze (za [zF 77 0 5,zM 78 77,zw 79 78 4] (zb 79 (za [zL 80 5 3,zV 81 8,zV 82 11,zL 83 4 9,jl 84 200 80 81 82 83,zE 85 84 0,zE 86 84 1,zS 5 6 85,zV 7 86] zc) zd)) k149_10
abbrev k149_13:=za [zL 66 5 3,zV 67 1,zF 68 2 5,zL 69 1 68,zu 70 193 66 67 69,zV 65 70,zE 71 65 0,zE 72 65 1,zV 11 71,zV 10 72] (ze (za [zV 73 10,zw 74 73 0] (zb 74 (za [zL 75 5 3,zV 76 10,zS 5 6 75,zV 7 76] zc) zd)) k149_11)
abbrev k149_15:=ze (za [zF 44 0 5,zM 45 44,zw 46 45 4] (zb 46 (.region [zL 47 4 9,zF 48 3 5,zM 49 48,zj 50 198 47 49,zS 4 9 50]) zd)) (ze (za [zF 51 0 5,zM 52 51,zQ 53 52 3] (zb 53 k149_5 zd)) k149_13)
abbrev k149_17:=za [zL 32 5 3,zV 33 1,zF 34 1 5,zL 35 1 34,zu 36 150 32 33 35,zV 31 36,zE 37 31 0,zE 38 31 1,zE 39 31 2,zr 9,zV 8 37,zS 4 9 38,zV 10 39] (ze (za [zV 40 10,zw 41 40 0] (zb 41 (za [zL 42 5 3,zV 43 10,zS 5 6 42,zV 7 43] zc) zd)) k149_15)
abbrev k149_18:=ze (za [zL 12 6 5,zi 13 98 12,zN 14 13,zV 15 14,yb 16 15 0 5,yg 17 15 16,yA 18 15 17 2,zT 19 18 15,zR 20 19 0 5,z8 21 19 20,ya 22 19 21 3,zZ 23 15 19 22,zT 24 23 15,zR 25 24 0 5,z8 26 24 25,ya 27 24 26 4,zZ 28 15 24 27,zO 29 15 28] (zb 29 (za [zL 30 5 3,zS 5 6 30,zK 7 1] zc) zd)) k149_17
abbrev c149:=za [zl 3 0,zl 5 2,zf 6,zK 7 0] k149_18
theorem ok149:Ao Qa 149 c149 96 [.c 6 (some 5),.t 7]=true:=by kernel_rfl
abbrev k152_3:=ze (.block 1 (za [zX 23 1 19 21,zM 24 23,zV 8 24] (za [zL 25 5 2,zV 26 8,zj 27 207 25 26] (zb 27 (.region [zV 28 6,zh 29 28 1,zV 6 29]) zd)))) (.region [zh 30 21 1,zV 21 30])
def b152_4:=za [zm 22 21 20] (ze (zb 22 zd (.exit 0)) k152_3)
abbrev k152_7:=za [zL 39 5 2,zV 40 10,zj 41 208 39 40,zV 38 41,zE 42 38 0,zE 43 38 1,zV 11 42,zV 12 43] (za [zV 44 6,zV 45 11,zW 46 44 45,zV 6 46] (.region [zV 47 12,zV 48 47,zT 49 9 48,zO 50 48 49,zV 9 50]))
def b152_9:=za [zm 36 35 34] (ze (zb 36 zd (.exit 4)) (ze (.block 5 (za [zV 37 35,zV 10 37] k152_7)) (.region [zh 51 35 1,zV 35 51])))
def b152_11:=ze (za [zV 31 9] (zb 31 zd (.exit 2))) (.block 3 (za [zt 9] (za [zF 32 4 2,zM 33 32,zn 34 33,zK 35 0] (.block 4 (.loop b152_9)))))
abbrev k152_14:=ze (za [zV 19 1,zn 20 19,zK 21 0] (.block 0 (.loop b152_4))) (ze (za [yE 9] (.block 2 (.loop b152_11))) (za [zL 52 5 2,zV 53 6,zS 5 4 52,zV 5 53] zc))
abbrev k152_16:=za [zL 13 5 2,zi 14 156 13,zS 5 2 14] (ze (za [zL 15 5 2,zi 16 64 15,zN 17 16] (zb 17 (za [zL 18 5 2,zS 5 4 18,zK 5 0] zc) zd)) (za [zK 6 0] k152_14))
abbrev c152:=za [zl 2 0,zf 4,zK 5 0] k152_16
theorem ok152:Ao Qa 152 c152 54 [.c 4 (some 5),.t 5]=true:=by kernel_rfl
abbrev k154_4:=ze (.block 0 (za [zV 35 13,zw 36 35 0,zV 34 36] (zb 34 (za [zL 37 5 4,zV 38 13,zp 39 0 38,zS 5 8 37,zS 3 9 39] zc) (za [zF 41 0 12,zM 42 41,zQ 43 42 1,zV 40 43] (zb 40 (za [zL 44 5 4,zo 45 7,zS 5 8 44,zS 3 9 45] zc) zd))))) (.region [zV 46 11,zh 47 46 1,zV 10 47])
abbrev k154_5:=za [zL 26 5 4,zV 27 1,zF 28 2 6,zL 29 1 28,zu 30 150 26 27 29,zV 25 30,zE 31 25 0,zE 32 25 1,zE 33 25 2,zr 12,zV 11 31,zS 4 12 32,zV 13 33] k154_4
abbrev k154_6:=ze (za [zF 19 2 7,zM 20 19,W1 21 (.call 153 [(zI 4),(.t 20)]),zN 22 21] (zb 22 (za [zL 23 5 4,zo 24 6,zS 5 8 23,zS 3 9 24] zc) zd)) k154_5
abbrev k154_9:=za [zF 59 4 4,zM 60 59,zF 61 1 7,zM 62 61,zF 63 5 6,zM 64 63,zF 65 3 7,zM 66 65,zV 67 10,W1 68 (.build [.int .i64 0,.int .i64 0,.int .i64 0,.int .i64 0,.int .i64 0,.int .i64 0,.int .i64 0,.bool false,.int .u64 0,.int .u64 0,.int .u64 0,.int .u64 0,.int .u64 0] [(0,1,(zI 3)),(7,1,(.c (.bool true))),(8,1,(.t 64)),(6,1,(.t 66)),(5,1,(.t 67))]),zX 69 13 60 62,zS 13 69 68] (za [zL 70 5 4,yH 71,zS 5 8 70,zS 3 9 71] zc)
abbrev k154_11:=ze (za [zF 48 4 4,zM 49 48,zF 50 1 7,zM 51 50,zX 52 13 49 51,zF 53 7 52,zM 54 53] (zb 54 (za [zL 55 5 4,zo 56 13,zS 5 8 55,zS 3 9 56] zc) zd)) (za [zL 57 5 4,zi 58 156 57,zS 5 4 58] k154_9)
abbrev c154:=za [zl 4 0,zl 6 2,zl 7 3,zf 8,zC 9] (za [zK 10 0] (ze (za [zF 14 2 6,zF 15 0 14,zM 16 15,zn 17 16,yG 18 17 0] (zb 18 k154_6 zd)) k154_11))
theorem ok154:Ao Qa 154 c154 72 [.c 8 (some 5),.c 9 (some 3)]=true:=by kernel_rfl
abbrev k155_4:=ze (.drawn [(0,zL 51 5 4),(1,zF 52 5 10),(2,zM 53 52),(5,zF 56 3 4),(6,zM 57 56),(7,zF 58 5 10),(8,zM 59 58),(9,je 60 59),(10,zX 61 5 57 60),(11,zF 62 0 61),(12,zL 63 4 62),(3,je 54 53),(4,zV 55 12),(13,jl 64 200 51 54 55 63),(14,zV 50 64),(15,zE 65 50 0),(17,zS 5 11 65),(16,zE 66 50 1),(18,zV 13 66)] [[],[],[1],[2],[],[],[5],[],[7],[8],[6,9],[10],[11],[0,3,4,12],[13],[14],[14],[15,13,0,1,2,3,4,5,6,7,8,9,10,11,12,13,14,15],[16,17,0,1,2,3,4,5,6,7,8,9,10,11,12,13,14,15,16,17]] 0) (za [zV 67 13,zw 68 67 0] (zb 68 (za [zL 69 5 4,zV 70 13,zp 71 0 70,zS 5 8 69,zS 3 9 71] zc) zd))
abbrev k155_6:=za [zL 38 5 4,zV 39 1,zF 40 2 6,zL 41 1 40,zu 42 193 38 39 41,zV 37 42,zE 43 37 0,zE 44 37 1,zV 12 43,zV 13 44] (ze (za [zV 45 13,zw 46 45 0] (zb 46 (za [zL 47 5 4,zV 48 13,zp 49 0 48,zS 5 8 47,zS 3 9 49] zc) zd)) k155_4)
abbrev k155_7:=ze (.drawn [(0,zL 78 5 11),(1,zF 79 8 10),(2,zM 80 79),(3,zF 81 6 10),(4,zM 82 81),(6,zS 5 8 78),(5,jo 83 80 82),(7,zS 3 9 83)] [[],[],[1],[],[3],[2,4],[0,0],[5,6,0,1,2,3,4,5,6]] 0) zc
abbrev k155_8:=za [zF 72 4 11,zM 73 72,zF 74 1 7,zM 75 74,W1 76 (.build [.int .i64 0,.int .i64 0,.int .i64 0,.int .i64 0,.int .i64 0,.int .i64 0,.int .i64 0,.bool false,.int .u64 0,.int .u64 0,.int .u64 0,.int .u64 0,.int .u64 0] [(0,1,(zI 3))]),zX 77 13 73 75,zS 13 77 76] k155_7
abbrev k155_9:=ze (za [zF 27 2 6,zF 28 0 27,zM 29 28,zn 30 29,yG 31 30 0,zV 32 31,zR 33 32 5 10,z8 34 32 33,W2 35 32 true (.bin .gtr (.t 34) (zI 0)),zA 36 32 35] (zb 36 k155_6 zd)) k155_8
abbrev k155_11:=ze (za [zF 20 7 10,zM 21 20,zN 22 21] (zb 22 (za [zL 23 5 4,zo 24 14,zS 5 8 23,zS 3 9 24] zc) zd)) (za [zL 25 5 4,zi 26 156 25,zf 11,zS 5 11 26] k155_9)
abbrev c155:=za [zl 4 0,zl 6 2,zl 7 3,zf 8,zC 9] (za [zF 14 4 4,zM 15 14,zF 16 1 7,zM 17 16,zX 18 13 15 17,zL 19 13 18,zg 10,zS 13 10 19] k155_11)
theorem ok155:Ao Qa 155 c155 84 [.c 8 (some 5),.c 9 (some 3)]=true:=by kernel_rfl
abbrev k195_2:=ze (.drawn [(0,zF 35 4 2),(1,zM 36 35),(2,zF 37 3 2),(3,zM 38 37),(4,zV 39 1),(5,zX 40 5 38 39),(6,zF 41 0 40),(7,zF 42 1 41),(8,zM 43 42),(9,zX 44 13 36 43),(10,zF 45 4 44),(11,zM 46 45),(12,zV 4 46)] [[],[0],[],[2],[],[3,4],[5],[6],[7],[1,8],[9],[10],[11,0,1,2,3,4,5,6,7,8,9,10,11]] 0) zc
abbrev k195_4:=ze (za [zL 5 5 2,zi 6 64 5,zN 7 6,zV 8 7,zT 9 1 8,yj 10 8 9 0,zO 11 8 10,zV 12 11,zT 13 1 12,yb 14 12 3 2,yg 15 12 14,yd 16 12 15,yI 17 12 13 16,zO 18 12 17,zV 19 18,yb 20 19 3 2,yg 21 19 20,zT 22 1 19,jb 23 19 5 21 22,yb 24 19 0 23,yb 25 19 0 24,yg 26 19 25,yA 27 19 26 1,zO 28 19 27] (zb 28 (za [zK 4 0] zc) zd)) (ze (za [zL 29 5 2,zi 30 111 29,zV 31 1,zj 32 231 30 31,zn 33 32,zQ 34 33 0] (zb 34 (za [zK 4 0] zc) zd)) k195_2)
abbrev c195:=za [zl 2 0,zK 4 0] k195_4
theorem ok195:Ao Qa 195 c195 47 [.t 4]=true:=by kernel_rfl
abbrev k200_1:=za [zV 18 1,yk 19 18 0,zV 20 19,zT 21 1 20,zT 22 10 20,yI 23 20 21 22,zO 24 20 23,zV 25 24,zT 26 2 25,yj 27 25 26 0,zO 28 25 27,zV 29 28,zT 30 2 29,zT 31 10 29,yI 32 29 30 31,zO 33 29 32,zV 34 33,z7 35 34 4 7,ym 36 34 115 35,yf 37 34 36,zO 38 34 37,zV 39 38,z7 40 39 4 7,ym 41 39 158 40,zO 42 39 41,zV 14 42] (zb 14 zd (.region [zL 43 5 4,zV 44 2,zj 45 235 43 44,yk 46 45 0,zV 14 46]))
abbrev k200_8:=ze (ze (.drawn [(0,zL 78 4 7),(1,zF 79 3 4),(2,zM 80 79),(3,zV 81 1),(4,zX 82 5 80 81),(5,zF 83 0 82),(6,zL 84 4 83),(7,zj 85 163 78 84),(8,zN 86 85),(9,zV 77 86)] [[],[],[1],[],[2,3],[4],[5],[0,6],[7],[8,7]] 0) (zb 77 zd (.region [zL 87 5 4,zL 88 4 7,zV 89 2,zu 90 201 87 88 89,zV 77 90]))) (zb 77 (za [zL 91 5 4,zS 5 8 91,zK 9 1] zc) zd)
abbrev k200_9:=za [zF 68 3 4,zM 69 68,zV 70 1,zX 71 5 69 70,zF 72 0 71,zF 73 0 72,zM 74 73,zQ 75 74 1,zV 67 75] (zb 67 (za [zL 76 5 4,zS 5 8 76,zK 9 7] zc) k200_8)
abbrev k200_10:=za [zF 58 3 4,zM 59 58,zV 60 2,zX 61 5 59 60,zF 62 0 61,zL 63 4 62,zi 64 158 63,zN 65 64,zV 57 65] (zb 57 (za [zL 66 5 4,zS 5 8 66,zK 9 5] zc) k200_9)
abbrev k200_11:=za [zF 49 3 4,zM 50 49,zV 51 1,zX 52 5 50 51,zF 53 0 52,zL 54 4 53,zi 55 158 54,zV 48 55] (zb 48 (za [zL 56 5 4,zS 5 8 56,zK 9 4] zc) k200_10)
abbrev k200_13:=za [zF 94 3 4,zM 95 94,zV 96 2,zL 97 4 7,zV 98 1,yo 99 97 98,zX 100 5 95 96,zS 5 100 99] (za [zL 101 5 4,zS 5 8 101,zK 9 0] zc)
abbrev k200_15:=ze (.block 0 (ze (za [zL 15 5 4,zi 16 64 15,zN 17 16,zV 14 17] (zb 14 zd k200_1)) (zb 14 (za [zL 47 5 4,zS 5 8 47,zK 9 1] zc) k200_11))) (za [zL 92 5 4,zi 93 156 92,zS 5 4 93] k200_13)
abbrev c200:=za [zl 4 0,zl 7 3,zf 8,zK 9 0] (za [zF 11 3 4,zM 12 11,zn 13 12,zV 10 13] k200_15)
theorem ok200:Ao Qa 200 c200 102 [.c 8 (some 5),.t 9]=true:=by kernel_rfl
abbrev k201_0:=za [zF 7 0 4,zM 8 7,zQ 9 8 2,zV 10 9,zv 11 10 5 3,zR 12 10 1 4,z8 13 10 12,zH 14 2 10,jq 15 10 236 11 13 14,zA 16 10 15,zV 6 16] zc
abbrev c201:=za [zl 3 0,zl 4 1,zt 6] k201_0
theorem ok201:Ao Qa 201 c201 17 [.t 6]=true:=by kernel_rfl
abbrev k202_0:AD:= .region [zF 47 3 3,zM 48 47,zV 49 9,zV 50 10,W1 51 (.WB true [(.t 50),(zI (-1))]),zX 52 5 48 49,zF 53 4 52,zS 1 53 51]
def b202_2:=za [zm 43 42 41] (ze (zb 43 zd (.exit 0)) (ze (.block 1 (za [zV 44 42,zX 45 1 40 42,zM 46 45,zV 9 44,zV 10 46] k202_0)) (.region [zh 54 42 1,zV 42 54])))
abbrev k202_4:=za [zF 61 4 3,zM 62 61,zV 63 11,zX 64 13 62 63,zF 65 5 64,zM 66 65,zV 67 1,zh 68 67 1,yw 69 66 68] (zb 69 (.region [zF 70 4 3,zM 71 70,zV 72 11,zV 73 2,zh 74 73 1,zX 75 13 71 72,zF 76 5 75,zS 1 76 74]) zd)
def b202_6:=za [zm 59 58 57] (ze (zb 59 zd (.exit 2)) (ze (.block 3 (za [zV 60 58,zV 11 60] k202_4)) (.region [zh 77 58 1,zV 58 77])))
abbrev k202_8:=ze (za [zF 39 0 7,zM 40 39,zn 41 40,zK 42 0] (.block 0 (.loop b202_2))) (ze (za [zF 55 4 3,zM 56 55,zn 57 56,zK 58 0] (.block 2 (.loop b202_6))) (za [zL 78 5 3,zS 5 6 78] zc))
abbrev k202_9:=ze (.drawn [(0,zF 22 3 3),(1,zM 23 22),(3,zF 25 3 3),(4,zM 26 25),(6,zF 28 3 3),(7,zM 29 28),(8,zV 30 1),(9,zX 31 5 29 30),(10,zF 32 0 31),(11,zL 33 4 32),(2,zV 24 2),(13,zX 35 5 23 24),(14,zF 36 0 35),(15,zS 4 36 33),(5,zV 27 1),(12,zz 34),(16,zX 37 5 26 27),(17,zF 38 0 37),(18,zS 4 38 34)] [[],[0],[],[],[3],[],[],[6],[],[7,8],[9],[10],[],[1,2,0,1,2,6,7,8,9,10,11],[13,0,1,2,6,7,8,9,10,11],[14,11,0,1,2,6,7,8,9,10,11],[4,5,0,1,2,3,4,5,6,7,8,9,10,11,12,13,14,15],[16,0,1,2,3,4,5,6,7,8,9,10,11,12,13,14,15],[17,12,15,0,1,2,3,4,5,6,7,8,9,10,11,12,13,14,15]] 0) k202_8
abbrev k202_11:=za [zL 13 5 3,zi 14 111 13,zV 15 1,zV 16 2,zu 17 237 14 15 16,zV 12 17,zE 18 12 0,zE 19 12 1,yL 7,zS 1 7 18,zV 8 19] (za [zL 20 5 3,zi 21 156 20,zS 5 3 21] k202_9)
abbrev c202:=za [zl 3 0,zf 6] k202_11
theorem ok202:Ao Qa 202 c202 79 [.c 6 (some 5)]=true:=by kernel_rfl
abbrev k207_1:AD:= .drawn [(0,zF 39 3 2),(1,zM 40 39),(3,zF 42 3 2),(4,zM 43 42),(5,zV 44 1),(6,zX 45 5 43 44),(7,zF 46 4 45),(8,zM 47 46),(2,zV 41 5),(9,zX 48 5 40 41),(10,zF 49 4 48),(11,zS 1 49 47)] [[],[0],[],[],[3],[],[4,5],[6],[7],[1,2,0,1,2,3,4,5,6,7,8],[9,0,1,2,3,4,5,6,7,8],[10,8,0,1,2,3,4,5,6,7,8]] 0
abbrev k207_3:=ze (.block 1 (za [zV 30 28,zV 5 30] (za [zF 31 3 2,zM 32 31,zV 33 5,zX 34 5 32 33,zF 35 4 34,zM 36 35,zV 37 1,yw 38 36 37] (zb 38 k207_1 zd)))) (.region [zh 50 28 1,zV 28 50])
def b207_4:=za [zm 29 28 27] (ze (zb 29 zd (.exit 0)) k207_3)
abbrev k207_6:=za [zF 62 4 2,zM 63 62,zV 64 6,zX 65 13 63 64,zF 66 5 65,zM 67 66,zV 68 1,zh 69 68 1,yw 70 67 69] (zb 70 (.region [zF 71 4 2,zM 72 71,zV 73 6,zX 74 13 72 73,zF 75 5 74,yR 75 0]) zd)
def b207_8:=za [zm 60 59 58] (ze (zb 60 zd (.exit 2)) (ze (.block 3 (za [zV 61 59,zV 6 61] k207_6)) (.region [zh 76 59 1,zV 59 76])))
abbrev k207_10:=za [zF 51 3 2,zM 52 51,zV 53 1,W1 54 (.build [.int .i64 0,.int .i64 0,.int .i64 0,.int .i64 0,.int .i64 0] [(4,1,(zI (-1)))]),zX 55 5 52 53,zS 5 55 54] (ze (za [zF 56 4 2,zM 57 56,zn 58 57,zK 59 0] (.block 2 (.loop b207_8))) (za [yE 4] zc))
abbrev k207_12:=ze (za [zV 7 1,yk 8 7 0,zV 9 8,zT 10 1 9,yb 11 9 3 2,yg 12 9 11,yd 13 9 12,yI 14 9 10 13,zO 15 9 14,zV 16 15,yb 17 16 3 2,yg 18 16 17,zT 19 1 16,jb 20 16 5 18 19,yb 21 16 0 20,z7 22 16 4 21,ym 23 16 158 22,zO 24 16 23] (zb 24 (za [zt 4] zc) zd)) (ze (za [zF 25 3 2,zM 26 25,zn 27 26,zK 28 0] (.block 0 (.loop b207_4))) k207_10)
abbrev c207:=za [zl 2 0,zt 4] k207_12
theorem ok207:Ao Qa 207 c207 77 [.t 4]=true:=by kernel_rfl
abbrev k208_2:=za [zF 42 0 6,zM 43 42,zQ 44 43 2,zV 45 44,zv 46 45 5 2,zR 47 45 2 6,z8 48 45 47,zH 49 9 45,jH 50 45 48 49,zy 51 45 207 46 50,zA 52 45 51] (zb 52 (.region [zV 53 8,zh 54 53 1,zV 8 54]) zd)
def b208_4:=za [zm 40 39 38] (ze (zb 40 zd (.exit 0)) (ze (.block 1 (za [zV 41 39,zV 9 41] k208_2)) (.region [zh 55 39 1,zV 39 55])))
abbrev k208_7:=ze (za [zF 36 1 6,zM 37 36,jc 38 37,zK 39 0] (.block 0 (.loop b208_4))) (za [zF 56 4 2,zM 57 56,zV 58 1,zq 59,zX 60 13 57 58,zS 13 60 59] (za [zV 61 8,zV 4 61,yE 5] zc))
abbrev k208_8:=ze (za [zF 25 0 6,zM 26 25,zQ 27 26 0,zV 28 27,zT 29 7 28,zO 30 28 29,zV 31 30,z7 32 31 5 2,zT 33 1 31,ju 34 31 241 32 33,zO 35 31 34] (zb 35 (za [zK 4 0,zt 5] zc) zd)) (za [zK 8 0] k208_7)
abbrev k208_9:=za [zV 15 1,zP 16 15 2,zV 17 16,zH 18 1 17,zR 19 17 0 2,zR 20 17 0 19,z8 21 17 20,W2 22 17 true (.bin .add (zI 2) (.t 21)),yD 23 17 18 22,zA 24 17 23,zV 7 24] k208_8
abbrev c208:=za [zl 2 0,zK 4 0,zt 5] (za [zF 10 4 2,zM 11 10,zV 12 1,zX 13 13 11 12,zL 14 13 13,zg 6,zS 13 6 14] k208_9)
theorem ok208:Ao Qa 208 c208 62 [.t 4,.t 5]=true:=by kernel_rfl
abbrev c241:=za [zl 2 0,zl 3 1,zt 4] (za [zF 5 3 2,zM 6 5,W1 7 (.YY 257 [(.t 3)]),zj 8 256 6 7,zV 4 8] zc)
theorem ok241:Ao Qa 241 c241 9 [.t 4]=true:=by kernel_rfl
abbrev k257_0:=za [zF 4 0 2,zL 5 4 4,zi 6 158 5,zN 7 6,zV 8 7,zR 9 8 0 2,zR 10 8 1 9,z8 11 8 10,z8 12 8 1,jK 13 8 11 12,zA 14 8 13,zV 3 14] zc
abbrev c257:=za [zl 2 0,zt 3] k257_0
theorem ok257:Ao Qa 257 c257 15 [.t 3]=true:=by kernel_rfl
set_option maxRecDepth 100000
abbrev k5_3:=ze (.drawn [(0,zV 58 9),(1,zV 59 7),(2,zj 60 22 58 59),(3,zV 61 9),(4,zj 62 24 60 61),(5,zV 63 62),(6,zH 64 11 63),(7,zY 65 63 64 0),(8,zA 66 63 65),(9,zV 67 66),(13,zv 71 67 5 3),(10,zH 68 9 67),(11,zH 69 10 67),(12,zy 70 67 22 68 69),(14,zH 72 2 67),(15,zy 73 67 23 71 72),(16,zy 74 67 24 70 73),(17,zA 75 67 74),(18,zV 76 75),(19,zR 77 76 0 3),(20,zv 78 76 3 77),(22,zv 80 76 5 4),(23,zH 81 2 76),(24,zy 82 76 23 80 81),(21,zH 79 9 76),(25,jq 83 76 25 78 79 82),(26,zA 84 76 83),(27,zV 6 84)] [[],[],[0,1],[],[2,3,2],[4,4],[5],[6,5],[5,7],[8,5],[9],[9],[10,11,9,9],[9],[9],[13,14,12,9],[12,15,15,9],[9,16],[17,16],[18],[19,18],[18],[18],[18],[22,23,18,18],[20,21,24,24,18],[18,25],[26,25,0,1,2,3,4,5,6,7,8,9,10,11,12,13,14,15,16,17,18,19,20,21,22,23,24,25,26]] 0) zc
abbrev k5_5:=za [zL 47 5 3,zV 48 2,zj 49 23 47 48,zV 50 7,zj 51 22 49 50,zV 9 51] (za [zL 53 5 4,zL 54 5 3,zj 55 21 53 54,zV 52 55,zE 56 52 0,zE 57 52 1,zV 10 56,zV 11 57] k5_3)
abbrev k5_7:=za [zL 37 5 3,zL 38 5 4,zj 39 21 37 38,zV 36 39,zE 40 36 0,zE 41 36 1,zV 7 40,zV 8 41] (ze (za [zV 42 8,zw 43 42 0] (zb 43 (za [zV 44 7,zn 45 44,zQ 46 45 0,zV 6 46] zc) zd)) k5_5)
abbrev k5_8:=ze (za [zF 14 3 3,zM 15 14,zn 16 15,yG 17 16 100,zV 18 17,yb 19 18 4 3,yg 20 18 19,yd 21 18 20,yn 22 18 21 50,zO 23 18 22,zV 24 23,yb 25 24 3 4,yg 26 24 25,yd 27 24 26,yn 28 24 27 100,zO 29 24 28,zV 30 29,yb 31 30 4 4,yg 32 30 31,yd 33 30 32,yn 34 30 33 50,zO 35 30 34] (zb 35 (za [yE 6] zc) zd)) k5_7
abbrev c5:=za [zl 3 0,zl 4 1,zt 6] (ze (za [yM 12 20,zN 13 12] (zb 13 (za [zt 6] zc) zd)) k5_8)
theorem ok5:Ao Qa 5 c5 85 [.t 6]=true:=by kernel_rfl
abbrev k6_1:=ze (.drawn [(0,zV 43 2),(1,zQ 44 43 1),(2,zV 45 44),(3,zH 46 6 45),(4,zY 47 45 46 1),(5,zA 48 45 47),(6,zV 49 48),(7,zH 50 11 49),(8,W2 51 49 true (.born 0 (.EO 1 3 [.int .u64 0] [(0,(.c (.int .u64 0))),(1,(.c (.int .u64 5))),(2,(.c (.int .u64 2)))]))),(9,zy 52 49 24 50 51),(10,zA 53 49 52),(11,zV 54 53),(12,zv 55 54 3 7),(13,zH 56 8 54),(14,z6 57 54 56),(15,zH 58 8 54),(16,jJ 59 54 58 1),(17,z6 60 54 59),(18,zH 61 9 54),(19,jJ 62 54 61 7),(20,z6 63 54 62),(21,W2 64 54 true (.born 1 (.EO 2 3 [.int .i64 0,.int .u64 0] [(0,(.t 57)),(1,(.t 60)),(2,(.t 63))]))),(22,zy 65 54 30 55 64),(23,zA 66 54 65),(24,zV 67 66),(25,zv 68 67 3 7),(26,zH 69 8 67),(27,W2 70 67 true (.bin .sub (.t 69) (zI 1))),(28,z6 71 67 70),(29,jA 72 67 2 71),(30,zy 73 67 30 68 72),(31,yB 74 67 73),(32,zA 75 67 74),(33,zV 76 75),(34,zv 77 76 3 7),(35,zv 78 76 3 7),(36,yh 79 76 31 78),(37,z6 80 76 79),(38,jA 81 76 3 80),(39,zy 82 76 30 77 81),(40,yB 83 76 82),(41,zA 84 76 83),(42,zV 85 84),(43,zv 86 85 3 7),(44,zH 87 8 85),(45,z6 88 85 87),(46,zH 89 8 85),(47,z6 90 85 89),(48,W2 91 85 true (.born 4 (.EO 2 2 [.int .i64 0,.int .u64 0] [(0,(.t 88)),(1,(.t 90))]))),(49,zy 92 85 30 86 91),(50,yB 93 85 92),(51,zA 94 85 93),(52,zV 95 94),(53,W2 96 95 true (.build [.int .i64 0,.int .i64 0,.int .i64 0] [])),(54,jC 97 95 96),(55,yB 98 95 97),(56,zA 99 95 98),(57,zV 100 99),(58,zv 101 100 3 7),(59,jC 102 100 101),(60,zA 103 100 102),(61,zV 104 103),(62,yi 105 17),(63,yi 106 3),(64,yi 107 (-4)),(65,yi 108 23),(66,yi 109 0),(67,W2 110 104 true (.born 5 (.EO 2 5 [.int .i64 0,.int .u64 0] [(0,(.t 105)),(1,(.t 106)),(2,(.t 107)),(3,(.t 108)),(4,(.t 109))]))),(68,yh 111 104 33 110),(69,W2 112 104 true (.born 6 (.EO 1 2 [.int .i64 0] [(0,(zI 0)),(1,(zI 2))]))),(70,zy 113 104 32 111 112),(71,zA 114 104 113),(72,zV 115 114),(73,W2 116 115 true (.call 26 [])),(74,W2 117 115 true (.part 4 none (.t 116))),(75,W2 118 115 true (.A9 13 (.t 117) (zI 0))),(76,zv 119 115 13 118),(77,W2 120 115 true (.build [.int .i64 0,.int .i64 0,.int .i64 0,.int .i64 0,.int .i64 0,.int .i64 0,.int .i64 0,.bool false,.int .u64 0,.int .u64 0,.int .u64 0,.int .u64 0,.int .u64 0] [(0,1,(zI 1)),(3,1,(zI 64))])),(78,W2 121 115 true (.eqs false [0,0,0,0,0,0,0,1,0,0,0,0,0] (.t 119) (.t 120))),(79,zA 122 115 121),(80,zV 0 122)] [[],[0],[1],[2],[3,2],[2,4],[5,2],[6],[6],[7,8,6,6],[6,9],[10,9],[11],[11],[13,11],[11],[15,11],[16,11],[11],[18,11],[19,11],[14,17,20,11],[12,21,11,11],[11,22],[23,22],[24],[24],[26,24],[27,24],[28,24],[25,29,24,24],[30,24],[24,31],[32,30],[33],[33],[35,33,33],[36,33],[37,33],[34,38,36,33],[39,33],[33,40],[41,39],[42],[42],[44,42],[42],[46,42],[45,47,42],[43,48,42,42],[49,42],[42,50],[51,49],[52],[53,52,52],[54,52],[52,55],[56,54],[57],[58,57,57],[57,59],[60,59],[61],[61],[61],[61],[61],[62,63,64,65,66,61],[67,61,61],[61],[68,69,68,61],[61,70],[71,70],[72,72],[73,72],[74,72],[75,72],[72],[76,77,72],[72,78],[79,73,0,1,2,3,4,5,6,7,8,9,10,11,12,13,14,15,16,17,18,19,20,21,22,23,24,25,26,27,28,29,30,31,32,33,34,35,36,37,38,39,40,41,42,43,44,45,46,47,48,49,50,51,52,53,54,55,56,57,58,59,60,61,62,63,64,65,66,67,68,69,70,71,72,73,74,75,76,77,78,79]] 7) zc
abbrev k6_2:=za [W1 40 (.EO 1 3 [.int .u64 0] [(0,(.c (.int .u64 0))),(1,(.c (.int .u64 1))),(2,(.c (.int .u64 2)))]),zV 41 10,zj 42 22 40 41,zV 11 42] k6_1
abbrev k6_3:=za [yK 36 1 5,yK 37 (-1) 6,yK 38 99 7,W1 39 (.EO 2 3 [.int .i64 0,.int .u64 0] [(0,(.t 36)),(1,(.t 37)),(2,(.t 38))]),zV 10 39] k6_2
abbrev k6_4:=ze (.drawn [(0,zL 32 3 7),(2,zL 34 3 7),(1,yT 33 28 32 0),(3,yT 35 29 34 0),(4,zV 8 33),(5,zV 9 35)] [[],[0],[],[2,1],[1,3,0,1],[3,4,0,1,2,3,4]] 0) k6_3
abbrev k6_6:=ze (.drawn [(1,zL 27 5 3),(0,yM 26 26),(2,zj 28 21 26 27),(3,zV 25 28),(4,zE 29 25 0),(5,zE 30 25 1),(6,zV 5 29),(7,zV 6 30)] [[],[],[0,1,0],[2],[3],[3],[4,2,0,1,2,3,4],[5,6,0,1,2,3,4,5,6]] 0) (za [yM 31 27,yZ 7,zS 3 7 31] k6_4)
abbrev k6_8:=za [yM 15 26,yV 16,zj 17 21 15 16,zV 14 17,zE 18 14 0,zE 19 14 1,zV 1 18,zV 2 19] (za [jj 21 1 8 3,yT 22 16 21 64,zV 20 22,zE 23 20 0,zE 24 20 1,zf 3,zS 5 3 23,zV 4 24] k6_6)
abbrev c6:=za [zt 0] (ze (za [yM 12 20,zN 13 12] (zb 13 (za [zt 0] zc) zd)) k6_8)
theorem ok6:Ao Qa 6 c6 123 [.t 0]=true:=by kernel_rfl
abbrev k20_0:=za [zV 29 2,zQ 30 29 0,zV 31 30,zH 32 1 31,yC 33 31 32,zY 34 31 33 0,zA 35 31 34,zV 36 35,zR 37 36 0 4,z8 38 36 37,zY 39 36 38 0,zA 40 36 39,zV 41 40,zH 42 6 41,zY 43 41 42 0,zA 44 41 43,zV 45 44,zH 46 5 45,yC 47 45 46,zY 48 45 47 2,zA 49 45 48,zV 50 49,zH 51 5 50,W2 52 50 true (.A9 2 (.t 51) (zI 0)),zR 53 50 0 52,z8 54 50 53,zY 55 50 54 2432,zA 56 50 55,zV 57 56,zH 58 5 57,W2 59 57 true (.A9 2 (.t 58) (zI 0)),zR 60 57 1 59,z8 61 57 60,jk 62 57 61,zA 63 57 62,zV 0 63] zc
abbrev k20_1:=ze (.drawn [(1,zL 25 5 3),(0,yM 24 26),(2,zj 26 21 24 25),(3,zV 23 26),(4,zE 27 23 0),(5,zE 28 23 1),(6,zV 5 27),(7,zV 6 28)] [[],[],[0,1,0],[2],[3],[3],[4,2,0,1,2,3,4],[5,6,0,1,2,3,4,5,6]] 0) k20_0
abbrev k20_2:=za [yM 14 26,W1 15 (.EO 1 1 [.int .i64 0] [(0,(zI 0))]),ja 16 15,W1 17 (.EO 1 1 [.int .i64 0] [(0,(zI 2))]),ja 18 17,W1 19 (.build [.int .i64 0,.lit (.slice none 0 0),.lit (.slice none 0 0),.int .i64 0,.int .i64 0,.int .u64 0] [(0,1,(zI 4)),(1,1,(.t 16)),(2,1,(.t 18))]),W1 20 (.call 62 [(.t 14),(zI 0),(.t 19)]),zV 13 20,zE 21 13 0,zE 22 13 1,zf 3,zC 4,zS 5 3 21,zS 3 4 22] k20_1
abbrev c20:=za [zt 0] (za [yM 8 26,yM 9 26,zj 10 21 8 9,zV 7 10,zE 11 7 0,zE 12 7 1,zV 1 11,zV 2 12] k20_2)
theorem ok20:Ao Qa 20 c20 64 [.t 0]=true:=by kernel_rfl
abbrev k24_2:=ze (.block 1 (ze (.drawn [(0,zV 17 0),(1,zV 18 5),(2,zX 19 1 17 18),(3,zM 20 19),(4,zV 21 1),(5,zV 22 5),(6,zX 23 1 21 22),(7,zM 24 23),(8,yP 25 20 24)] [[],[],[0,1],[2],[],[],[4,5],[6],[3,7]] 0) (zb 25 (za [zt 4] zc) zd))) (.region [zV 15 5,zh 16 15 1,zV 5 16])
def b24_3:=ze (za [zV 11 5,zV 12 0,zn 13 12,zm 14 11 13] (zb 14 zd (.exit 0))) k24_2
abbrev k24_5:=ze (za [zV 6 0,zn 7 6,zV 8 1,zn 9 8,yP 10 7 9] (zb 10 (za [zt 4] zc) zd)) (ze (za [zK 5 0] (.block 0 (.loop b24_3))) (za [yE 4] zc))
abbrev c24:=za [zt 4] k24_5
theorem ok24:Ao Qa 24 c24 26 [.t 4]=true:=by kernel_rfl
abbrev c26:=za [zf 0] (za [yM 4 27,yT 5 16 4 64,zV 3 5,zE 6 3 0,zE 7 3 1,zf 1,zS 5 1 6,zV 2 7] (za [zL 8 5 1,zS 5 0 8] zc))
theorem ok26:Ao Qa 26 c26 9 [.c 0 (some 5)]=true:=by kernel_rfl
abbrev k32_2:=ze (.block 1 (ze (.drawn [(0,zV 17 0),(1,zV 18 5),(2,zX 19 1 17 18),(3,zM 20 19),(4,zV 21 1),(5,zV 22 5),(6,zX 23 1 21 22),(7,zM 24 23),(8,yP 25 20 24)] [[],[],[0,1],[2],[],[],[4,5],[6],[3,7]] 0) (zb 25 (za [zt 4] zc) zd))) (.region [zV 15 5,zh 16 15 1,zV 5 16])
def b32_3:=ze (za [zV 11 5,zV 12 0,zn 13 12,zm 14 11 13] (zb 14 zd (.exit 0))) k32_2
abbrev k32_5:=ze (za [zV 6 0,zn 7 6,zV 8 1,zn 9 8,yP 10 7 9] (zb 10 (za [zt 4] zc) zd)) (ze (za [zK 5 0] (.block 0 (.loop b32_3))) (za [yE 4] zc))
abbrev c32:=za [zt 4] k32_5
theorem ok32:Ao Qa 32 c32 26 [.t 4]=true:=by kernel_rfl
set_option maxRecDepth 100000
abbrev k113_2:=ze (za [zV 13 6,zN 14 13,zV 15 14,zT 16 4 15,yj 17 15 16 0,zO 18 15 17,zV 19 18,zT 20 4 19,yn 21 19 20 4294967295,zO 22 19 21,zV 23 22,zT 24 5 23,yj 25 23 24 0,zO 26 23 25,zV 27 26,zT 28 5 27,yn 29 27 28 4294967295,zO 30 27 29] (zb 30 (za [yc 2 0,zt 3] zc) zd)) (za [zV 31 5,ye 32 31,W1 33 (.bin .shl (.t 32) (.c (.int .u64 32))),zV 34 4,ye 35 34,jv 36 33 35,zV 2 36,yE 3] zc)
abbrev c113:=za [yc 2 0,zt 3] (za [zV 8 0,zi 9 164 8,zV 7 9,zE 10 7 0,zE 11 7 1,zE 12 7 2,zV 4 10,zV 5 11,zV 6 12] k113_2)
theorem ok113:Ao Qa 113 c113 37 [.t 2,.t 3]=true:=by kernel_rfl
abbrev k114_1:=za [zV 32 7,zV 33 5,jd 34 33 16,jx 35 34,jt 36 35,zV 37 5,jd 38 37 48,jx 39 38,jt 40 39,yQ 41 36 40,zW 42 32 41,zV 7 42] (.region [zV 44 6,zi 45 167 44,zV 46 7,zi 47 167 46,zj 48 166 45 47,zV 43 48,zE 49 43 0,zE 50 43 1,zV 3 49])
abbrev k114_2:=za [zV 22 6,zV 23 5,jx 24 23,jt 25 24,zV 26 5,jd 27 26 32,jx 28 27,jt 29 28,yQ 30 25 29,zW 31 22 30,zV 6 31] k114_1
abbrev k114_3:=za [zV 16 3,yT 17 165 16 1,zi 18 164 17,zV 15 18,zE 19 15 0,zE 20 15 1,zE 21 15 2,zV 6 19,zV 7 20,zV 8 21] k114_2
def b114_5:=za [zm 12 11 10] (ze (zb 12 zd (.exit 0)) (ze (.block 1 (za [zX 13 1 9 11,zM 14 13,zV 5 14] k114_3)) (.region [zh 51 11 1,zV 11 51])))
abbrev c114:=za [yq 2] (za [yq 3] (ze (za [zV 9 0,zn 10 9,zK 11 0] (.block 0 (.loop b114_5))) (za [zV 52 3,zV 2 52] zc)))
theorem ok114:Ao Qa 114 c114 53 [.t 2]=true:=by kernel_rfl
abbrev k164_2:=ze (za [zV 19 5,zN 20 19,zV 21 20,zT 22 6 21,yf 23 21 22,zO 24 21 23] (zb 24 (za [zK 2 0,zK 3 0,zt 4] zc) zd)) (za [zV 25 2,zV 26 3,zV 2 25,zV 3 26,yE 4] zc)
abbrev k164_3:=za [zV 14 0,W1 15 (.eo .im (.t 14) (.c (.bool false))),zi 16 214 15,zV 13 16,zE 17 13 0,zE 18 13 1,zV 3 17,zV 6 18] k164_2
abbrev k164_4:=za [zV 8 0,W1 9 (.eo .re (.t 8) (.c (.bool false))),zi 10 214 9,zV 7 10,zE 11 7 0,zE 12 7 1,zV 2 11,zV 5 12] k164_3
abbrev c164:=za [zK 2 0,zK 3 0,zt 4] k164_4
theorem ok164:Ao Qa 164 c164 27 [.t 2,.t 3,.t 4]=true:=by kernel_rfl
def b165_2:=za [zm 21 20 19] (ze (zb 21 zd (.exit 0)) (ze (.block 1 (.region [zV 22 6,W1 23 (.un .neg (.t 22)),zV 24 5,zV 5 23,zV 6 24])) (.region [zh 25 20 1,zV 20 25])))
abbrev k165_4:=ze (za [zV 16 1,ji 17 16 4,zh 18 17 4,ji 19 18 4,zK 20 0] (.block 0 (.loop b165_2))) (za [zV 27 5,zV 28 6,zj 29 166 27 28,zV 26 29,zE 30 26 0,zE 31 26 1,zV 0 30] (za [zV 32 0,zV 4 32] zc))
abbrev k165_6:=za [zV 9 0,zi 10 164 9,zV 8 10,zE 11 8 0,zE 12 8 1,zE 13 8 2,zV 5 11,zV 6 12,zV 7 13] (ze (za [zV 14 7,zN 15 14] (zb 15 (za [yq 4] zc) zd)) k165_4)
abbrev c165:=za [yq 4] k165_6
theorem ok165:Ao Qa 165 c165 33 [.t 4]=true:=by kernel_rfl
abbrev k166_1:=za [zV 14 0,W1 15 (.eo .ofI (.t 14) (.c (.bool false))),zV 16 1,W1 17 (.eo .ofI (.t 16) (.c (.bool false))),W1 18 (.eo .cx (.t 15) (.t 17)),zV 4 18,yE 5] zc
abbrev k166_2:=ze (za [zV 6 0,zi 7 215 6,zN 8 7,zV 9 8,zT 10 1 9,ym 11 9 215 10,yf 12 9 11,zO 13 9 12] (zb 13 (za [yq 4,zt 5] zc) zd)) k166_1
abbrev c166:=za [yq 4,zt 5] k166_2
theorem ok166:Ao Qa 166 c166 19 [.t 4,.t 5]=true:=by kernel_rfl
abbrev c167:=za [zK 2 0] (za [zV 3 0,ji 4 3 1000003,zh 5 4 1000003,ji 6 5 1000003,zV 2 6] zc)
theorem ok167:Ao Qa 167 c167 7 [.t 2]=true:=by kernel_rfl
abbrev k214_2:=ze (za [zV 4 0,W1 5 (.eo (.cmp .geq) (.t 4) (.c (.lit (.float .f64 14010698440749613056)))),zV 6 5,zH 7 0 6,W2 8 6 true (.eo (.cmp .leq) (.t 7) (.c (.lit (.float .f64 4787326403894837248)))),zA 9 6 8,zN 10 9,zV 11 10,zT 12 0 11,zT 13 0 11,ym 14 11 245 13,W2 15 11 false (.eo (.cmp .neq) (.t 12) (.t 14)),zO 16 11 15,zV 17 16,zT 18 0 17,W2 19 17 false (.eo (.cmp .eql) (.t 18) (.c (.lit (.float .f64 0)))),zT 20 19 17,zH 21 0 20,yh 22 20 246 21,zZ 23 17 20 22,zO 24 17 23] (zb 24 (za [zK 2 0,zt 3] zc) zd)) (za [zV 25 0,W1 26 (.eo (.toI .i64) (.t 25) (.c (.bool false))),zV 2 26,yE 3] zc)
abbrev c214:=za [zK 2 0,zt 3] k214_2
theorem ok214:Ao Qa 214 c214 27 [.t 2,.t 3]=true:=by kernel_rfl
abbrev c215:=za [zt 2] (za [zV 3 0,zP 4 3 (-1099511627776),zV 5 4,zH 6 0 5,js 7 5 6 1099511627776,zA 8 5 7,zV 2 8] zc)
theorem ok215:Ao Qa 215 c215 9 [.t 2]=true:=by kernel_rfl
set_option maxRecDepth 100000
abbrev k66_2:=za [zV 26 3,zi 27 114 26,zi 28 113 27,zV 25 28,zE 29 25 0,zE 30 25 1,zV 4 29,zV 5 30] (za [zV 31 3,zV 32 4,W1 33 (.EO 1 1 [.int .u64 0] [(0,(.t 32))]),yl 34 1 8 31 33,zV 2 34] zc)
abbrev k66_3:=za [zF 10 0 1,zF 11 0 10,zM 12 11,ye 13 12,zF 14 0 1,zF 15 1 14,zM 16 15,ye 17 16,zF 18 0 1,zF 19 2 18,zM 20 19,ye 21 20,zF 22 3 1,zM 23 22,W1 24 (.EO 1 7 [.int .u64 0] [(0,(.c (.int .u64 8243106252149764145))),(1,(.t 13)),(2,(.t 17)),(3,(.t 21)),(4,(.t 23)),(5,(.c (.int .u64 0))),(6,(.c (.int .u64 0)))]),zV 3 24] k66_2
abbrev c66:=za [zl 1 0,zk 2] (ze (za [zF 6 0 1,zL 7 3 6,zi 8 57 7,zN 9 8] (zb 9 (za [zk 2] zc) zd)) k66_3)
theorem ok66:Ao Qa 66 c66 35 [.t 2]=true:=by kernel_rfl
set_option maxRecDepth 100000
abbrev k23_2:=za [zV 47 6,zV 48 10,zF 49 0 9,zL 50 4 49,zi 51 67 50,zV 46 51,zE 52 46 0,zE 53 46 1,zX 54 1 47 48,zS 1 54 52] (.region [zV 55 6,zV 56 10,zh 57 56 1,zF 58 4 9,zM 59 58,zh 60 59 1,ye 61 60,zX 62 1 55 57,zS 1 62 61])
abbrev k23_4:=ze (.block 1 (za [zV 40 38,zX 41 5 36 38,zL 42 5 41,zx 9,zV 8 40,zS 5 9 42] (za [zL 43 3 5,zV 44 8,zj 45 28 43 44,zV 10 45] k23_2))) (.region [zh 63 38 1,zV 38 63])
def b23_5:=za [zm 39 38 37] (ze (zb 39 zd (.exit 0)) k23_4)
abbrev k23_6:AD:= .drawn [(1,zL 73 3 5),(5,zL 77 13 12),(2,zV 74 11),(3,zj 75 29 73 74),(0,zV 72 6),(4,yX 76 72 75),(6,zi 78 68 77),(7,W1 79 (.aC 1 (.t 76) (.t 78)))] [[],[],[],[1,2],[0,3],[],[5,3],[4,6,6]] 0
abbrev k23_7:=ze (.block 3 (za [zV 69 67,zX 70 13 65 67,zL 71 13 70,zg 12,zV 11 69,zS 13 12 71] k23_6)) (.region [zh 80 67 1,zV 67 80])
def b23_8:=za [zm 68 67 66] (ze (zb 68 zd (.exit 2)) k23_7)
abbrev k23_10:=ze (za [zF 35 3 2,zM 36 35,zn 37 36,zK 38 0] (.block 0 (.loop b23_5))) (ze (za [zF 64 4 2,zM 65 64,zn 66 65,zK 67 0] (.block 2 (.loop b23_8))) (za [zV 81 6,zV 4 81] zc))
abbrev k23_12:=za [zV 26 6,zV 27 7,W1 28 (.aC 1 (.t 26) (.t 27))] (za [zV 29 6,zL 30 3 5,zi 31 31 30,yX 32 29 31,zV 33 7,W1 34 (.aC 1 (.t 32) (.t 33))] k23_10)
abbrev k23_13:=za [zL 22 3 5,zV 23 1,W1 24 (.build [.int .i64 0,.int .i64 0,.int .i64 0,.int .u64 0] [(0,3,(.t 22)),(3,1,(.t 23))]),zi 25 66 24,zV 7 25] k23_12
abbrev k23_14:=za [zL 18 3 5,zi 19 65 18,W1 20 (.bin .mul (.t 19) (zI 8)),W1 21 (.MM 1 8 [.int .u64 0] (.t 20) (.t 20)),zV 6 21] k23_13
abbrev k23_16:=ze (za [zL 13 5 2,zi 14 64 13,zN 15 14] (zb 15 (za [zk 4] zc) zd)) (za [zF 16 0 2,zL 17 3 16,yZ 5,zS 3 5 17] k23_14)
abbrev c23:=za [zl 2 0,zk 4] k23_16
theorem ok23:Ao Qa 23 c23 82 [.t 4]=true:=by kernel_rfl
set_option maxRecDepth 100000
abbrev k21_1:AD:= .region [zV 43 8,zV 44 9,zV 45 10,W1 46 (.build [.int .i64 0,.int .u64 0] [(0,1,(.t 44)),(1,1,(.t 45))]),W1 47 (.EO 2 1 [.int .i64 0,.int .u64 0] [(0,(.t 46))]),yl 48 2 16 43 47,zV 8 48]
abbrev k21_3:=ze (.block 1 (za [zV 34 32,zX 35 1 30 32,zM 36 35,zV 9 34,zV 10 36] (za [zV 37 6,zV 38 9,zX 39 1 37 38,zM 40 39,zV 41 10,yP 42 40 41] (zb 42 k21_1 zd)))) (.region [zh 49 32 1,zV 32 49])
def b21_4:=za [zm 33 32 31] (ze (zb 33 zd (.exit 0)) k21_3)
abbrev k21_8:=ze (za [zV 30 7,zn 31 30,zK 32 0] (.block 0 (.loop b21_4))) (ze (za [zV 50 8,zn 51 50,yG 52 51 600] (zb 52 (za [zk 4,zK 5 10] zc) zd)) (za [zV 53 8,zV 4 53,zK 5 0] zc))
abbrev k21_9:=ze (za [zV 15 6,zn 16 15,zQ 17 16 0,zV 18 17,zT 19 7 18,yd 20 18 19,W2 21 18 false (.bin .eql (.t 20) (zI 0)),zO 22 18 21,zV 23 22,yb 24 23 0 2,z7 25 23 3 24,yb 26 23 0 3,z7 27 23 3 26,W2 28 23 false (.eqs true [0,0,0] (.t 25) (.t 27)),zO 29 23 28] (zb 29 (za [zk 4,zK 5 1] zc) zd)) (za [zk 8] k21_8)
abbrev k21_10:=ze (.drawn [(0,zL 11 5 2),(2,zL 13 5 3),(1,jM 12 11),(3,jM 14 13),(4,zV 6 12),(5,zV 7 14)] [[],[0],[],[2,1],[1,3,0,1],[3,4,0,1,2,3,4]] 0) k21_9
abbrev c21:=za [zl 2 0,zl 3 1,zk 4,zK 5 0] k21_10
theorem ok21:Ao Qa 21 c21 54 [.t 4,.t 5]=true:=by kernel_rfl
abbrev k22_1:=za [zF 16 0 7,zM 17 16,zP 18 17 0,zV 19 18,zR 20 19 0 7,z8 21 19 20,zH 22 5 19,yC 23 19 22,yD 24 19 21 23,zA 25 19 24] (zb 25 (.region [zV 26 5,zF 27 0 7,zM 28 27,zF 29 1 7,zM 30 29,zX 31 1 26 28,zS 1 31 30]) zd)
def b22_3:=za [zm 13 12 11] (ze (zb 13 zd (.exit 0)) (ze (.block 1 (za [zX 14 2 10 12,zL 15 2 14,jn 7,zS 2 7 15] k22_1)) (.region [zh 32 12 1,zV 12 32])))
abbrev k22_5:=za [zV 8 0,zi 9 63 8,zV 5 9] (ze (za [zV 10 1,zn 11 10,zK 12 0] (.block 0 (.loop b22_3))) (za [zV 33 5,zV 4 33] zc))
abbrev c22:=za [zk 4] k22_5
theorem ok22:Ao Qa 22 c22 34 [.t 4]=true:=by kernel_rfl
abbrev k30_2:=ze (ze (.drawn [(0,zF 25 0 7),(1,zM 26 25),(2,zV 27 5),(3,W1 28 (.bin .leq (.t 26) (.t 27))),(4,zV 29 28),(5,yb 30 29 0 7),(6,yg 31 29 30),(7,z7 32 29 3 2),(8,ym 33 29 31 32),(9,yI 34 29 31 33),(10,zO 35 29 34)] [[],[0],[],[1,2],[3],[4],[5,4],[4],[7,4,4],[6,8,4],[4,9]] 0) (zb 35 (za [zt 4] zc) zd)) (.region [zF 36 0 7,zM 37 36,zV 5 37])
def b30_4:=za [zm 22 21 20] (ze (zb 22 zd (.exit 0)) (ze (.block 1 (za [zX 23 2 19 21,zL 24 2 23,jn 7,zS 2 7 24] k30_2)) (.region [zh 38 21 1,zV 21 38])))
abbrev k30_6:=za [zL 16 3 2,yT 17 28 16 0,je 18 17,zV 5 18] (ze (za [zV 19 1,zn 20 19,zK 21 0] (.block 0 (.loop b30_4))) (za [yE 4] zc))
abbrev k30_7:=ze (za [zL 8 3 2,zi 9 57 8,zN 10 9,zV 11 10,zT 12 1 11,yd 13 11 12,yn 14 11 13 600,zO 15 11 14] (zb 15 (za [zt 4] zc) zd)) k30_6
abbrev c30:=za [zl 2 0,zt 4] k30_7
theorem ok30:Ao Qa 30 c30 39 [.t 4]=true:=by kernel_rfl
abbrev k33_1:=za [zF 12 0 5,zM 13 12,zP 14 13 0] (zb 14 (.region [zV 15 3,zF 16 0 5,zM 17 16,W1 18 (.bin .quo (.t 17) (zI 8)),yz 19 18,yl 20 1 8 15 19,zV 3 20]) zd)
def b33_3:=za [zm 9 8 7] (ze (zb 9 zd (.exit 0)) (ze (.block 1 (za [zX 10 2 6 8,zL 11 2 10,jn 5,zS 2 5 11] k33_1)) (.region [zh 21 8 1,zV 8 21])))
abbrev k33_5:=ze (za [zV 6 0,zn 7 6,zK 8 0] (.block 0 (.loop b33_3))) (za [zV 22 3,zi 23 73 22] (za [zV 24 3,zi 25 74 24,zV 2 25] zc))
abbrev c33:=za [zk 2] (za [zk 3] k33_5)
theorem ok33:Ao Qa 33 c33 26 [.t 2]=true:=by kernel_rfl
end Go.Proofs.YtohgndhnndeijaaGreat.Ax
