/- Texts put behind one another: AxCOps, AxCLaw19. Conditions: none. -/
import Derived.Test.YtlaipllgmddkiaaGreatZC1
import Derived.Test.YtlaipllgmddkiaaGreatAxEnterZ
import Derived.Test.YtlaipllgmddkiaaGreatProg
import Derived.KernelRfl
set_option linter.all false
namespace Go.Proofs.YtlaipllgmddkiaaGreat.Ax
open Go Go.Ax
def k26_0:=jI [zL 21 5 3,zV 22 10,zv 23 0 22,zS 5 6 21,zS 3 7 23] jK
def k26_1:=jI [zL 24 5 8,zV 25 9,zv 26 2 25,zS 5 6 24,zS 3 7 26] jK
def k26_2:=jM (jI [zV 19 10,zl 20 19 0] (jJ 20 k26_0 jL)) k26_1
def k26_3:=jI [zL 12 5 3,zV 13 1,zL 14 6 5,zm 15 100 12 13 14,zV 11 15,zE 16 11 0,zE 17 11 1,zE 18 11 2,za 8,zS 5 8 16,zV 9 17,zV 10 18] k26_2
def c26:=jI [zh 3 0,zh 5 2,za 6,zy 7] k26_3
theorem ok26:Ao Tryz.prog 26 c26 27 [.c 6 (some 5),.c 7 (some 3)]=true:=by kernel_rfl
def w26:=aW k26_0.eq_1 (aW k26_1.eq_1 (aW k26_2.eq_1 (oW k26_3.eq_1)))
def k32_0:=jI [zL 19 5 3,zV 20 9,zv 21 0 20,zS 5 6 19,zS 3 7 21] jK
def k32_1:=jI [zL 22 5 8,yc 23,zS 5 6 22,zS 3 7 23] jK
def k32_2:=jM (jI [zV 17 9,zl 18 17 0] (jJ 18 k32_0 jL)) k32_1
def k32_3:=jI [zL 11 5 3,zV 12 1,zL 13 6 5,zm 14 104 11 12 13,zV 10 14,zE 15 10 0,zE 16 10 1,za 8,zS 5 8 15,zV 9 16] k32_2
def c32:=jI [zh 3 0,zh 5 2,za 6,zy 7] k32_3
theorem ok32:Ao Tryz.prog 32 c32 24 [.c 6 (some 5),.c 7 (some 3)]=true:=by kernel_rfl
def w32:=aW k32_0.eq_1 (aW k32_1.eq_1 (aW k32_2.eq_1 (oW k32_3.eq_1)))
def k38_0:=jI [zL 26 5 3,yq 27 1,zS 5 6 26,zS 3 7 27] jK
def k38_1:=jI [zL 43 5 3,zV 44 10,zv 45 0 44,zS 5 6 43,zS 3 7 45] jK
def k38_2:=jI [zL 50 5 3,yq 51 7,zS 5 6 50,zS 3 7 51] jK
def k38_3:=jI [zL 58 5 3,yq 59 6,zS 5 6 58,zS 3 7 59] jK
def k38_4:=jI [zV 53 11,zF 54 2 9,zM 55 54,ze 56 80 53 55,zN 57 56,zV 52 57] (jJ 52 k38_3 jL)
def k38_5:=jI [zF 47 0 9,zM 48 47,zl 49 48 4,zV 46 49] (jJ 46 k38_2 k38_4)
def k38_6:=jI [zL 74 5 3,yq 75 14,zS 5 6 74,zS 3 7 75] jK
def k38_7:=jI [zL 87 5 3,zV 88 12,zv 89 1 88,zS 5 6 87,zS 3 7 89] jK
def k38_8:=jI [zF 81 4 3,zM 82 81,zF 83 1 9,zM 84 83,zX 85 13 82 84,zF 86 8 85,jy 86] k38_7
def k38_9:=jI [zL 102 5 3,yc 103,zS 5 6 102,zS 3 7 103] jK
def k38_10:=jM (.drawn [(0,zF 90 4 3),(1,zM 91 90),(2,zF 92 1 9),(3,zM 93 92),(5,zF 95 3 9),(6,zM 96 95),(4,zV 94 12),(7,yB 97 96 64),(8,W1 98 (.bin .shl (.c (.int .u64 1)) (.t 97))),(9,W1 99 (.bin .or (.t 94) (.t 98))),(10,zX 100 13 91 93),(11,zF 101 8 100),(12,zS 1 101 99)]
 [[],[0],[],[2],[],[],[5],[6],[7],[4,8],[1,3,0,1,2,3,4,5,6,7,8,9],[10,0,1,2,3,4,5,6,7,8,9],[11,9,0,1,2,3,4,5,6,7,8,9]] 0) k38_9
def k38_11:=jM (jI [zF 78 0 5,zM 79 78,zQ 80 79 10] (jJ 80 k38_8 jL)) k38_10
def k38_12:=jI [zL 76 5 3,zd 77 16 76,zS 5 3 77] k38_11
def k38_13:=jM (jI [zF 67 0 5,zM 68 67,zQ 69 68 10,zV 70 69,zw 71 12 70,W2 72 70 true (.bin .eql (.t 71) (.c (.int .u64 0))),zA 73 70 72] (jJ 73 k38_6 jL)) k38_12
def k38_14:=jI [zF 60 4 3,zM 61 60,zF 62 1 9,zM 63 62,zX 64 13 61 63,zF 65 8 64,zM 66 65,zV 12 66] k38_13
def k38_15:=jM (.block 0 (jI [zV 41 10,zl 42 41 0,zV 40 42] (jJ 40 k38_1 k38_5))) k38_14
def k38_16:=jM (jI [zF 37 0 5,zM 38 37,zQ 39 38 10] (jJ 39 (.region [zK 11 1]) jL)) k38_15
def k38_17:=jI [zL 29 5 3,zV 30 1,zF 31 1 5,zL 32 1 31,zm 33 65 29 30 32,zV 28 33,zE 34 28 0,zE 35 28 1,zE 36 28 2,zg 9,zV 8 34,zS 4 9 35,zV 10 36] (jI [zK 11 2] k38_16)
def k38_18:=jM (jI [zL 13 6 5,zd 14 50 13,zN 15 14,zV 16 15,zz 17 16 0 5,zP 18 16 17,yK 19 16 18 9,zZ 20 19 16,zu 21 20 0 5,zr 22 20 21,z9 23 20 22 10,
 yg 24 16 20 23,zO 25 16 24] (jJ 25 k38_0 jL)) k38_17
def c38:=jI [zh 3 0,zh 5 2,za 6,zy 7] k38_18
theorem ok38:Ao Tryz.prog 38 c38 104 [.c 6 (some 5),.c 7 (some 3)]=true:=by kernel_rfl
def w38:=aW k38_0.eq_1 (aW k38_1.eq_1 (aW k38_2.eq_1 (aW k38_3.eq_1 (aW k38_4.eq_1 (aW k38_5.eq_1 (aW k38_6.eq_1 (aW k38_7.eq_1 (aW k38_8.eq_1 (aW k38_9.eq_1 (aW k38_10.eq_1 (aW k38_11.eq_1 (aW k38_12.eq_1 (aW k38_13.eq_1 (aW k38_14.eq_1 (aW k38_15.eq_1 (aW k38_16.eq_1 (aW k38_17.eq_1 (oW k38_18.eq_1))))))))))))))))))
def k100_0:=jI [zL 26 5 3,zS 5 6 26,zK 7 0,zK 8 1] jK
def k100_1:=jI [zL 39 5 3,zV 40 11,zS 5 6 39,zK 7 0,zV 8 40] jK
def k100_2:=jI [zL 45 5 3,zS 5 6 45,zK 7 0,zK 8 7] jK
def k100_3:=jI [zL 51 5 3,zS 5 6 51,zK 7 0,zK 8 6] jK
def k100_4:=jI [zF 47 2 10,zM 48 47,W1 49 (.call 80 [(zI 2),(.t 48)]),zN 50 49,zV 46 50] (jJ 46 k100_3 jL)
def k100_5:=jI [zF 42 0 10,zM 43 42,zl 44 43 1,zV 41 44] (jJ 41 k100_2 k100_4)
def k100_6:=jI [zL 62 5 3,zV 63 11,zS 5 6 62,zK 7 0,zV 8 63] jK
def k100_7:=jI [zL 74 5 3,zS 5 6 74,zK 7 0,zK 8 1] jK
def k100_8:AD:= .region [zL 86 5 3,zF 87 4 5,zM 88 87,ze 89 180 86 88,zV 85 89,zE 90 85 0,zE 91 85 1,zV 17 90,zV 14 91]
def k100_9:=jI [zL 109 5 3,zS 5 6 109,zK 7 0,zK 8 8] jK
def k100_10:=jI [zL 142 5 3,zV 143 16,zS 5 6 142,zV 7 143,zK 8 0] jK
def k100_11:=jI [zF 132 3 3,zM 133 132,zV 134 12,zF 135 3 5,zM 136 135,zV 137 16,ja 138 136 137,zV 139 9,zJ 140 138 139,zX 141 5 133 134,zS 5 141 140] k100_10
def k100_12:=jI [zF 125 4 3,zM 126 125,zF 127 1 10,zM 128 127,zV 129 15,zX 130 13 126 128,zF 131 4 130,zS 1 131 129] k100_11
def k100_13:=jM (.drawn [(0,zF 113 4 3),(1,zM 114 113),(3,zF 116 3 5),(4,zM 117 116),(5,zF 118 4 5),(6,zM 119 118),(7,zV 120 17),(8,zm 121 128 117 119 120),(2,zV 115 16),(9,zV 112 121),(10,zE 122 112 0),(12,zX 124 13 114 115),(13,zS 13 124 122),(11,zE 123 112 1)]
 [[],[0],[],[],[3],[],[5],[],[4,6,7],[8],[9],[9],[1,2,0,1,2,3,4,5,6,7,8,9,10],[12,10,8,0,1,2,3,4,5,6,7,8,9,10]] 0) k100_12
def k100_14:=jI [zL 110 5 3,zd 111 16 110,zS 5 3 111] k100_13
def k100_15:=jM (jI [zV 92 15,zF 93 4 3,zM 94 93,zF 95 1 10,zM 96 95,zX 97 13 94 96,zF 98 3 97,zM 99 98,jr 100 92 99,zV 101 100,zZ 102 14 101,z8 103 101 102,zO 104 101 103,zV 105 104,zZ 106 16 105,
 yb 107 105 106 0,zO 108 105 107] (jJ 108 k100_9 jL)) k100_14
def k100_16:=jM (jI [zF 82 3 5,zM 83 82,zQ 84 83 2] (jJ 84 k100_8 jL)) k100_15
def k100_17:=jI [zL 80 5 3,zd 81 179 80,zV 16 81] (jI [zK 17 0] k100_16)
def k100_18:=jI [zL 75 5 3,zV 76 9,ze 77 178 75 76,zV 78 13,z3 79 77 78,zV 15 79] k100_17
def k100_19:=jM (jI [zV 72 14,zN 73 72] (jJ 73 k100_7 jL)) k100_18
def k100_20:=jI [zF 65 3 5,zM 66 65,zF 67 4 5,zM 68 67,ze 69 177 66 68,zV 64 69,zE 70 64 0,zE 71 64 1,zV 13 70,zV 14 71] k100_19
def k100_21:=jM (jI [zV 60 11,zl 61 60 0] (jJ 61 k100_6 jL)) k100_20
def k100_22:=jI [zL 53 5 3,zV 54 1,zF 55 2 5,zL 56 1 55,zm 57 148 53 54 56,zV 52 57,zE 58 52 0,zE 59 52 1,zV 12 58,zV 11 59] k100_21
def k100_23:=jM (.block 0 (jI [zV 37 11,zl 38 37 0,zV 36 38] (jJ 36 k100_1 k100_5))) k100_22
def k100_24:=jI [zL 28 5 3,zV 29 1,zF 30 1 5,zL 31 1 30,zm 32 65 28 29 31,zV 27 32,zE 33 27 0,zE 34 27 1,zE 35 27 2,zg 10,zV 9 33,zS 4 10 34,zV 11 35] k100_23
def k100_25:=jM (jI [zL 18 6 5,zd 19 50 18,zN 20 19,zV 21 20,zz 22 21 0 5,zP 23 21 22,yK 24 21 23 1,zO 25 21 24] (jJ 25 k100_0 jL)) k100_24
def c100:=jI [zh 3 0,zh 5 2,za 6,zK 7 0,zK 8 0] k100_25
theorem ok100:Ao Tryz.prog 100 c100 144 [.c 6 (some 5),.t 7,.t 8]=true:=by kernel_rfl
def w100:=aW k100_0.eq_1 (aW k100_1.eq_1 (aW k100_2.eq_1 (aW k100_3.eq_1 (aW k100_4.eq_1 (aW k100_5.eq_1 (aW k100_6.eq_1 (aW k100_7.eq_1 (aW k100_8.eq_1 (aW k100_9.eq_1 (aW k100_10.eq_1 (aW k100_11.eq_1 (aW k100_12.eq_1 (aW k100_13.eq_1 (aW k100_14.eq_1 (aW k100_15.eq_1 (aW k100_16.eq_1 (aW k100_17.eq_1 (aW k100_18.eq_1 (aW k100_19.eq_1 (aW k100_20.eq_1 (aW k100_21.eq_1 (aW k100_22.eq_1 (aW k100_23.eq_1 (aW k100_24.eq_1 (oW k100_25.eq_1)))))))))))))))))))))))))
def k104_0:=jI [zL 30 5 3,zS 5 6 30,zK 7 1] jK
def k104_1:=jI [zL 42 5 3,zV 43 10,zS 5 6 42,zV 7 43] jK
def k104_2:AD:= .region [zL 47 4 9,zF 48 3 5,zM 49 48,ze 50 181 47 49,zS 4 9 50]
def k104_3:=jI [zL 63 5 3,zV 64 10,zS 5 6 63,zV 7 64] jK
def k104_4:=jI [zV 61 10,zl 62 61 0] (jJ 62 k104_3 jL)
def k104_5:=jI [zL 55 4 9,zF 56 4 5,zM 57 56,ze 58 182 55 57,zV 54 58,zE 59 54 0,zE 60 54 1,zS 4 9 59,zV 10 60] k104_4
def k104_6:=jI [zL 75 5 3,zV 76 10,zS 5 6 75,zV 7 76] jK
def k104_7:=jI [zL 80 5 3,zV 81 8,zV 82 11,zL 83 4 9,jF 84 149 80 81 82 83,zE 85 84 0,zE 86 84 1,zS 5 6 85,zV 7 86] jK
def k104_8:=jI [zL 91 5 3,zS 5 6 91,zK 7 1] jK
def k104_9:=jI [zL 92 5 3,zV 93 8,zV 94 11,zm 95 184 92 93 94,zS 5 6 95,zK 7 0] jK
def k104_10:=jM (jI [zL 87 5 3,zL 88 4 9,zV 89 11,zm 90 183 87 88 89] (jJ 90 k104_8 jL)) k104_9
def k104_11:=jM (jI [zF 77 0 5,zM 78 77,zl 79 78 4] (jJ 79 k104_7 jL)) k104_10
def k104_12:=jM (jI [zV 73 10,zl 74 73 0] (jJ 74 k104_6 jL)) k104_11
def k104_13:=jI [zL 66 5 3,zV 67 1,zF 68 2 5,zL 69 1 68,zm 70 148 66 67 69,zV 65 70,zE 71 65 0,zE 72 65 1,zV 11 71,zV 10 72] k104_12
def k104_14:=jM (jI [zF 51 0 5,zM 52 51,zQ 53 52 3] (jJ 53 k104_5 jL)) k104_13
def k104_15:=jM (jI [zF 44 0 5,zM 45 44,zl 46 45 4] (jJ 46 k104_2 jL)) k104_14
def k104_16:=jM (jI [zV 40 10,zl 41 40 0] (jJ 41 k104_1 jL)) k104_15
def k104_17:=jI [zL 32 5 3,zV 33 1,zF 34 1 5,zL 35 1 34,zm 36 65 32 33 35,zV 31 36,zE 37 31 0,zE 38 31 1,zE 39 31 2,zg 9,zV 8 37,zS 4 9 38,zV 10 39] k104_16
def k104_18:=jM (jI [zL 12 6 5,zd 13 50 12,zN 14 13,zV 15 14,zz 16 15 0 5,zP 17 15 16,yK 18 15 17 2,zZ 19 18 15,zu 20 19 0 5,zr 21 19 20,z9 22 19 21 3,
 yg 23 15 19 22,zZ 24 23 15,zu 25 24 0 5,zr 26 24 25,z9 27 24 26 4,yg 28 15 24 27,zO 29 15 28] (jJ 29 k104_0 jL)) k104_17
def c104:=jI [zh 3 0,zh 5 2,za 6,zK 7 0] k104_18
theorem ok104:Ao Tryz.prog 104 c104 96 [.c 6 (some 5),.t 7]=true:=by kernel_rfl
def w104:=aW k104_0.eq_1 (aW k104_1.eq_1 (aW k104_2.eq_1 (aW k104_3.eq_1 (aW k104_4.eq_1 (aW k104_5.eq_1 (aW k104_6.eq_1 (aW k104_7.eq_1 (aW k104_8.eq_1 (aW k104_9.eq_1 (aW k104_10.eq_1 (aW k104_11.eq_1 (aW k104_12.eq_1 (aW k104_13.eq_1 (aW k104_14.eq_1 (aW k104_15.eq_1 (aW k104_16.eq_1 (aW k104_17.eq_1 (oW k104_18.eq_1))))))))))))))))))
def k149_0:AD:= .region [zL 43 5 4,zV 44 2,ze 45 215 43 44,yi 46 45 0,zV 14 46]
def k149_1:=jI [zV 18 1,yi 19 18 0,zV 20 19,zZ 21 1 20,zZ 22 10 20,yt 23 20 21 22,zO 24 20 23,zV 25 24,zZ 26 2 25,yb 27 25 26 0,zO 28 25 27,zV 29 28,zZ 30 2 29,
 zZ 31 10 29,yt 32 29 30 31,zO 33 29 32,zV 34 33,yj 35 34 4 7,yo 36 34 141 35,z8 37 34 36,zO 38 34 37,zV 39 38,yj 40 39 4 7,yo 41 39 59 40,zO 42 39 41,zV 14 42] (jJ 14
 jL k149_0)
def k149_2:=jI [zL 47 5 4,zS 5 8 47,zK 9 1] jK
def k149_3:=jI [zL 56 5 4,zS 5 8 56,zK 9 4] jK
def k149_4:=jI [zL 66 5 4,zS 5 8 66,zK 9 5] jK
def k149_5:=jI [zL 76 5 4,zS 5 8 76,zK 9 7] jK
def k149_6:AD:= .region [zL 87 5 4,zL 88 4 7,zV 89 2,zm 90 183 87 88 89,zV 77 90]
def k149_7:=jI [zL 91 5 4,zS 5 8 91,zK 9 1] jK
def k149_8:=jM (jM (.drawn [(0,zL 78 4 7),(1,zF 79 3 4),(2,zM 80 79),(3,zV 81 1),(4,zX 82 5 80 81),(5,zF 83 0 82),(6,zL 84 4 83),(7,ze 85 67 78 84),(8,zN 86 85),(9,zV 77 86)] [[],[],[1],[],[2,3],[4],[5],[0,6],[7],[8,7]] 0) (jJ 77 jL k149_6)) (jJ 77 k149_7 jL)
def k149_9:=jI [zF 68 3 4,zM 69 68,zV 70 1,zX 71 5 69 70,zF 72 0 71,zF 73 0 72,zM 74 73,zQ 75 74 1,zV 67 75] (jJ 67 k149_5 k149_8)
def k149_10:=jI [zF 58 3 4,zM 59 58,zV 60 2,zX 61 5 59 60,zF 62 0 61,zL 63 4 62,zd 64 59 63,zN 65 64,zV 57 65] (jJ 57 k149_4 k149_9)
def k149_11:=jI [zF 49 3 4,zM 50 49,zV 51 1,zX 52 5 50 51,zF 53 0 52,zL 54 4 53,zd 55 59 54,zV 48 55] (jJ 48 k149_3 k149_10)
def k149_12:=jI [zL 101 5 4,zS 5 8 101,zK 9 0] jK
def k149_13:=jI [zF 94 3 4,zM 95 94,zV 96 2,zL 97 4 7,zV 98 1,zJ 99 97 98,zX 100 5 95 96,zS 5 100 99] k149_12
def k149_14:=jI [zL 92 5 4,zd 93 16 92,zS 5 4 93] k149_13
def k149_15:=jM (.block 0 (jM (jI [zL 15 5 4,zd 16 15 15,zN 17 16,zV 14 17] (jJ 14 jL k149_1)) (jJ 14 k149_2 k149_11))) k149_14
def k149_16:=jI [zF 11 3 4,zM 12 11,zi 13 12,zV 10 13] k149_15
def c149:=jI [zh 4 0,zh 7 3,za 8,zK 9 0] k149_16
theorem ok149:Ao Tryz.prog 149 c149 102 [.c 8 (some 5),.t 9]=true:=by kernel_rfl
def w149:=aW k149_0.eq_1 (aW k149_1.eq_1 (aW k149_2.eq_1 (aW k149_3.eq_1 (aW k149_4.eq_1 (aW k149_5.eq_1 (aW k149_6.eq_1 (aW k149_7.eq_1 (aW k149_8.eq_1 (aW k149_9.eq_1 (aW k149_10.eq_1 (aW k149_11.eq_1 (aW k149_12.eq_1 (aW k149_13.eq_1 (aW k149_14.eq_1 (aW k149_15.eq_1 (oW k149_16.eq_1))))))))))))))))
def k178_0:=jJ 28 (jI [zK 4 0] jK) jL
def k178_1:=jJ 34 (jI [zK 4 0] jK) jL
def k178_2:=jM (.drawn [(0,zF 35 4 2),(1,zM 36 35),(2,zF 37 3 2),(3,zM 38 37),(4,zV 39 1),(5,zX 40 5 38 39),(6,zF 41 0 40),(7,zF 42 1 41),(8,zM 43 42),(9,zX 44 13 36 43),(10,zF 45 4 44),(11,zM 46 45),(12,zV 4 46)] [[],[0],[],[2],[],[3,4],[5],[6],[7],[1,8],[9],[10],[11,0,1,2,3,4,5,6,7,8,9,10,11]] 0) jK
def k178_3:=jM (jI [zL 29 5 2,zd 30 76 29,zV 31 1,ze 32 221 30 31,zi 33 32,zQ 34 33 0] k178_1) k178_2
def k178_4:=jM (jI [zL 5 5 2,zd 6 15 5,zN 7 6,zV 8 7,zZ 9 1 8,yb 10 8 9 0,zO 11 8 10,zV 12 11,zZ 13 1 12,zz 14 12 3 2,zP 15 12 14,zW 16 12 15,yt 17 12 13 16,
 zO 18 12 17,zV 19 18,zz 20 19 3 2,zP 21 19 20,zZ 22 1 19,z7 23 19 5 21 22,zz 24 19 0 23,zz 25 19 0 24,zP 26 19 25,yK 27 19 26 1,zO 28 19 27] k178_0) k178_3
def c178:=jI [zh 2 0,zK 4 0] k178_4
theorem ok178:Ao Tryz.prog 178 c178 47 [.t 4]=true:=by kernel_rfl
def w178:=aW k178_0.eq_1 (aW k178_1.eq_1 (aW k178_2.eq_1 (aW k178_3.eq_1 (oW k178_4.eq_1))))
def k183_0:=jI [zF 7 0 4,zM 8 7,zQ 9 8 2,zV 10 9,zp 11 10 5 3,zu 12 10 1 4,zr 13 10 12,zw 14 2 10,yY 15 10 225 11 13 14,zA 16 10 15,zV 6 16] jK
def c183:=jI [zh 3 0,zh 4 1,zo 6] k183_0
theorem ok183:Ao Tryz.prog 183 c183 17 [.t 6]=true:=by kernel_rfl
def k184_0:AD:= .region [zF 47 3 3,zM 48 47,zV 49 9,zV 50 10,W1 51 (.WB true [(.t 50),(zI (-1))]),zX 52 5 48 49,zF 53 4 52,zS 1 53 51]
def k184_1:=jM (.block 1 (jI [zV 44 42,zX 45 1 40 42,zM 46 45,zV 9 44,zV 10 46] k184_0)) (.region [zc 54 42,zV 42 54])
def b184_2:=jI [zj 43 42 41] (jM (jJ 43 jL (.exit 0)) k184_1)
def k184_3:AD:= .region [zF 70 4 3,zM 71 70,zV 72 11,zV 73 2,zc 74 73,zX 75 13 71 72,zF 76 5 75,zS 1 76 74]
def k184_4:=jI [zF 61 4 3,zM 62 61,zV 63 11,zX 64 13 62 63,zF 65 5 64,zM 66 65,zV 67 1,zc 68 67,yu 69 66 68] (jJ 69 k184_3 jL)
def k184_5:=jM (.block 3 (jI [zV 60 58,zV 11 60] k184_4)) (.region [zc 77 58,zV 58 77])
def b184_6:=jI [zj 59 58 57] (jM (jJ 59 jL (.exit 2)) k184_5)
def k184_7:=jM (jI [zF 55 4 3,zM 56 55,zi 57 56,zK 58 0] (.block 2 (.loop b184_6))) (jI [zL 78 5 3,zS 5 6 78] jK)
def k184_8:=jM (jI [zF 39 0 7,zM 40 39,zi 41 40,zK 42 0] (.block 0 (.loop b184_2))) k184_7
def k184_9:=jM (.drawn [(0,zF 22 3 3),(1,zM 23 22),(3,zF 25 3 3),(4,zM 26 25),(6,zF 28 3 3),(7,zM 29 28),(8,zV 30 1),(9,zX 31 5 29 30),(10,zF 32 0 31),(11,zL 33 4 32),(2,zV 24 2),(13,zX 35 5 23 24),(14,zF 36 0 35),(15,zS 4 36 33),(5,zV 27 1),(12,zk 34),
 (16,zX 37 5 26 27),(17,zF 38 0 37),(18,zS 4 38 34)] [[],[0],[],[],[3],[],[],[6],[],[7,8],[9],[10],[],[1,2,0,1,2,6,7,8,9,10,11],[13,0,1,2,6,7,8,9,10,11],[14,11,0,1,2,6,7,8,9,10,11],[4,5,0,1,2,3,4,5,6,7,8,9,10,11,12,13,14,15],[16,0,1,2,3,4,5,6,7,8,9,10,11,12,13,14,15],[17,12,15,0,1,2,3,4,5,6,7,8,9,10,11,12,13,14,15]] 0) k184_8
def k184_10:=jI [zL 20 5 3,zd 21 16 20,zS 5 3 21] k184_9
def k184_11:=jI [zL 13 5 3,zd 14 76 13,zV 15 1,zV 16 2,zm 17 226 14 15 16,zV 12 17,zE 18 12 0,zE 19 12 1,yJ 7,zS 1 7 18,zV 8 19] k184_10
def c184:=jI [zh 3 0,za 6] k184_11
theorem ok184:Ao Tryz.prog 184 c184 79 [.c 6 (some 5)]=true:=by kernel_rfl
def w184:=aW k184_0.eq_1 (aW k184_1.eq_1 (aW k184_3.eq_1 (aW k184_4.eq_1 (aW k184_5.eq_1 (aW k184_7.eq_1 (aW k184_8.eq_1 (aW k184_9.eq_1 (aW k184_10.eq_1 (oW k184_11.eq_1)))))))))
end Go.Proofs.YtlaipllgmddkiaaGreat.Ax
namespace Go.Proofs.YtlaipllgmddkiaaGreat.Ax
open Go Go.Ax
set_option maxRecDepth 100000
def k6_0:=jJ 13 (jI [zo 6] jK) jL
def k6_1:=jJ 21 (jI [yr 6] jK) jL
def k6_2:AD:= .region [zL 49 5 3,zd 50 39 49,yq 51 1,zS 5 10 50,zS 3 11 51]
def k6_3:=jM (.drawn [(0,zL 52 3 9),(1,zL 53 3 11),(2,ze 54 41 52 53),(3,zV 55 54),(4,zp 56 55 5 8),(6,zp 58 55 5 10),(5,ya 57 55 39 56),(7,zC 59 55 22 57 58),(8,zA 60 55 59),(9,zV 61 60),(10,zp 62 61 5 3),
 (11,zp 63 61 5 7),(12,zC 64 61 23 62 63),(13,zA 65 61 64),(14,zV 66 65),(15,zp 67 66 5 8),(16,ya 68 66 15 67),(17,zA 69 66 68),(18,zV 6 69)]
 [[],[],[0,1],[2,2],[3],[4,3,3],[3],[5,6,5,3],[3,7],[8,7],[9],[9],[10,11,9,9],[9,12],[13,12],[14],[15,14,14],[14,16],[17,16,0,1,2,3,4,5,6,7,8,9,10,11,12,13,14,15,16,17]] 0) jK
def k6_4:=jM (jI [zF 40 0 5,zM 41 40,zQ 42 41 9,zV 43 42,zz 44 43 0 5,zP 45 43 44,yl 46 43 45 10,zO 47 43 46,zN 48 47] (jJ 48 k6_2 jL)) k6_3
def k6_5:=jM (.drawn [(0,zL 32 5 3),(3,zL 35 6 5),(1,zd 33 39 32),(4,zd 36 40 35),(2,zV 34 1),(5,zm 37 18 33 34 36),(6,zV 31 37),(7,zE 38 31 0),(9,ye 10 0),(10,jt 11 1),(11,zS 5 10 38),(8,zE 39 31 1),
 (12,zS 3 11 39)] [[],[0],[],[],[3,1],[1,2,4,4],[5],[6],[6],[],[],[9,7,5,0,1,2,3,4,5,6,7,9,10],[10,8,11,0,1,2,3,4,5,6,7,8,9,10,11]] 2) k6_4
def k6_6:=jI [zL 25 5 3,zV 26 1,zL 27 6 5,zm 28 38 25 26 27,zV 24 28,zE 29 24 0,zE 30 24 1,za 8,zy 9,zS 5 8 29,zS 3 9 30] k6_5
def k6_7:=jI [zL 22 5 3,zd 23 16 22,za 7,zS 5 7 23] k6_6
def k6_8:=jM (jI [zL 14 5 3,zL 15 6 5,ze 16 37 14 15,zV 17 16,yj 18 17 5 3,yo 19 17 15 18,z8 20 17 19,zO 21 17 20] k6_1) k6_7
def k6_9:=jM (jI [W1 12 (.call 36 []),zN 13 12] k6_0) k6_8
def c6:=jI [zh 3 0,zh 5 2,zo 6] k6_9
theorem ok6:Ao Tryz.prog 6 c6 70 [.t 6]=true:=by kernel_rfl
def w6:=aW k6_0.eq_1 (aW k6_1.eq_1 (aW k6_2.eq_1 (aW k6_3.eq_1 (aW k6_4.eq_1 (aW k6_5.eq_1 (aW k6_6.eq_1 (aW k6_7.eq_1 (aW k6_8.eq_1 (oW k6_9.eq_1)))))))))
def k36_0:=jM (.drawn [(0,zL 21 3 2),(1,yc 22),(2,W1 23 (.eqs false [0,0,0] (.t 21) (.t 22))),(3,zV 24 23),(4,zp 25 24 3 4),(5,W2 26 24 true (.build [.int .i64 0,.int .u64 0,.int .i64 0] [(1,1,(.c (.int .u64 8)))])),(6,W2 27 24 true (.eqs false [0,0,0] (.t 25) (.t 26))),(7,zA 28 24 27),(8,zV 29 28),(9,zp 30 29 5 3),
 (10,W2 31 29 true (.call 106 [])),(11,zC 32 29 23 30 31),(12,zA 33 29 32),(13,zV 34 33),(14,zp 35 34 5 1),(15,ya 36 34 15 35),(16,zA 37 34 36),(17,zV 0 37)]
 [[],[],[0,1],[2],[3],[3],[4,5,3],[3,6],[7,3],[8],[8,8],[9,10,10,8],[8,11],[12,11],[13],[14,13,13],[13,15],[16,15,0,1,2,3,4,5,6,7,8,9,10,11,12,13,14,15,16]] 0) jK
def k36_1:=jM (.drawn [(0,zL 14 5 1),(1,yn 15 0 3),(2,zd 16 107 15),(3,yN 17 10 16),(4,yO 18 38 14 17),(5,zV 13 18),(6,zE 19 13 0),(8,ye 3 1),
 (9,jt 4 2),(10,zS 5 3 19),(7,zE 20 13 1),(11,zS 3 4 20)] [[],[],[1],[2],[0,3,2],[4],[5],[5],[],[],[8,6,4,0,1,2,3,4,5,6,8,9],[9,7,10,0,1,2,3,4,5,6,7,8,9,10]] 3) k36_0
def k36_2:=jI [W1 6 (.call 106 []),yV 7 4,zd 8 107 7,yN 9 9 8,yO 10 38 6 9,zV 5 10,zE 11 5 0,zE 12 5 1,za 1,zy 2,
 zS 5 1 11,zS 3 2 12] k36_1
def c36:=jI [zo 0] k36_2
theorem ok36:Ao Tryz.prog 36 c36 38 [.t 0]=true:=by kernel_rfl
def w36:=aW k36_0.eq_1 (aW k36_1.eq_1 (oW k36_2.eq_1))
def k37_0:=jI [zF 5 3 2,zM 6 5,zi 7 6,yw 8 7 100,zV 9 8,zz 10 9 4 2,zP 11 9 10,zW 12 9 11,ym 13 9 12 50,zO 14 9 13,zV 15 14,zz 16 15 1 3,zz 17 15 0 16,
 zP 18 15 17,zW 19 15 18,ym 20 15 19 10,zO 21 15 20,zV 22 21,zz 23 22 2 3,zz 24 22 0 23,zP 25 22 24,zW 26 22 25,ym 27 22 26 10,zO 28 22 27,zV 4 28] jK
def c37:=jI [zh 2 0,zh 3 1,zo 4] k37_0
theorem ok37:Ao Tryz.prog 37 c37 29 [.t 4]=true:=by kernel_rfl
def k39_0:AD:= .drawn [(0,zF 31 3 3),(1,zM 32 31),(2,zF 33 0 5),(3,zM 34 33),(4,zF 35 1 5),(5,zM 36 35),(6,zF 37 2 5),(7,zM 38 37),(8,zF 39 3 5),(9,zM 40 39),(11,zF 42 3 1),(12,zM 43 42),(13,zV 44 4),(14,zX 45 5 43 44),(15,zF 46 4 45),(16,zM 47 46),
 (10,W1 41 (.build [.int .i64 0,.int .i64 0,.int .i64 0,.int .i64 0] [(0,1,(.t 34)),(1,1,(.t 36)),(2,1,(.t 38)),(3,1,(.t 40))])),(17,zJ 48 41 47),(18,W1 49 (.born 0 (.EO 5 1 [.int .i64 0,.int .i64 0,.int .i64 0,.int .i64 0,.int .i64 0] [(0,(.t 48))]))),(19,yz 50 5 40 32 49),(20,zF 51 3 3),(21,zS 1 51 50)]
 [[],[0],[],[2],[],[4],[],[6],[],[8],[3,5,7,9],[],[11],[],[12,13],[14],[15],[10,16],[17],[1,18],[0,1,2,3,4,5,6,7,8,9,10,11,12,13,14,15,16,17,18,19],[20,19,19,0,1,2,3,4,5,6,7,8,9,10,11,12,13,14,15,16,17,18,19]] 1
def k39_1:=jM (.block 1 (jI [zF 25 3 1,zM 26 25,zV 27 4,zX 28 5 26 27,zF 29 0 28,zL 30 4 29,zg 5,zS 4 5 30] k39_0)) (.region [zV 23 4,zc 24 23,zV 4 24])
def b39_2:=jM (jI [zV 18 4,zF 19 3 1,zM 20 19,zi 21 20,zj 22 18 21] (jJ 22 jL (.exit 0))) k39_1
def k39_3:=jM (.block 3 (.drawn [(0,zF 59 4 3),(1,zM 60 59),(2,zF 61 4 1),(3,zM 62 61),(4,zV 63 6),(5,zX 64 13 62 63),(6,zL 65 13 64),(7,zd 66 108 65),(8,W1 67 (.born 0 (.EO 13 1 [.int .i64 0,.int .i64 0,.int .i64 0,.int .i64 0,.int .i64 0,.int .i64 0,.int .i64 0,.bool false,.int .u64 0,.int .u64 0,.int .u64 0,.int .u64 0,.int .u64 0] [(0,(.t 66))]))),(9,yz 68 13 104 60 67),(10,zF 69 4 3),
 (11,zS 1 69 68)] [[],[0],[],[2],[],[3,4],[5],[6],[7],[1,8,7],[0,1,2,3,4,5,6,7,8,9],[10,9,9,0,1,2,3,4,5,6,7,8,9]] 1)) (.region [zV 57 6,zc 58 57,zV 6 58])
def b39_4:=jM (jI [zV 52 6,zF 53 4 1,zM 54 53,zi 55 54,zj 56 52 55] (jJ 56 jL (.exit 2))) k39_3
def k39_5:=jM (jI [zK 6 0] (.block 2 (.loop b39_4))) (jI [zL 70 5 3,zS 5 2 70] jK)
def k39_6:=jM (jI [zK 4 0] (.block 0 (.loop b39_2))) k39_5
def k39_7:=jI [zF 7 0 1,zF 8 0 7,zM 9 8,zF 10 0 1,zF 11 1 10,zM 12 11,zF 13 0 1,zF 14 2 13,zM 15 14,W1 16 (.build [.int .i64 0,.int .i64 0,.int .i64 0] [(0,1,(.t 9)),(1,1,(.t 12)),(2,1,(.t 15))]),W1 17 (.build [.int .i64 0,.int .i64 0,.int .i64 0,.lit (.slice none 0 0),.lit (.slice none 0 0)] [(0,3,(.t 16))]),za 3,
 zS 5 3 17] k39_6
def c39:=jI [zh 1 0,za 2] k39_7
theorem ok39:Ao Tryz.prog 39 c39 71 [.c 2 (some 5)]=true:=by kernel_rfl
def w39:=aW k39_0.eq_1 (aW k39_1.eq_1 (aW k39_3.eq_1 (aW k39_5.eq_1 (aW k39_6.eq_1 (oW k39_7.eq_1)))))
def k40_0:=jI [zF 3 0 1,zM 4 3,zF 5 1 1,zF 6 0 5,zM 7 6,zF 8 2 1,zF 9 0 8,zM 10 9,zF 11 3 1,zM 12 11,zF 13 4 1,zM 14 13,zF 15 5 1,zM 16 15,W1 17 (.build [.int .i64 0,.lit (.slice none 0 0),.lit (.slice none 0 0),.int .i64 0,.int .i64 0,.int .u64 0] [(0,1,(.t 4)),(1,1,(.t 7)),(2,1,(.t 10)),(3,1,(.t 12)),(4,1,(.t 14)),(5,1,(.t 16))]),
 zS 6 2 17] jK
def c40:=jI [zh 1 0,W1 2 (.new [.int .i64 0,.lit (.slice none 0 0),.lit (.slice none 0 0),.int .i64 0,.int .i64 0,.int .u64 0])] k40_0
theorem ok40:Ao Tryz.prog 40 c40 18 [.c 2 (some 6)]=true:=by kernel_rfl
def k41_0:=jI [zF 5 0 2,zM 6 5,zF 7 0 3,zM 8 7,yu 9 6 8,zV 10 9,zu 11 10 1 2,zr 12 10 11,zu 13 10 1 3,zr 14 10 13,yI 15 10 12 14,zA 16 10 15,zV 17 16,zu 18 17 2 2,
 zr 19 17 18,zu 20 17 2 3,zr 21 17 20,yI 22 17 19 21,zA 23 17 22,zV 4 23] jK
def c41:=jI [zh 2 0,zh 3 1,zo 4] k41_0
theorem ok41:Ao Tryz.prog 41 c41 24 [.t 4]=true:=by kernel_rfl
def k106_0:=jM (.drawn [(0,zL 34 5 1),(1,yn 35 0 3),(2,zd 36 107 35),(3,yn 37 1 6),(4,zd 38 107 37),(5,yd 39 2 36 38 2),(6,yO 40 32 34 39),(7,zV 33 40),
 (8,zE 41 33 0),(10,zS 5 1 41),(9,zE 42 33 1)] [[],[],[1],[],[3,2],[2,4],[0,5,4],[6],[7],[7],[8,6,0,1,2,3,4,5,6,7,8]] 2) (jI [zL 43 5 1,zS 5 0 43] jK)
def k106_1:=jM (.drawn [(0,zL 24 5 1),(1,yn 25 0 3),(2,zd 26 107 25),(3,yn 27 1 5),(4,zd 28 107 27),(5,yd 29 2 26 28 1),(6,yO 30 32 24 29),(7,zV 23 30),
 (8,zE 31 23 0),(10,zS 5 1 31),(9,zE 32 23 1)] [[],[],[1],[],[3,2],[2,4],[0,5,4],[6],[7],[7],[8,6,0,1,2,3,4,5,6,7,8]] 2) k106_0
def k106_2:=jM (.drawn [(0,zL 14 5 1),(1,yn 15 0 3),(2,zd 16 107 15),(3,yn 17 1 4),(4,zd 18 107 17),(5,W1 19 (.build [.int .i64 0,.lit (.slice none 0 0),.lit (.slice none 0 0),.int .i64 0,.int .i64 0,.int .u64 0] [(0,1,(zI 3)),(1,1,(.t 16)),(2,1,(.t 18)),(3,1,(zI 7)),(4,1,(zI 67))])),(6,yO 20 32 14 19),
 (7,zV 13 20),(8,zE 21 13 0),(10,zS 5 1 21),(9,zE 22 13 1)] [[],[],[1],[],[3,2],[2,4],[0,5,4],[6],[7],[7],[8,6,0,1,2,3,4,5,6,7,8]] 2) k106_1
def k106_3:=jI [W1 4 (.call 185 []),yV 5 0,zd 6 107 5,yV 7 3,zd 8 107 7,yd 9 1 6 8 4,yO 10 26 4 9,zV 3 10,zE 11 3 0,zE 12 3 1,
 za 1,zy 2,zS 5 1 11,zS 3 2 12] k106_2
def c106:=jI [za 0] k106_3
theorem ok106:Ao Tryz.prog 106 c106 44 [.c 0 (some 5)]=true:=by kernel_rfl
def w106:=aW k106_0.eq_1 (aW k106_1.eq_1 (aW k106_2.eq_1 (oW k106_3.eq_1)))
def k107_0:=jI [zV 3 0,jz 4 3,zS 1 2 4] jK
def c107:=jI [yJ 2] k107_0
theorem ok107:Ao Tryz.prog 107 c107 5 [.c 2 (some 1)]=true:=by kernel_rfl
def k108_0:=jI [zF 3 0 1,zM 4 3,zF 5 1 1,zM 6 5,zF 7 2 1,zM 8 7,zF 9 3 1,zM 10 9,zF 11 4 1,zM 12 11,zF 13 5 1,zM 14 13,zF 15 6 1,zM 16 15,zF 17 7 1,zM 18 17,zF 19 8 1,zM 20 19,zF 21 9 1,zL 22 4 21,
 W1 23 (.build [.int .i64 0,.int .i64 0,.int .i64 0,.int .i64 0,.int .i64 0,.int .i64 0,.int .i64 0,.bool false,.int .u64 0,.int .u64 0,.int .u64 0,.int .u64 0,.int .u64 0] [(0,1,(.t 4)),(1,1,(.t 6)),(2,1,(.t 8)),(3,1,(.t 10)),(4,1,(.t 12)),(5,1,(.t 14)),(6,1,(.t 16)),(7,1,(.t 18)),(8,1,(.t 20)),(9,4,(.t 22))]),zS 13 2 23] jK
def c108:=jI [zh 1 0,zb 2] k108_0
theorem ok108:Ao Tryz.prog 108 c108 24 [.c 2 (some 13)]=true:=by kernel_rfl
def k185_0:=jI [W1 4 (.call 124 []),zY 5 60 4 64,zV 3 5,zE 6 3 0,zE 7 3 1,za 1,zS 5 1 6,zV 2 7] (jI [zL 8 5 1,zS 5 0 8] jK)
def c185:=jI [za 0] k185_0
theorem ok185:Ao Tryz.prog 185 c185 9 [.c 0 (some 5)]=true:=by kernel_rfl
end Go.Proofs.YtlaipllgmddkiaaGreat.Ax
