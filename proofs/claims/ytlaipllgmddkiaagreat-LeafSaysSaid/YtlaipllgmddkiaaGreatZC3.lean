/- Texts put behind one another: AxCOps, AxCLaw20. Conditions: none. -/
import Derived.Test.YtlaipllgmddkiaaGreatZC1
import Derived.Test.YtlaipllgmddkiaaGreatAxEnterZ
import Derived.Test.YtlaipllgmddkiaaGreatProg
import Derived.KernelRfl
set_option linter.all false
namespace Go.Proofs.YtlaipllgmddkiaaGreat.Ax
open Go Go.Ax
def k26_0:=jN [zL 21 5 3,zV 22 10,zv 23 0 22,zS 5 6 21,zS 3 7 23] jP
def k26_1:=jN [zL 24 5 8,zV 25 9,zv 26 2 25,zS 5 6 24,zS 3 7 26] jP
def k26_2:=jR (jN [zV 19 10,zk 20 19 0] (jO 20 k26_0 jQ)) k26_1
def k26_3:=jN [zL 12 5 3,zV 13 1,zL 14 6 5,zm 15 100 12 13 14,zV 11 15,zE 16 11 0,zE 17 11 1,zE 18 11 2,za 8,zS 5 8 16,zV 9 17,zV 10 18] k26_2
def c26:=jN [zh 3 0,zh 5 2,za 6,zy 7] k26_3
theorem ok26:Ao Tryz.prog 26 c26 27 [.c 6 (some 5),.c 7 (some 3)]=true:=by kernel_rfl
def w26:=aW k26_0.eq_1 (aW k26_1.eq_1 (aW k26_2.eq_1 (oW k26_3.eq_1)))
def k32_0:=jN [zL 19 5 3,zV 20 9,zv 21 0 20,zS 5 6 19,zS 3 7 21] jP
def k32_1:=jN [zL 22 5 8,yg 23,zS 5 6 22,zS 3 7 23] jP
def k32_2:=jR (jN [zV 17 9,zk 18 17 0] (jO 18 k32_0 jQ)) k32_1
def k32_3:=jN [zL 11 5 3,zV 12 1,zL 13 6 5,zm 14 104 11 12 13,zV 10 14,zE 15 10 0,zE 16 10 1,za 8,zS 5 8 15,zV 9 16] k32_2
def c32:=jN [zh 3 0,zh 5 2,za 6,zy 7] k32_3
theorem ok32:Ao Tryz.prog 32 c32 24 [.c 6 (some 5),.c 7 (some 3)]=true:=by kernel_rfl
def w32:=aW k32_0.eq_1 (aW k32_1.eq_1 (aW k32_2.eq_1 (oW k32_3.eq_1)))
def k44_0:=jN [zL 32 5 3,yI 33 1,zS 5 6 32,zS 3 7 33] jP
def k44_1:=jN [zL 45 5 3,zV 46 10,zv 47 0 46,zS 5 6 45,zS 3 7 47] jP
def k44_2:=jR (.drawn [(0,zL 56 5 3),(2,zL 58 5 3),(3,zd 59 76 58),(4,zV 60 8),(5,ze 61 112 59 60),(7,zS 5 6 56),(1,zV 57 11),(6,yR 62 57 61),(8,zS 3 7 62)] [[],[],[],[2],[],[3,4,3],[1,5],[0,5,0],[6,7,0,1,2,3,4,5,6,7]] 0) jP
def k44_3:=jN [zL 52 4 9,zd 53 111 52,zV 51 53,zE 54 51 0,zE 55 51 1,zV 11 54,zV 12 55] k44_2
def k44_4:=jN [zL 70 5 3,yI 71 7,zS 5 6 70,zS 3 7 71] jP
def k44_5:=jN [zL 78 5 3,yI 79 6,zS 5 6 78,zS 3 7 79] jP
def k44_6:=jR (.drawn [(0,zL 84 5 3),(1,zF 85 4 3),(2,zM 86 85),(3,zF 87 1 9),(4,zM 88 87),(5,zF 89 3 5),(6,zM 90 89),(7,zX 91 13 86 88),(8,zF 92 9 91),(9,jm 93 4 92 90),(10,zM 94 93),(12,zS 5 6 84),(11,zv 95 1 94),(13,zS 3 7 95)]
 [[],[],[1],[],[3],[],[5],[2,4],[7],[8,6],[9],[10],[0,0],[11,12,0,1,2,3,4,5,6,7,8,9,10,11,12]] 0) jP
def k44_7:=jN [zF 81 0 5,zM 82 81,zQ 83 82 12,zV 80 83] (jO 80 k44_6 jQ)
def k44_8:=jN [zV 73 13,zF 74 2 9,zM 75 74,ze 76 80 73 75,zN 77 76,zV 72 77] (jO 72 k44_5 k44_7)
def k44_9:=jN [zL 109 5 3,yg 110,zS 5 6 109,zS 3 7 110] jP
def k44_10:=jR (.drawn [(0,zF 98 4 3),(1,zM 99 98),(2,zF 100 1 9),(3,zM 101 100),(4,zF 102 3 5),(5,zM 103 102),(6,zF 104 5 5),(7,zM 105 104),(8,zX 106 13 99 101),(9,zF 107 9 106),(10,jm 108 4 107 103),(11,zS 1 108 105)] [[],[0],[],[2],[],[4],[],[6],[1,3],[8],[9,5,0,1,2,3,4,5,6,7],[10,7,0,1,2,3,4,5,6,7]] 0) k44_9
def k44_11:=jN [zL 96 5 3,zd 97 16 96,zS 5 3 97] k44_10
def k44_12:=jR (.block 0 (jN [zF 67 0 9,zM 68 67,zk 69 68 5,zV 66 69] (jO 66 k44_4 k44_8))) k44_11
def k44_13:=jR (jN [zF 63 0 5,zM 64 63,zQ 65 64 12] (jO 65 (.region [zK 13 1]) jQ)) k44_12
def k44_14:=jR (jN [zF 48 0 5,zM 49 48,zQ 50 49 13] (jO 50 k44_3 jQ)) (jN [zK 13 2] k44_13)
def k44_15:=jR (jN [zV 43 10,zk 44 43 0] (jO 44 k44_1 jQ)) k44_14
def k44_16:=jN [zL 35 5 3,zV 36 1,zF 37 1 5,zL 38 1 37,zm 39 65 35 36 38,zV 34 39,zE 40 34 0,zE 41 34 1,zE 42 34 2,zg 9,zV 8 40,zS 4 9 41,zV 10 42] k44_15
def k44_17:=jR (jN [zL 14 6 5,zd 15 50 14,zN 16 15,zV 17 16,zz 18 17 0 5,zH 19 17 18,yQ 20 17 19 11,zY 21 20 17,zu 22 21 0 5,zr 23 21 22,ya 24 21 23 12,
 yf 25 17 21 24,zY 26 25 17,zu 27 26 0 5,zr 28 26 27,ya 29 26 28 13,yf 30 17 26 29,zO 31 17 30] (jO 31 k44_0 jQ)) k44_16
def c44:=jN [zh 3 0,zh 5 2,za 6,zy 7] k44_17
theorem ok44:Ao Tryz.prog 44 c44 111 [.c 6 (some 5),.c 7 (some 3)]=true:=by kernel_rfl
def w44:=aW k44_0.eq_1 (aW k44_1.eq_1 (aW k44_2.eq_1 (aW k44_3.eq_1 (aW k44_4.eq_1 (aW k44_5.eq_1 (aW k44_6.eq_1 (aW k44_7.eq_1 (aW k44_8.eq_1 (aW k44_9.eq_1 (aW k44_10.eq_1 (aW k44_11.eq_1 (aW k44_12.eq_1 (aW k44_13.eq_1 (aW k44_14.eq_1 (aW k44_15.eq_1 (aW k44_16.eq_1 (oW k44_17.eq_1)))))))))))))))))
def k100_0:=jN [zL 26 5 3,zS 5 6 26,zK 7 0,zK 8 1] jP
def k100_1:=jN [zL 39 5 3,zV 40 11,zS 5 6 39,zK 7 0,zV 8 40] jP
def k100_2:=jN [zL 45 5 3,zS 5 6 45,zK 7 0,zK 8 7] jP
def k100_3:=jN [zL 51 5 3,zS 5 6 51,zK 7 0,zK 8 6] jP
def k100_4:=jN [zF 47 2 10,zM 48 47,W1 49 (.call 80 [(zI 2),(.t 48)]),zN 50 49,zV 46 50] (jO 46 k100_3 jQ)
def k100_5:=jN [zF 42 0 10,zM 43 42,zk 44 43 1,zV 41 44] (jO 41 k100_2 k100_4)
def k100_6:=jN [zL 62 5 3,zV 63 11,zS 5 6 62,zK 7 0,zV 8 63] jP
def k100_7:=jN [zL 74 5 3,zS 5 6 74,zK 7 0,zK 8 1] jP
def k100_8:AD:= .region [zL 86 5 3,zF 87 4 5,zM 88 87,ze 89 180 86 88,zV 85 89,zE 90 85 0,zE 91 85 1,zV 17 90,zV 14 91]
def k100_9:=jN [zL 109 5 3,zS 5 6 109,zK 7 0,zK 8 8] jP
def k100_10:=jN [zL 142 5 3,zV 143 16,zS 5 6 142,zV 7 143,zK 8 0] jP
def k100_11:=jN [zF 132 3 3,zM 133 132,zV 134 12,zF 135 3 5,zM 136 135,zV 137 16,jh 138 136 137,zV 139 9,zJ 140 138 139,zX 141 5 133 134,zS 5 141 140] k100_10
def k100_12:=jN [zF 125 4 3,zM 126 125,zF 127 1 10,zM 128 127,zV 129 15,zX 130 13 126 128,zF 131 4 130,zS 1 131 129] k100_11
def k100_13:=jR (.drawn [(0,zF 113 4 3),(1,zM 114 113),(3,zF 116 3 5),(4,zM 117 116),(5,zF 118 4 5),(6,zM 119 118),(7,zV 120 17),(8,zm 121 128 117 119 120),(2,zV 115 16),(9,zV 112 121),(10,zE 122 112 0),(12,zX 124 13 114 115),(13,zS 13 124 122),(11,zE 123 112 1)]
 [[],[0],[],[],[3],[],[5],[],[4,6,7],[8],[9],[9],[1,2,0,1,2,3,4,5,6,7,8,9,10],[12,10,8,0,1,2,3,4,5,6,7,8,9,10]] 0) k100_12
def k100_14:=jN [zL 110 5 3,zd 111 16 110,zS 5 3 111] k100_13
def k100_15:=jR (jN [zV 92 15,zF 93 4 3,zM 94 93,zF 95 1 10,zM 96 95,zX 97 13 94 96,zF 98 3 97,zM 99 98,jn 100 92 99,zV 101 100,zY 102 14 101,ye 103 101 102,zO 104 101 103,zV 105 104,zY 106 16 105,
 yc 107 105 106 0,zO 108 105 107] (jO 108 k100_9 jQ)) k100_14
def k100_16:=jR (jN [zF 82 3 5,zM 83 82,zQ 84 83 2] (jO 84 k100_8 jQ)) k100_15
def k100_17:=jN [zL 80 5 3,zd 81 179 80,zV 16 81] (jN [zK 17 0] k100_16)
def k100_18:=jN [zL 75 5 3,zV 76 9,ze 77 178 75 76,zV 78 13,z6 79 77 78,zV 15 79] k100_17
def k100_19:=jR (jN [zV 72 14,zN 73 72] (jO 73 k100_7 jQ)) k100_18
def k100_20:=jN [zF 65 3 5,zM 66 65,zF 67 4 5,zM 68 67,ze 69 177 66 68,zV 64 69,zE 70 64 0,zE 71 64 1,zV 13 70,zV 14 71] k100_19
def k100_21:=jR (jN [zV 60 11,zk 61 60 0] (jO 61 k100_6 jQ)) k100_20
def k100_22:=jN [zL 53 5 3,zV 54 1,zF 55 2 5,zL 56 1 55,zm 57 148 53 54 56,zV 52 57,zE 58 52 0,zE 59 52 1,zV 12 58,zV 11 59] k100_21
def k100_23:=jR (.block 0 (jN [zV 37 11,zk 38 37 0,zV 36 38] (jO 36 k100_1 k100_5))) k100_22
def k100_24:=jN [zL 28 5 3,zV 29 1,zF 30 1 5,zL 31 1 30,zm 32 65 28 29 31,zV 27 32,zE 33 27 0,zE 34 27 1,zE 35 27 2,zg 10,zV 9 33,zS 4 10 34,zV 11 35] k100_23
def k100_25:=jR (jN [zL 18 6 5,zd 19 50 18,zN 20 19,zV 21 20,zz 22 21 0 5,zH 23 21 22,yQ 24 21 23 1,zO 25 21 24] (jO 25 k100_0 jQ)) k100_24
def c100:=jN [zh 3 0,zh 5 2,za 6,zK 7 0,zK 8 0] k100_25
theorem ok100:Ao Tryz.prog 100 c100 144 [.c 6 (some 5),.t 7,.t 8]=true:=by kernel_rfl
def w100:=aW k100_0.eq_1 (aW k100_1.eq_1 (aW k100_2.eq_1 (aW k100_3.eq_1 (aW k100_4.eq_1 (aW k100_5.eq_1 (aW k100_6.eq_1 (aW k100_7.eq_1 (aW k100_8.eq_1 (aW k100_9.eq_1 (aW k100_10.eq_1 (aW k100_11.eq_1 (aW k100_12.eq_1 (aW k100_13.eq_1 (aW k100_14.eq_1 (aW k100_15.eq_1 (aW k100_16.eq_1 (aW k100_17.eq_1 (aW k100_18.eq_1 (aW k100_19.eq_1 (aW k100_20.eq_1 (aW k100_21.eq_1 (aW k100_22.eq_1 (aW k100_23.eq_1 (aW k100_24.eq_1 (oW k100_25.eq_1)))))))))))))))))))))))))
def k104_0:=jN [zL 30 5 3,zS 5 6 30,zK 7 1] jP
def k104_1:=jN [zL 42 5 3,zV 43 10,zS 5 6 42,zV 7 43] jP
def k104_2:AD:= .region [zL 47 4 9,zF 48 3 5,zM 49 48,ze 50 181 47 49,zS 4 9 50]
def k104_3:=jN [zL 63 5 3,zV 64 10,zS 5 6 63,zV 7 64] jP
def k104_4:=jN [zV 61 10,zk 62 61 0] (jO 62 k104_3 jQ)
def k104_5:=jN [zL 55 4 9,zF 56 4 5,zM 57 56,ze 58 182 55 57,zV 54 58,zE 59 54 0,zE 60 54 1,zS 4 9 59,zV 10 60] k104_4
def k104_6:=jN [zL 75 5 3,zV 76 10,zS 5 6 75,zV 7 76] jP
def k104_7:=jN [zL 80 5 3,zV 81 8,zV 82 11,zL 83 4 9,jJ 84 149 80 81 82 83,zE 85 84 0,zE 86 84 1,zS 5 6 85,zV 7 86] jP
def k104_8:=jN [zL 91 5 3,zS 5 6 91,zK 7 1] jP
def k104_9:=jN [zL 92 5 3,zV 93 8,zV 94 11,zm 95 184 92 93 94,zS 5 6 95,zK 7 0] jP
def k104_10:=jR (jN [zL 87 5 3,zL 88 4 9,zV 89 11,zm 90 183 87 88 89] (jO 90 k104_8 jQ)) k104_9
def k104_11:=jR (jN [zF 77 0 5,zM 78 77,zk 79 78 4] (jO 79 k104_7 jQ)) k104_10
def k104_12:=jR (jN [zV 73 10,zk 74 73 0] (jO 74 k104_6 jQ)) k104_11
def k104_13:=jN [zL 66 5 3,zV 67 1,zF 68 2 5,zL 69 1 68,zm 70 148 66 67 69,zV 65 70,zE 71 65 0,zE 72 65 1,zV 11 71,zV 10 72] k104_12
def k104_14:=jR (jN [zF 51 0 5,zM 52 51,zQ 53 52 3] (jO 53 k104_5 jQ)) k104_13
def k104_15:=jR (jN [zF 44 0 5,zM 45 44,zk 46 45 4] (jO 46 k104_2 jQ)) k104_14
def k104_16:=jR (jN [zV 40 10,zk 41 40 0] (jO 41 k104_1 jQ)) k104_15
def k104_17:=jN [zL 32 5 3,zV 33 1,zF 34 1 5,zL 35 1 34,zm 36 65 32 33 35,zV 31 36,zE 37 31 0,zE 38 31 1,zE 39 31 2,zg 9,zV 8 37,zS 4 9 38,zV 10 39] k104_16
def k104_18:=jR (jN [zL 12 6 5,zd 13 50 12,zN 14 13,zV 15 14,zz 16 15 0 5,zH 17 15 16,yQ 18 15 17 2,zY 19 18 15,zu 20 19 0 5,zr 21 19 20,ya 22 19 21 3,
 yf 23 15 19 22,zY 24 23 15,zu 25 24 0 5,zr 26 24 25,ya 27 24 26 4,yf 28 15 24 27,zO 29 15 28] (jO 29 k104_0 jQ)) k104_17
def c104:=jN [zh 3 0,zh 5 2,za 6,zK 7 0] k104_18
theorem ok104:Ao Tryz.prog 104 c104 96 [.c 6 (some 5),.t 7]=true:=by kernel_rfl
def w104:=aW k104_0.eq_1 (aW k104_1.eq_1 (aW k104_2.eq_1 (aW k104_3.eq_1 (aW k104_4.eq_1 (aW k104_5.eq_1 (aW k104_6.eq_1 (aW k104_7.eq_1 (aW k104_8.eq_1 (aW k104_9.eq_1 (aW k104_10.eq_1 (aW k104_11.eq_1 (aW k104_12.eq_1 (aW k104_13.eq_1 (aW k104_14.eq_1 (aW k104_15.eq_1 (aW k104_16.eq_1 (aW k104_17.eq_1 (oW k104_18.eq_1))))))))))))))))))
def k149_0:AD:= .region [zL 43 5 4,zV 44 2,ze 45 215 43 44,yk 46 45 0,zV 14 46]
def k149_1:=jN [zV 18 1,yk 19 18 0,zV 20 19,zY 21 1 20,zY 22 10 20,yx 23 20 21 22,zO 24 20 23,zV 25 24,zY 26 2 25,yc 27 25 26 0,zO 28 25 27,zV 29 28,zY 30 2 29,
 zY 31 10 29,yx 32 29 30 31,zO 33 29 32,zV 34 33,yl 35 34 4 7,yp 36 34 141 35,ye 37 34 36,zO 38 34 37,zV 39 38,yl 40 39 4 7,yp 41 39 59 40,zO 42 39 41,zV 14 42] (jO 14
 jQ k149_0)
def k149_2:=jN [zL 47 5 4,zS 5 8 47,zK 9 1] jP
def k149_3:=jN [zL 56 5 4,zS 5 8 56,zK 9 4] jP
def k149_4:=jN [zL 66 5 4,zS 5 8 66,zK 9 5] jP
def k149_5:=jN [zL 76 5 4,zS 5 8 76,zK 9 7] jP
def k149_6:AD:= .region [zL 87 5 4,zL 88 4 7,zV 89 2,zm 90 183 87 88 89,zV 77 90]
def k149_7:=jN [zL 91 5 4,zS 5 8 91,zK 9 1] jP
def k149_8:=jR (jR (.drawn [(0,zL 78 4 7),(1,zF 79 3 4),(2,zM 80 79),(3,zV 81 1),(4,zX 82 5 80 81),(5,zF 83 0 82),(6,zL 84 4 83),(7,ze 85 67 78 84),(8,zN 86 85),(9,zV 77 86)] [[],[],[1],[],[2,3],[4],[5],[0,6],[7],[8,7]] 0) (jO 77 jQ k149_6)) (jO 77 k149_7 jQ)
def k149_9:=jN [zF 68 3 4,zM 69 68,zV 70 1,zX 71 5 69 70,zF 72 0 71,zF 73 0 72,zM 74 73,zQ 75 74 1,zV 67 75] (jO 67 k149_5 k149_8)
def k149_10:=jN [zF 58 3 4,zM 59 58,zV 60 2,zX 61 5 59 60,zF 62 0 61,zL 63 4 62,zd 64 59 63,zN 65 64,zV 57 65] (jO 57 k149_4 k149_9)
def k149_11:=jN [zF 49 3 4,zM 50 49,zV 51 1,zX 52 5 50 51,zF 53 0 52,zL 54 4 53,zd 55 59 54,zV 48 55] (jO 48 k149_3 k149_10)
def k149_12:=jN [zL 101 5 4,zS 5 8 101,zK 9 0] jP
def k149_13:=jN [zF 94 3 4,zM 95 94,zV 96 2,zL 97 4 7,zV 98 1,zJ 99 97 98,zX 100 5 95 96,zS 5 100 99] k149_12
def k149_14:=jN [zL 92 5 4,zd 93 16 92,zS 5 4 93] k149_13
def k149_15:=jR (.block 0 (jR (jN [zL 15 5 4,zd 16 15 15,zN 17 16,zV 14 17] (jO 14 jQ k149_1)) (jO 14 k149_2 k149_11))) k149_14
def k149_16:=jN [zF 11 3 4,zM 12 11,zi 13 12,zV 10 13] k149_15
def c149:=jN [zh 4 0,zh 7 3,za 8,zK 9 0] k149_16
theorem ok149:Ao Tryz.prog 149 c149 102 [.c 8 (some 5),.t 9]=true:=by kernel_rfl
def w149:=aW k149_0.eq_1 (aW k149_1.eq_1 (aW k149_2.eq_1 (aW k149_3.eq_1 (aW k149_4.eq_1 (aW k149_5.eq_1 (aW k149_6.eq_1 (aW k149_7.eq_1 (aW k149_8.eq_1 (aW k149_9.eq_1 (aW k149_10.eq_1 (aW k149_11.eq_1 (aW k149_12.eq_1 (aW k149_13.eq_1 (aW k149_14.eq_1 (aW k149_15.eq_1 (oW k149_16.eq_1))))))))))))))))
def k178_0:=jO 28 (jN [zK 4 0] jP) jQ
def k178_1:=jO 34 (jN [zK 4 0] jP) jQ
def k178_2:=jR (.drawn [(0,zF 35 4 2),(1,zM 36 35),(2,zF 37 3 2),(3,zM 38 37),(4,zV 39 1),(5,zX 40 5 38 39),(6,zF 41 0 40),(7,zF 42 1 41),(8,zM 43 42),(9,zX 44 13 36 43),(10,zF 45 4 44),(11,zM 46 45),(12,zV 4 46)] [[],[0],[],[2],[],[3,4],[5],[6],[7],[1,8],[9],[10],[11,0,1,2,3,4,5,6,7,8,9,10,11]] 0) jP
def k178_3:=jR (jN [zL 29 5 2,zd 30 76 29,zV 31 1,ze 32 221 30 31,zi 33 32,zQ 34 33 0] k178_1) k178_2
def k178_4:=jR (jN [zL 5 5 2,zd 6 15 5,zN 7 6,zV 8 7,zY 9 1 8,yc 10 8 9 0,zO 11 8 10,zV 12 11,zY 13 1 12,zz 14 12 3 2,zH 15 12 14,zT 16 12 15,yx 17 12 13 16,
 zO 18 12 17,zV 19 18,zz 20 19 3 2,zH 21 19 20,zY 22 1 19,yd 23 19 5 21 22,zz 24 19 0 23,zz 25 19 0 24,zH 26 19 25,yQ 27 19 26 1,zO 28 19 27] k178_0) k178_3
def c178:=jN [zh 2 0,zK 4 0] k178_4
theorem ok178:Ao Tryz.prog 178 c178 47 [.t 4]=true:=by kernel_rfl
def w178:=aW k178_0.eq_1 (aW k178_1.eq_1 (aW k178_2.eq_1 (aW k178_3.eq_1 (oW k178_4.eq_1))))
def k183_0:=jN [zF 7 0 4,zM 8 7,zQ 9 8 2,zV 10 9,zq 11 10 5 3,zu 12 10 1 4,zr 13 10 12,zw 14 2 10,jf 15 10 225 11 13 14,zA 16 10 15,zV 6 16] jP
def c183:=jN [zh 3 0,zh 4 1,zo 6] k183_0
theorem ok183:Ao Tryz.prog 183 c183 17 [.t 6]=true:=by kernel_rfl
def k184_0:AD:= .region [zF 47 3 3,zM 48 47,zV 49 9,zV 50 10,W1 51 (.WB true [(.t 50),(zI (-1))]),zX 52 5 48 49,zF 53 4 52,zS 1 53 51]
def k184_1:=jR (.block 1 (jN [zV 44 42,zX 45 1 40 42,zM 46 45,zV 9 44,zV 10 46] k184_0)) (.region [zc 54 42,zV 42 54])
def b184_2:=jN [zj 43 42 41] (jR (jO 43 jQ (.exit 0)) k184_1)
def k184_3:AD:= .region [zF 70 4 3,zM 71 70,zV 72 11,zV 73 2,zc 74 73,zX 75 13 71 72,zF 76 5 75,zS 1 76 74]
def k184_4:=jN [zF 61 4 3,zM 62 61,zV 63 11,zX 64 13 62 63,zF 65 5 64,zM 66 65,zV 67 1,zc 68 67,yy 69 66 68] (jO 69 k184_3 jQ)
def k184_5:=jR (.block 3 (jN [zV 60 58,zV 11 60] k184_4)) (.region [zc 77 58,zV 58 77])
def b184_6:=jN [zj 59 58 57] (jR (jO 59 jQ (.exit 2)) k184_5)
def k184_7:=jR (jN [zF 55 4 3,zM 56 55,zi 57 56,zK 58 0] (.block 2 (.loop b184_6))) (jN [zL 78 5 3,zS 5 6 78] jP)
def k184_8:=jR (jN [zF 39 0 7,zM 40 39,zi 41 40,zK 42 0] (.block 0 (.loop b184_2))) k184_7
def k184_9:=jR (.drawn [(0,zF 22 3 3),(1,zM 23 22),(3,zF 25 3 3),(4,zM 26 25),(6,zF 28 3 3),(7,zM 29 28),(8,zV 30 1),(9,zX 31 5 29 30),(10,zF 32 0 31),(11,zL 33 4 32),(2,zV 24 2),(13,zX 35 5 23 24),(14,zF 36 0 35),(15,zS 4 36 33),(5,zV 27 1),(12,zl 34),
 (16,zX 37 5 26 27),(17,zF 38 0 37),(18,zS 4 38 34)] [[],[0],[],[],[3],[],[],[6],[],[7,8],[9],[10],[],[1,2,0,1,2,6,7,8,9,10,11],[13,0,1,2,6,7,8,9,10,11],[14,11,0,1,2,6,7,8,9,10,11],[4,5,0,1,2,3,4,5,6,7,8,9,10,11,12,13,14,15],[16,0,1,2,3,4,5,6,7,8,9,10,11,12,13,14,15],[17,12,15,0,1,2,3,4,5,6,7,8,9,10,11,12,13,14,15]] 0) k184_8
def k184_10:=jN [zL 20 5 3,zd 21 16 20,zS 5 3 21] k184_9
def k184_11:=jN [zL 13 5 3,zd 14 76 13,zV 15 1,zV 16 2,zm 17 226 14 15 16,zV 12 17,zE 18 12 0,zE 19 12 1,yP 7,zS 1 7 18,zV 8 19] k184_10
def c184:=jN [zh 3 0,za 6] k184_11
theorem ok184:Ao Tryz.prog 184 c184 79 [.c 6 (some 5)]=true:=by kernel_rfl
def w184:=aW k184_0.eq_1 (aW k184_1.eq_1 (aW k184_3.eq_1 (aW k184_4.eq_1 (aW k184_5.eq_1 (aW k184_7.eq_1 (aW k184_8.eq_1 (aW k184_9.eq_1 (aW k184_10.eq_1 (oW k184_11.eq_1)))))))))
end Go.Proofs.YtlaipllgmddkiaaGreat.Ax
namespace Go.Proofs.YtlaipllgmddkiaaGreat.Ax
open Go Go.Ax
set_option maxRecDepth 100000
def k7_0:=jO 13 (jN [zo 6] jP) jQ
def k7_1:=jO 21 (jN [yu 6] jP) jQ
def k7_2:AD:= .region [zL 44 5 3,zd 45 45 44,yI 46 1,zS 5 10 45,zS 3 11 46]
def k7_3:=jR (.drawn [(0,zL 47 3 9),(1,zL 48 3 11),(2,ze 49 47 47 48),(3,zV 50 49),(4,zq 51 50 5 8),(6,zq 53 50 5 10),(5,yj 52 50 45 51),(7,zP 54 50 22 52 53),(8,zA 55 50 54),(9,zV 56 55),(10,zq 57 56 5 3),
 (11,zq 58 56 5 7),(12,zP 59 56 23 57 58),(13,zA 60 56 59),(14,zV 61 60),(15,zq 62 61 5 8),(16,yj 63 61 15 62),(17,zA 64 61 63),(18,zV 6 64)]
 [[],[],[0,1],[2,2],[3],[4,3,3],[3],[5,6,5,3],[3,7],[8,7],[9],[9],[10,11,9,9],[9,12],[13,12],[14],[15,14,14],[14,16],[17,16,0,1,2,3,4,5,6,7,8,9,10,11,12,13,14,15,16,17]] 0) jP
def k7_4:=jR (jN [zF 40 0 5,zM 41 40,zR 42 41 11,zN 43 42] (jO 43 k7_2 jQ)) k7_3
def k7_5:=jR (.drawn [(0,zL 32 5 3),(3,zL 35 6 5),(1,zd 33 45 32),(4,zd 36 46 35),(2,zV 34 1),(5,zm 37 18 33 34 36),(6,zV 31 37),(7,zE 38 31 0),(9,yi 10 0),(10,jy 11 1),(11,zS 5 10 38),(8,zE 39 31 1),
 (12,zS 3 11 39)] [[],[0],[],[],[3,1],[1,2,4,4],[5],[6],[6],[],[],[9,7,5,0,1,2,3,4,5,6,7,9,10],[10,8,11,0,1,2,3,4,5,6,7,8,9,10,11]] 2) k7_4
def k7_6:=jN [zL 25 5 3,zV 26 1,zL 27 6 5,zm 28 44 25 26 27,zV 24 28,zE 29 24 0,zE 30 24 1,za 8,zy 9,zS 5 8 29,zS 3 9 30] k7_5
def k7_7:=jN [zL 22 5 3,zd 23 16 22,za 7,zS 5 7 23] k7_6
def k7_8:=jR (jN [zL 14 5 3,zL 15 6 5,ze 16 43 14 15,zV 17 16,yl 18 17 5 3,yp 19 17 15 18,ye 20 17 19,zO 21 17 20] k7_1) k7_7
def k7_9:=jR (jN [jH 12 42,zN 13 12] k7_0) k7_8
def c7:=jN [zh 3 0,zh 5 2,zo 6] k7_9
theorem ok7:Ao Tryz.prog 7 c7 65 [.t 6]=true:=by kernel_rfl
def w7:=aW k7_0.eq_1 (aW k7_1.eq_1 (aW k7_2.eq_1 (aW k7_3.eq_1 (aW k7_4.eq_1 (aW k7_5.eq_1 (aW k7_6.eq_1 (aW k7_7.eq_1 (aW k7_8.eq_1 (oW k7_9.eq_1)))))))))
def k42_0:=jN [zL 21 3 2,yg 22,W1 23 (.eqs false [0,0,0] (.t 21) (.t 22)),zV 24 23,zq 25 24 3 4,W2 26 24 true (.build [.int .i64 0,.int .u64 0,.int .i64 0] [(1,1,(.c (.int .u64 77)))]),W2 27 24 true (.eqs false [0,0,0] (.t 25) (.t 26)),zA 28 24 27,zV 0 28] jP
def k42_1:=jR (.drawn [(0,zL 14 5 1),(1,yO 15 0 4),(2,zd 16 110 15),(3,W1 17 (.build [.int .i64 0,.lit (.slice none 0 0),.lit (.slice none 0 0),.int .i64 0,.int .i64 0,.int .u64 0] [(0,1,(zI 12)),(1,1,(.t 16)),(3,1,(zI 2))])),(4,je 18 44 14 17),(5,zV 13 18),(6,zE 19 13 0),
 (8,yi 3 1),(9,jy 4 2),(10,zS 5 3 19),(7,zE 20 13 1),(11,zS 3 4 20)] [[],[],[1],[2],[0,3,2],[4],[5],[5],[],[],[8,6,4,0,1,2,3,4,5,6,8,9],[9,7,10,0,1,2,3,4,5,6,7,8,9,10]] 3) k42_0
def k42_2:=jN [jH 6 109,jb 7 3,zd 8 110 7,W1 9 (.build [.int .i64 0,.lit (.slice none 0 0),.lit (.slice none 0 0),.int .i64 0,.int .i64 0,.int .u64 0] [(0,1,(zI 11)),(1,1,(.t 8)),(3,1,(zI 2)),(5,1,(.c (.int .u64 77)))]),je 10 44 6 9,zV 5 10,zE 11 5 0,zE 12 5 1,za 1,
 zy 2,zS 5 1 11,zS 3 2 12] k42_1
def c42:=jN [zo 0] k42_2
theorem ok42:Ao Tryz.prog 42 c42 29 [.t 0]=true:=by kernel_rfl
def w42:=aW k42_0.eq_1 (aW k42_1.eq_1 (oW k42_2.eq_1))
def k43_0:=jN [zF 5 3 2,zM 6 5,zi 7 6,yz 8 7 100,zV 9 8,zz 10 9 4 2,zH 11 9 10,zT 12 9 11,yr 13 9 12 50,zO 14 9 13,zV 15 14,zz 16 15 1 3,zz 17 15 0 16,
 zH 18 15 17,zT 19 15 18,yr 20 15 19 10,zO 21 15 20,zV 22 21,zz 23 22 2 3,zz 24 22 0 23,zH 25 22 24,zT 26 22 25,yr 27 22 26 10,zO 28 22 27,zV 4 28] jP
def c43:=jN [zh 2 0,zh 3 1,zo 4] k43_0
theorem ok43:Ao Tryz.prog 43 c43 29 [.t 4]=true:=by kernel_rfl
def k45_0:AD:= .drawn [(0,zF 31 3 3),(1,zM 32 31),(2,zF 33 0 5),(3,zM 34 33),(4,zF 35 1 5),(5,zM 36 35),(6,zF 37 2 5),(7,zM 38 37),(8,zF 39 3 5),(9,zM 40 39),(11,zF 42 3 1),(12,zM 43 42),(13,zV 44 4),(14,zX 45 5 43 44),(15,zF 46 4 45),(16,zM 47 46),
 (10,W1 41 (.build [.int .i64 0,.int .i64 0,.int .i64 0,.int .i64 0] [(0,1,(.t 34)),(1,1,(.t 36)),(2,1,(.t 38)),(3,1,(.t 40))])),(17,zJ 48 41 47),(18,W1 49 (.born 0 (.EO 5 1 [.int .i64 0,.int .i64 0,.int .i64 0,.int .i64 0,.int .i64 0] [(0,(.t 48))]))),(19,yC 50 5 40 32 49),(20,zF 51 3 3),(21,zS 1 51 50)]
 [[],[0],[],[2],[],[4],[],[6],[],[8],[3,5,7,9],[],[11],[],[12,13],[14],[15],[10,16],[17],[1,18],[0,1,2,3,4,5,6,7,8,9,10,11,12,13,14,15,16,17,18,19],[20,19,19,0,1,2,3,4,5,6,7,8,9,10,11,12,13,14,15,16,17,18,19]] 1
def k45_1:=jR (.block 1 (jN [zF 25 3 1,zM 26 25,zV 27 4,zX 28 5 26 27,zF 29 0 28,zL 30 4 29,zg 5,zS 4 5 30] k45_0)) (.region [zV 23 4,zc 24 23,zV 4 24])
def b45_2:=jR (jN [zV 18 4,zF 19 3 1,zM 20 19,zi 21 20,zj 22 18 21] (jO 22 jQ (.exit 0))) k45_1
def k45_3:=jR (.block 3 (.drawn [(0,zF 59 4 3),(1,zM 60 59),(2,zF 61 4 1),(3,zM 62 61),(4,zV 63 6),(5,zX 64 13 62 63),(6,zL 65 13 64),(7,zd 66 113 65),(8,W1 67 (.born 0 (.EO 13 1 [.int .i64 0,.int .i64 0,.int .i64 0,.int .i64 0,.int .i64 0,.int .i64 0,.int .i64 0,.bool false,.int .u64 0,.int .u64 0,.int .u64 0,.int .u64 0,.int .u64 0] [(0,(.t 66))]))),(9,yC 68 13 104 60 67),(10,zF 69 4 3),
 (11,zS 1 69 68)] [[],[0],[],[2],[],[3,4],[5],[6],[7],[1,8,7],[0,1,2,3,4,5,6,7,8,9],[10,9,9,0,1,2,3,4,5,6,7,8,9]] 1)) (.region [zV 57 6,zc 58 57,zV 6 58])
def b45_4:=jR (jN [zV 52 6,zF 53 4 1,zM 54 53,zi 55 54,zj 56 52 55] (jO 56 jQ (.exit 2))) k45_3
def k45_5:=jR (jN [zK 6 0] (.block 2 (.loop b45_4))) (jN [zL 70 5 3,zS 5 2 70] jP)
def k45_6:=jR (jN [zK 4 0] (.block 0 (.loop b45_2))) k45_5
def k45_7:=jN [zF 7 0 1,zF 8 0 7,zM 9 8,zF 10 0 1,zF 11 1 10,zM 12 11,zF 13 0 1,zF 14 2 13,zM 15 14,W1 16 (.build [.int .i64 0,.int .i64 0,.int .i64 0] [(0,1,(.t 9)),(1,1,(.t 12)),(2,1,(.t 15))]),W1 17 (.build [.int .i64 0,.int .i64 0,.int .i64 0,.lit (.slice none 0 0),.lit (.slice none 0 0)] [(0,3,(.t 16))]),za 3,
 zS 5 3 17] k45_6
def c45:=jN [zh 1 0,za 2] k45_7
theorem ok45:Ao Tryz.prog 45 c45 71 [.c 2 (some 5)]=true:=by kernel_rfl
def w45:=aW k45_0.eq_1 (aW k45_1.eq_1 (aW k45_3.eq_1 (aW k45_5.eq_1 (aW k45_6.eq_1 (oW k45_7.eq_1)))))
def k46_0:=jN [zF 3 0 1,zM 4 3,zF 5 1 1,zF 6 0 5,zM 7 6,zF 8 2 1,zF 9 0 8,zM 10 9,zF 11 3 1,zM 12 11,zF 13 4 1,zM 14 13,zF 15 5 1,zM 16 15,W1 17 (.build [.int .i64 0,.lit (.slice none 0 0),.lit (.slice none 0 0),.int .i64 0,.int .i64 0,.int .u64 0] [(0,1,(.t 4)),(1,1,(.t 7)),(2,1,(.t 10)),(3,1,(.t 12)),(4,1,(.t 14)),(5,1,(.t 16))]),
 zS 6 2 17] jP
def c46:=jN [zh 1 0,W1 2 (.new [.int .i64 0,.lit (.slice none 0 0),.lit (.slice none 0 0),.int .i64 0,.int .i64 0,.int .u64 0])] k46_0
theorem ok46:Ao Tryz.prog 46 c46 18 [.c 2 (some 6)]=true:=by kernel_rfl
def k47_0:=jN [zF 5 0 2,zM 6 5,zF 7 0 3,zM 8 7,yy 9 6 8,zV 10 9,zu 11 10 1 2,zr 12 10 11,zu 13 10 1 3,zr 14 10 13,yN 15 10 12 14,zA 16 10 15,zV 17 16,zu 18 17 2 2,
 zr 19 17 18,zu 20 17 2 3,zr 21 17 20,yN 22 17 19 21,zA 23 17 22,zV 4 23] jP
def c47:=jN [zh 2 0,zh 3 1,zo 4] k47_0
theorem ok47:Ao Tryz.prog 47 c47 24 [.t 4]=true:=by kernel_rfl
def k109_0:=jR (.drawn [(0,zL 24 5 1),(1,yO 25 0 3),(2,zd 26 110 25),(3,yO 27 1 5),(4,zd 28 110 27),(5,yh 29 2 26 28 2),(6,je 30 32 24 29),(7,zV 23 30),
 (8,zE 31 23 0),(10,zS 5 1 31),(9,zE 32 23 1)] [[],[],[1],[],[3,2],[2,4],[0,5,4],[6],[7],[7],[8,6,0,1,2,3,4,5,6,7,8]] 2) (jN [zL 33 5 1,zS 5 0 33] jP)
def k109_1:=jR (.drawn [(0,zL 14 5 1),(1,yO 15 0 3),(2,zd 16 110 15),(3,yO 17 1 4),(4,zd 18 110 17),(5,yh 19 2 16 18 1),(6,je 20 32 14 19),(7,zV 13 20),
 (8,zE 21 13 0),(10,zS 5 1 21),(9,zE 22 13 1)] [[],[],[1],[],[3,2],[2,4],[0,5,4],[6],[7],[7],[8,6,0,1,2,3,4,5,6,7,8]] 2) k109_0
def k109_2:=jN [jH 4 186,jb 5 0,zd 6 110 5,jb 7 3,zd 8 110 7,yh 9 1 6 8 5,je 10 26 4 9,zV 3 10,zE 11 3 0,zE 12 3 1,
 za 1,zy 2,zS 5 1 11,zS 3 2 12] k109_1
def c109:=jN [za 0] k109_2
theorem ok109:Ao Tryz.prog 109 c109 34 [.c 0 (some 5)]=true:=by kernel_rfl
def w109:=aW k109_0.eq_1 (aW k109_1.eq_1 (oW k109_2.eq_1))
def k110_0:=jN [zV 3 0,jD 4 3,zS 1 2 4] jP
def c110:=jN [yP 2] k110_0
theorem ok110:Ao Tryz.prog 110 c110 5 [.c 2 (some 1)]=true:=by kernel_rfl
def k113_0:=jN [zF 3 0 1,zM 4 3,zF 5 1 1,zM 6 5,zF 7 2 1,zM 8 7,zF 9 3 1,zM 10 9,zF 11 4 1,zM 12 11,zF 13 5 1,zM 14 13,zF 15 6 1,zM 16 15,zF 17 7 1,zM 18 17,zF 19 8 1,zM 20 19,zF 21 9 1,zL 22 4 21,
 W1 23 (.build [.int .i64 0,.int .i64 0,.int .i64 0,.int .i64 0,.int .i64 0,.int .i64 0,.int .i64 0,.bool false,.int .u64 0,.int .u64 0,.int .u64 0,.int .u64 0,.int .u64 0] [(0,1,(.t 4)),(1,1,(.t 6)),(2,1,(.t 8)),(3,1,(.t 10)),(4,1,(.t 12)),(5,1,(.t 14)),(6,1,(.t 16)),(7,1,(.t 18)),(8,1,(.t 20)),(9,4,(.t 22))]),zS 13 2 23] jP
def c113:=jN [zh 1 0,zb 2] k113_0
theorem ok113:Ao Tryz.prog 113 c113 24 [.c 2 (some 13)]=true:=by kernel_rfl
def k186_0:=jN [jH 4 124,zZ 5 60 4 64,zV 3 5,zE 6 3 0,zE 7 3 1,za 1,zS 5 1 6,zV 2 7] (jN [zL 8 5 1,zS 5 0 8] jP)
def c186:=jN [za 0] k186_0
theorem ok186:Ao Tryz.prog 186 c186 9 [.c 0 (some 5)]=true:=by kernel_rfl
end Go.Proofs.YtlaipllgmddkiaaGreat.Ax
