/- Texts put behind one another: AxCOps, AxCLaw18. Conditions: none. -/
import Derived.Test.YtlaipllgmddkiaaGreatZC1
import Derived.Test.YtlaipllgmddkiaaGreatAxEnterZ
import Derived.Test.YtlaipllgmddkiaaGreatProg
import Derived.KernelRfl
set_option linter.all false
namespace Go.Proofs.YtlaipllgmddkiaaGreat.Ax
open Go Go.Ax
set_option maxRecDepth 100000
def k17_0:=jz [zL 25 5 3,zR 26 1,zS 5 6 25,zS 3 7 26] jB
def k17_1:=jz [zL 42 5 3,zV 43 10,zw 44 0 43,zS 5 6 42,zS 3 7 44] jB
def k17_2:=jz [zL 49 5 3,zR 50 7,zS 5 6 49,zS 3 7 50] jB
def k17_3:=jz [zL 57 5 3,zR 58 6,zS 5 6 57,zS 3 7 58] jB
def k17_4:=jz [zV 52 11,zF 53 2 9,zM 54 53,ze 55 80 52 54,zN 56 55,zV 51 56] (jA 51 k17_3 jC)
def k17_5:=jz [zF 46 0 9,zM 47 46,zl 48 47 3,zV 45 48] (jA 45 k17_2 k17_4)
def k17_6:=jz [zL 62 5 3,zV 63 1,zL 64 6 5,zL 65 4 9,yR 66 81 62 63 64 65,zE 67 66 0,zE 68 66 1,zS 5 6 67,zS 3 7 68] jB
def k17_7:=jz [zL 69 5 3,zV 70 1,zL 71 6 5,zL 72 4 9,yR 73 82 69 70 71 72,zE 74 73 0,zE 75 73 1,zS 5 6 74,zS 3 7 75] jB
def k17_8:=jD (jz [zF 59 0 5,zM 60 59,zQ 61 60 7] (jA 61 k17_6 jC)) k17_7
def k17_9:=jD (.block 0 (jz [zV 40 10,zl 41 40 0,zV 39 41] (jA 39 k17_1 k17_5))) k17_8
def k17_10:=jD (jz [zF 36 0 5,zM 37 36,zQ 38 37 8] (jA 38 (.region [zK 11 1]) jC)) k17_9
def k17_11:=jz [zL 28 5 3,zV 29 1,zF 30 1 5,zL 31 1 30,zo 32 65 28 29 31,zV 27 32,zE 33 27 0,zE 34 27 1,zE 35 27 2,zd 9,zV 8 33,zS 4 9 34,zV 10 35] (jz [zK 11 2] k17_10)
def k17_12:=jD (jz [zL 12 6 5,zj 13 50 12,zN 14 13,zV 15 14,zH 16 15 0 5,zP 17 15 16,jf 18 15 17 7,z8 19 18 15,zr 20 19 0 5,zq 21 19 20,ye 22 19 21 8,
 yx 23 15 19 22,zO 24 15 23] (jA 24 k17_0 jC)) k17_11
def c17:=jz [zi 3 0,zi 5 2,za 6,zx 7] k17_12
theorem ok17:Ao Tryz.prog 17 c17 76 [.c 6 (some 5),.c 7 (some 3)]=true:=by kernel_rfl
def w17:=aW k17_0.eq_1 (aW k17_1.eq_1 (aW k17_2.eq_1 (aW k17_3.eq_1 (aW k17_4.eq_1 (aW k17_5.eq_1 (aW k17_6.eq_1 (aW k17_7.eq_1 (aW k17_8.eq_1 (aW k17_9.eq_1 (aW k17_10.eq_1 (aW k17_11.eq_1 (oW k17_12.eq_1))))))))))))
def k81_0:=jz [zL 23 5 4,zR 24 6,zS 5 8 23,zS 3 9 24] jB
def k81_1:=jz [zL 37 5 4,zV 38 13,zw 39 0 38,zS 5 8 37,zS 3 9 39] jB
def k81_2:=jz [zL 44 5 4,zR 45 7,zS 5 8 44,zS 3 9 45] jB
def k81_3:=jz [zF 41 0 12,zM 42 41,zQ 43 42 1,zV 40 43] (jA 40 k81_2 jC)
def k81_4:=jD (.block 0 (jz [zV 35 13,zl 36 35 0,zV 34 36] (jA 34 k81_1 k81_3))) (.region [zV 46 11,zc 47 46,zV 10 47])
def k81_5:=jz [zL 26 5 4,zV 27 1,zF 28 2 6,zL 29 1 28,zo 30 65 26 27 29,zV 25 30,zE 31 25 0,zE 32 25 1,zE 33 25 2,zd 12,zV 11 31,zS 4 12 32,zV 13 33] k81_4
def k81_6:=jD (jz [zF 19 2 7,zM 20 19,W1 21 (.call 80 [(zI 4),(.t 20)]),zN 22 21] (jA 22 k81_0 jC)) k81_5
def k81_7:=jz [zL 55 5 4,zR 56 13,zS 5 8 55,zS 3 9 56] jB
def k81_8:=jz [zL 70 5 4,yj 71,zS 5 8 70,zS 3 9 71] jB
def k81_9:=jz [zF 59 4 4,zM 60 59,zF 61 1 7,zM 62 61,zF 63 5 6,zM 64 63,zF 65 3 7,zM 66 65,zV 67 10,yl 68 64 66 67,zX 69 13 60 62,
 zS 13 69 68] k81_8
def k81_10:=jz [zL 57 5 4,zj 58 16 57,zS 5 4 58] k81_9
def k81_11:=jD (jz [zF 48 4 4,zM 49 48,zF 50 1 7,zM 51 50,zX 52 13 49 51,zF 53 7 52,zM 54 53] (jA 54 k81_7 jC)) k81_10
def k81_12:=jD (jz [zF 14 2 6,zF 15 0 14,zM 16 15,zg 17 16,yf 18 17 0] (jA 18 k81_6 jC)) k81_11
def c81:=jz [zi 4 0,zi 6 2,zi 7 3,za 8,zx 9] (jz [zK 10 0] k81_12)
theorem ok81:Ao Tryz.prog 81 c81 72 [.c 8 (some 5),.c 9 (some 3)]=true:=by kernel_rfl
def w81:=aW k81_0.eq_1 (aW k81_1.eq_1 (aW k81_2.eq_1 (aW k81_3.eq_1 (aW k81_4.eq_1 (aW k81_5.eq_1 (aW k81_6.eq_1 (aW k81_7.eq_1 (aW k81_8.eq_1 (aW k81_9.eq_1 (aW k81_10.eq_1 (aW k81_11.eq_1 (oW k81_12.eq_1))))))))))))
def k82_0:=jz [zL 23 5 4,zR 24 14,zS 5 8 23,zS 3 9 24] jB
def k82_1:=jz [zL 47 5 4,zV 48 13,zw 49 0 48,zS 5 8 47,zS 3 9 49] jB
def k82_2:=jz [zL 69 5 4,zV 70 13,zw 71 0 70,zS 5 8 69,zS 3 9 71] jB
def k82_3:=jz [zV 67 13,zl 68 67 0] (jA 68 k82_2 jC)
def k82_4:=jD (.drawn [(0,zL 51 5 4),(1,zF 52 5 10),(2,zM 53 52),(5,zF 56 3 4),(6,zM 57 56),(7,zF 58 5 10),(8,zM 59 58),(9,jd 60 59),(10,zX 61 5 57 60),(11,zF 62 0 61),(12,zL 63 4 62),(3,jd 54 53),(4,zV 55 12),(13,yR 64 149 51 54 55 63),(14,zV 50 64),(15,zE 65 50 0),
 (17,zS 5 11 65),(16,zE 66 50 1),(18,zV 13 66)] [[],[],[1],[2],[],[],[5],[],[7],[8],[6,9],[10],[11],[0,3,4,12],[13],[14],[14],[15,13,0,1,2,3,4,5,6,7,8,9,10,11,12,13,14,15],[16,17,0,1,2,3,4,5,6,7,8,9,10,11,12,13,14,15,16,17]] 0) k82_3
def k82_5:=jD (jz [zV 45 13,zl 46 45 0] (jA 46 k82_1 jC)) k82_4
def k82_6:=jz [zL 38 5 4,zV 39 1,zF 40 2 6,zL 41 1 40,zo 42 148 38 39 41,zV 37 42,zE 43 37 0,zE 44 37 1,zV 12 43,zV 13 44] k82_5
def k82_7:=jD (.drawn [(0,zL 78 5 11),(1,zF 79 8 10),(2,zM 80 79),(3,zF 81 6 10),(4,zM 82 81),(6,zS 5 8 78),(5,yJ 83 80 82),(7,zS 3 9 83)] [[],[],[1],[],[3],[2,4],[0,0],[5,6,0,1,2,3,4,5,6]] 0) jB
def k82_8:=jz [zF 72 4 11,zM 73 72,zF 74 1 7,zM 75 74,yy 76,zX 77 13 73 75,zS 13 77 76] k82_7
def k82_9:=jD (jz [zF 27 2 6,zF 28 0 27,zM 29 28,zg 30 29,yf 31 30 0,zV 32 31,zr 33 32 5 10,zq 34 32 33,W2 35 32 true (.bin .gtr (.t 34) (zI 0)),zA 36 32 35] (jA 36 k82_6 jC)) k82_8
def k82_10:=jz [zL 25 5 4,zj 26 16 25,za 11,zS 5 11 26] k82_9
def k82_11:=jD (jz [zF 20 7 10,zM 21 20,zN 22 21] (jA 22 k82_0 jC)) k82_10
def k82_12:=jz [zF 14 4 4,zM 15 14,zF 16 1 7,zM 17 16,zX 18 13 15 17,zL 19 13 18,zb 10,zS 13 10 19] k82_11
def c82:=jz [zi 4 0,zi 6 2,zi 7 3,za 8,zx 9] k82_12
theorem ok82:Ao Tryz.prog 82 c82 84 [.c 8 (some 5),.c 9 (some 3)]=true:=by kernel_rfl
def w82:=aW k82_0.eq_1 (aW k82_1.eq_1 (aW k82_2.eq_1 (aW k82_3.eq_1 (aW k82_4.eq_1 (aW k82_5.eq_1 (aW k82_6.eq_1 (aW k82_7.eq_1 (aW k82_8.eq_1 (aW k82_9.eq_1 (aW k82_10.eq_1 (aW k82_11.eq_1 (oW k82_12.eq_1))))))))))))
def k149_0:AD:= .region [zL 43 5 4,zV 44 2,ze 45 215 43 44,yg 46 45 0,zV 14 46]
def k149_1:=jz [zV 18 1,yg 19 18 0,zV 20 19,z8 21 1 20,z8 22 10 20,yE 23 20 21 22,zO 24 20 23,zV 25 24,z8 26 2 25,yu 27 25 26 0,zO 28 25 27,zV 29 28,z8 30 2 29,
 z8 31 10 29,yE 32 29 30 31,zO 33 29 32,zV 34 33,ym 35 34 4 7,yk 36 34 141 35,z7 37 34 36,zO 38 34 37,zV 39 38,ym 40 39 4 7,yk 41 39 59 40,zO 42 39 41,zV 14 42] (jA 14
 jC k149_0)
def k149_2:=jz [zL 47 5 4,zS 5 8 47,zK 9 1] jB
def k149_3:=jz [zL 56 5 4,zS 5 8 56,zK 9 4] jB
def k149_4:=jz [zL 66 5 4,zS 5 8 66,zK 9 5] jB
def k149_5:=jz [zL 76 5 4,zS 5 8 76,zK 9 7] jB
def k149_6:AD:= .region [zL 87 5 4,zL 88 4 7,zV 89 2,zo 90 183 87 88 89,zV 77 90]
def k149_7:=jz [zL 91 5 4,zS 5 8 91,zK 9 1] jB
def k149_8:=jD (jD (.drawn [(0,zL 78 4 7),(1,zF 79 3 4),(2,zM 80 79),(3,zV 81 1),(4,zX 82 5 80 81),(5,zF 83 0 82),(6,zL 84 4 83),(7,ze 85 67 78 84),(8,zN 86 85),(9,zV 77 86)] [[],[],[1],[],[2,3],[4],[5],[0,6],[7],[8,7]] 0) (jA 77 jC k149_6)) (jA 77 k149_7 jC)
def k149_9:=jz [zF 68 3 4,zM 69 68,zV 70 1,zX 71 5 69 70,zF 72 0 71,zF 73 0 72,zM 74 73,zQ 75 74 1,zV 67 75] (jA 67 k149_5 k149_8)
def k149_10:=jz [zF 58 3 4,zM 59 58,zV 60 2,zX 61 5 59 60,zF 62 0 61,zL 63 4 62,zj 64 59 63,zN 65 64,zV 57 65] (jA 57 k149_4 k149_9)
def k149_11:=jz [zF 49 3 4,zM 50 49,zV 51 1,zX 52 5 50 51,zF 53 0 52,zL 54 4 53,zj 55 59 54,zV 48 55] (jA 48 k149_3 k149_10)
def k149_12:=jz [zL 101 5 4,zS 5 8 101,zK 9 0] jB
def k149_13:=jz [zF 94 3 4,zM 95 94,zV 96 2,zL 97 4 7,zV 98 1,zW 99 97 98,zX 100 5 95 96,zS 5 100 99] k149_12
def k149_14:=jz [zL 92 5 4,zj 93 16 92,zS 5 4 93] k149_13
def k149_15:=jD (.block 0 (jD (jz [zL 15 5 4,zj 16 15 15,zN 17 16,zV 14 17] (jA 14 jC k149_1)) (jA 14 k149_2 k149_11))) k149_14
def k149_16:=jz [zF 11 3 4,zM 12 11,zg 13 12,zV 10 13] k149_15
def c149:=jz [zi 4 0,zi 7 3,za 8,zK 9 0] k149_16
theorem ok149:Ao Tryz.prog 149 c149 102 [.c 8 (some 5),.t 9]=true:=by kernel_rfl
def w149:=aW k149_0.eq_1 (aW k149_1.eq_1 (aW k149_2.eq_1 (aW k149_3.eq_1 (aW k149_4.eq_1 (aW k149_5.eq_1 (aW k149_6.eq_1 (aW k149_7.eq_1 (aW k149_8.eq_1 (aW k149_9.eq_1 (aW k149_10.eq_1 (aW k149_11.eq_1 (aW k149_12.eq_1 (aW k149_13.eq_1 (aW k149_14.eq_1 (aW k149_15.eq_1 (oW k149_16.eq_1))))))))))))))))
def k183_0:=jz [zF 7 0 4,zM 8 7,zQ 9 8 2,zV 10 9,zp 11 10 5 3,zr 12 10 1 4,zq 13 10 12,zu 14 2 10,yT 15 10 225 11 13 14,zA 16 10 15,zV 6 16] jB
def c183:=jz [zi 3 0,zi 4 1,zm 6] k183_0
theorem ok183:Ao Tryz.prog 183 c183 17 [.t 6]=true:=by kernel_rfl
end Go.Proofs.YtlaipllgmddkiaaGreat.Ax
namespace Go.Proofs.YtlaipllgmddkiaaGreat.Ax
open Go Go.Ax
set_option maxRecDepth 100000
def k3_0:=jA 13 (jz [zm 6] jB) jC
def k3_1:=jA 21 (jz [yr 6] jB) jC
def k3_2:AD:= .region [zL 49 5 3,zj 50 19 49,zR 51 1,zS 5 10 50,zS 3 11 51]
def k3_3:=jD (.drawn [(0,zL 52 3 9),(1,zL 53 3 11),(2,ze 54 21 52 53),(3,zV 55 54),(4,zp 56 55 5 8),(6,zp 58 55 5 10),(5,ya 57 55 19 56),(7,zC 59 55 22 57 58),(8,zA 60 55 59),(9,zV 61 60),(10,zp 62 61 5 3),
 (11,zp 63 61 5 7),(12,zC 64 61 23 62 63),(13,zA 65 61 64),(14,zV 66 65),(15,zp 67 66 5 8),(16,ya 68 66 15 67),(17,zA 69 66 68),(18,zV 6 69)]
 [[],[],[0,1],[2,2],[3],[4,3,3],[3],[5,6,5,3],[3,7],[8,7],[9],[9],[10,11,9,9],[9,12],[13,12],[14],[15,14,14],[14,16],[17,16,0,1,2,3,4,5,6,7,8,9,10,11,12,13,14,15,16,17]] 0) jB
def k3_4:=jD (jz [zF 40 0 5,zM 41 40,zQ 42 41 7,zV 43 42,zH 44 43 0 5,zP 45 43 44,yi 46 43 45 8,zO 47 43 46,zN 48 47] (jA 48 k3_2 jC)) k3_3
def k3_5:=jD (.drawn [(0,zL 32 5 3),(3,zL 35 6 5),(1,zj 33 19 32),(4,zj 36 20 35),(2,zV 34 1),(5,zo 37 18 33 34 36),(6,zV 31 37),(7,zE 38 31 0),(9,z9 10 0),(10,jn 11 1),(11,zS 5 10 38),(8,zE 39 31 1),
 (12,zS 3 11 39)] [[],[0],[],[],[3,1],[1,2,4,4],[5],[6],[6],[],[],[9,7,5,0,1,2,3,4,5,6,7,9,10],[10,8,11,0,1,2,3,4,5,6,7,8,9,10,11]] 2) k3_4
def k3_6:=jz [zL 25 5 3,zV 26 1,zL 27 6 5,zo 28 17 25 26 27,zV 24 28,zE 29 24 0,zE 30 24 1,za 8,zx 9,zS 5 8 29,zS 3 9 30] k3_5
def k3_7:=jz [zL 22 5 3,zj 23 16 22,za 7,zS 5 7 23] k3_6
def k3_8:=jD (jz [zL 14 5 3,zL 15 6 5,ze 16 14 14 15,zV 17 16,ym 18 17 5 3,yk 19 17 15 18,z7 20 17 19,zO 21 17 20] k3_1) k3_7
def k3_9:=jD (jz [W1 12 (.call 13 []),zN 13 12] k3_0) k3_8
def c3:=jz [zi 3 0,zi 5 2,zm 6] k3_9
theorem ok3:Ao Tryz.prog 3 c3 70 [.t 6]=true:=by kernel_rfl
def w3:=aW k3_0.eq_1 (aW k3_1.eq_1 (aW k3_2.eq_1 (aW k3_3.eq_1 (aW k3_4.eq_1 (aW k3_5.eq_1 (aW k3_6.eq_1 (aW k3_7.eq_1 (aW k3_8.eq_1 (oW k3_9.eq_1)))))))))
def k13_0:=jD (.drawn [(0,zL 21 3 2),(1,yj 22),(2,W1 23 (.eqs false [0,0,0] (.t 21) (.t 22))),(3,zV 24 23),(4,zp 25 24 3 4),(5,W2 26 24 true (.build [.int .i64 0,.int .u64 0,.int .i64 0] [(1,1,(.c (.int .u64 42)))])),(6,W2 27 24 true (.eqs false [0,0,0] (.t 25) (.t 26))),(7,zA 28 24 27),(8,zV 29 28),(9,zp 30 29 5 3),
 (10,W2 31 29 true (.call 68 [])),(11,zC 32 29 23 30 31),(12,zA 33 29 32),(13,zV 0 33)] [[],[],[0,1],[2],[3],[3],[4,5,3],[3,6],[7,3],[8],[8,8],[9,10,10,8],[8,11],[12,11,0,1,2,3,4,5,6,7,8,9,10,11,12]] 0) jB
def k13_1:=jD (.drawn [(0,zL 14 5 1),(1,W1 15 (.born 0 (.EO 1 1 [.int .i64 0] [(0,(zI 1))]))),(2,zj 16 69 15),(3,W1 17 (.build [.int .i64 0,.lit (.slice none 0 0),.lit (.slice none 0 0),.int .i64 0,.int .i64 0,.int .u64 0] [(0,1,(zI 8)),(1,1,(.t 16))])),(4,W1 18 (.call 17 [(.t 14),(zI 1),(.t 17)])),(5,zV 13 18),(6,zE 19 13 0),(8,z9 3 1),
 (9,jn 4 2),(10,zS 5 3 19),(7,zE 20 13 1),(11,zS 3 4 20)] [[],[],[1],[2],[0,3,2],[4],[5],[5],[],[],[8,6,4,0,1,2,3,4,5,6,8,9],[9,7,10,0,1,2,3,4,5,6,7,8,9,10]] 3) k13_0
def k13_2:=jz [W1 6 (.call 68 []),W1 7 (.EO 1 1 [.int .i64 0] [(0,(zI 1))]),zj 8 69 7,W1 9 (.build [.int .i64 0,.lit (.slice none 0 0),.lit (.slice none 0 0),.int .i64 0,.int .i64 0,.int .u64 0] [(0,1,(zI 7)),(1,1,(.t 8)),(5,1,(.c (.int .u64 42)))]),W1 10 (.call 17 [(.t 6),(zI 0),(.t 9)]),zV 5 10,zE 11 5 0,zE 12 5 1,za 1,
 zx 2,zS 5 1 11,zS 3 2 12] k13_1
def c13:=jz [zm 0] k13_2
theorem ok13:Ao Tryz.prog 13 c13 34 [.t 0]=true:=by kernel_rfl
def w13:=aW k13_0.eq_1 (aW k13_1.eq_1 (oW k13_2.eq_1))
def k14_0:=jz [zF 5 3 2,zM 6 5,zg 7 6,yf 8 7 100,zV 9 8,zH 10 9 4 2,zP 11 9 10,zZ 12 9 11,yn 13 9 12 50,zO 14 9 13,zV 15 14,zH 16 15 1 3,zH 17 15 0 16,
 zP 18 15 17,zZ 19 15 18,yn 20 15 19 10,zO 21 15 20,zV 22 21,zH 23 22 2 3,zH 24 22 0 23,zP 25 22 24,zZ 26 22 25,yn 27 22 26 10,zO 28 22 27,zV 4 28] jB
def c14:=jz [zi 2 0,zi 3 1,zm 4] k14_0
theorem ok14:Ao Tryz.prog 14 c14 29 [.t 4]=true:=by kernel_rfl
def k19_0:AD:= .drawn [(0,zF 31 3 3),(1,zM 32 31),(2,zF 33 0 5),(3,zM 34 33),(4,zF 35 1 5),(5,zM 36 35),(6,zF 37 2 5),(7,zM 38 37),(8,zF 39 3 5),(9,zM 40 39),(11,zF 42 3 1),(12,zM 43 42),(13,zV 44 4),(14,zX 45 5 43 44),(15,zF 46 4 45),(16,zM 47 46),
 (10,W1 41 (.build [.int .i64 0,.int .i64 0,.int .i64 0,.int .i64 0] [(0,1,(.t 34)),(1,1,(.t 36)),(2,1,(.t 38)),(3,1,(.t 40))])),(17,zW 48 41 47),(18,W1 49 (.born 0 (.EO 5 1 [.int .i64 0,.int .i64 0,.int .i64 0,.int .i64 0,.int .i64 0] [(0,(.t 48))]))),(19,yC 50 5 40 32 49),(20,zF 51 3 3),(21,zS 1 51 50)]
 [[],[0],[],[2],[],[4],[],[6],[],[8],[3,5,7,9],[],[11],[],[12,13],[14],[15],[10,16],[17],[1,18],[0,1,2,3,4,5,6,7,8,9,10,11,12,13,14,15,16,17,18,19],[20,19,19,0,1,2,3,4,5,6,7,8,9,10,11,12,13,14,15,16,17,18,19]] 1
def k19_1:=jD (.block 1 (jz [zF 25 3 1,zM 26 25,zV 27 4,zX 28 5 26 27,zF 29 0 28,zL 30 4 29,zd 5,zS 4 5 30] k19_0)) (.region [zV 23 4,zc 24 23,zV 4 24])
def b19_2:=jD (jz [zV 18 4,zF 19 3 1,zM 20 19,zg 21 20,zh 22 18 21] (jA 22 jC (.exit 0))) k19_1
def k19_3:=jD (.block 3 (.drawn [(0,zF 59 4 3),(1,zM 60 59),(2,zF 61 4 1),(3,zM 62 61),(4,zV 63 6),(5,zX 64 13 62 63),(6,zL 65 13 64),(7,zj 66 95 65),(8,W1 67 (.born 0 (.EO 13 1 [.int .i64 0,.int .i64 0,.int .i64 0,.int .i64 0,.int .i64 0,.int .i64 0,.int .i64 0,.bool false,.int .u64 0,.int .u64 0,.int .u64 0,.int .u64 0,.int .u64 0] [(0,(.t 66))]))),(9,yC 68 13 104 60 67),(10,zF 69 4 3),
 (11,zS 1 69 68)] [[],[0],[],[2],[],[3,4],[5],[6],[7],[1,8,7],[0,1,2,3,4,5,6,7,8,9],[10,9,9,0,1,2,3,4,5,6,7,8,9]] 1)) (.region [zV 57 6,zc 58 57,zV 6 58])
def b19_4:=jD (jz [zV 52 6,zF 53 4 1,zM 54 53,zg 55 54,zh 56 52 55] (jA 56 jC (.exit 2))) k19_3
def k19_5:=jD (jz [zK 6 0] (.block 2 (.loop b19_4))) (jz [zL 70 5 3,zS 5 2 70] jB)
def k19_6:=jD (jz [zK 4 0] (.block 0 (.loop b19_2))) k19_5
def k19_7:=jz [zF 7 0 1,zF 8 0 7,zM 9 8,zF 10 0 1,zF 11 1 10,zM 12 11,zF 13 0 1,zF 14 2 13,zM 15 14,W1 16 (.build [.int .i64 0,.int .i64 0,.int .i64 0] [(0,1,(.t 9)),(1,1,(.t 12)),(2,1,(.t 15))]),W1 17 (.build [.int .i64 0,.int .i64 0,.int .i64 0,.lit (.slice none 0 0),.lit (.slice none 0 0)] [(0,3,(.t 16))]),za 3,
 zS 5 3 17] k19_6
def c19:=jz [zi 1 0,za 2] k19_7
theorem ok19:Ao Tryz.prog 19 c19 71 [.c 2 (some 5)]=true:=by kernel_rfl
def w19:=aW k19_0.eq_1 (aW k19_1.eq_1 (aW k19_3.eq_1 (aW k19_5.eq_1 (aW k19_6.eq_1 (oW k19_7.eq_1)))))
def k20_0:=jz [zF 3 0 1,zM 4 3,zF 5 1 1,zF 6 0 5,zM 7 6,zF 8 2 1,zF 9 0 8,zM 10 9,zF 11 3 1,zM 12 11,zF 13 4 1,zM 14 13,zF 15 5 1,zM 16 15,W1 17 (.build [.int .i64 0,.lit (.slice none 0 0),.lit (.slice none 0 0),.int .i64 0,.int .i64 0,.int .u64 0] [(0,1,(.t 4)),(1,1,(.t 7)),(2,1,(.t 10)),(3,1,(.t 12)),(4,1,(.t 14)),(5,1,(.t 16))]),
 zS 6 2 17] jB
def c20:=jz [zi 1 0,W1 2 (.new [.int .i64 0,.lit (.slice none 0 0),.lit (.slice none 0 0),.int .i64 0,.int .i64 0,.int .u64 0])] k20_0
theorem ok20:Ao Tryz.prog 20 c20 18 [.c 2 (some 6)]=true:=by kernel_rfl
def k21_0:=jz [zF 5 0 2,zM 6 5,zF 7 0 3,zM 8 7,yI 9 6 8,zV 10 9,zr 11 10 1 2,zq 12 10 11,zr 13 10 1 3,zq 14 10 13,yH 15 10 12 14,zA 16 10 15,zV 17 16,zr 18 17 2 2,
 zq 19 17 18,zr 20 17 2 3,zq 21 17 20,yH 22 17 19 21,zA 23 17 22,zV 4 23] jB
def c21:=jz [zi 2 0,zi 3 1,zm 4] k21_0
theorem ok21:Ao Tryz.prog 21 c21 24 [.t 4]=true:=by kernel_rfl
def k68_0:=jz [W1 4 (.call 124 []),zY 5 60 4 64,zV 3 5,zE 6 3 0,zE 7 3 1,za 1,zS 5 1 6,zV 2 7] (jz [zL 8 5 1,zS 5 0 8] jB)
def c68:=jz [za 0] k68_0
theorem ok68:Ao Tryz.prog 68 c68 9 [.c 0 (some 5)]=true:=by kernel_rfl
def k69_0:=jz [zV 3 0,W1 4 (.build [.lit (.slice none 0 0)] [(0,1,(.t 3))]),zS 1 2 4] jB
def c69:=jz [jg 2] k69_0
theorem ok69:Ao Tryz.prog 69 c69 5 [.c 2 (some 1)]=true:=by kernel_rfl
def k95_0:=jz [zF 3 0 1,zM 4 3,zF 5 1 1,zM 6 5,zF 7 2 1,zM 8 7,zF 9 3 1,zM 10 9,zF 11 4 1,zM 12 11,zF 13 5 1,zM 14 13,zF 15 6 1,zM 16 15,zF 17 7 1,zM 18 17,zF 19 8 1,zM 20 19,zF 21 9 1,zL 22 4 21,
 W1 23 (.build [.int .i64 0,.int .i64 0,.int .i64 0,.int .i64 0,.int .i64 0,.int .i64 0,.int .i64 0,.bool false,.int .u64 0,.int .u64 0,.int .u64 0,.int .u64 0,.int .u64 0] [(0,1,(.t 4)),(1,1,(.t 6)),(2,1,(.t 8)),(3,1,(.t 10)),(4,1,(.t 12)),(5,1,(.t 14)),(6,1,(.t 16)),(7,1,(.t 18)),(8,1,(.t 20)),(9,4,(.t 22))]),zS 13 2 23] jB
def c95:=jz [zi 1 0,zb 2] k95_0
theorem ok95:Ao Tryz.prog 95 c95 24 [.c 2 (some 13)]=true:=by kernel_rfl
end Go.Proofs.YtlaipllgmddkiaaGreat.Ax
