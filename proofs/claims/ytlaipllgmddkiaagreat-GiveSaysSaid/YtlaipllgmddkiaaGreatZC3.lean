/- Texts put behind one another: AxCOps, AxCLaw16. Conditions: none. -/
import Derived.Test.YtlaipllgmddkiaaGreatZC1
import Derived.Test.YtlaipllgmddkiaaGreatAxEnterZ
import Derived.Test.YtlaipllgmddkiaaGreatProg
import Derived.KernelRfl
set_option linter.all false
namespace Go.Proofs.YtlaipllgmddkiaaGreat.Ax
open Go Go.Ax
def k32_0:=jy [zL 19 5 3,zV 20 9,z4 21 0 20,zS 5 6 19,zS 3 7 21] jA
def k32_1:=jy [zL 22 5 8,yg 23,zS 5 6 22,zS 3 7 23] jA
def k32_2:=jC (jy [zV 17 9,zm 18 17 0] (jz 18 k32_0 jB)) k32_1
def k32_3:=jy [zL 11 5 3,zV 12 1,zL 13 6 5,zo 14 104 11 12 13,zV 10 14,zE 15 10 0,zE 16 10 1,za 8,zS 5 8 15,zV 9 16] k32_2
def c32:=jy [zj 3 0,zj 5 2,za 6,zP 7] k32_3
theorem ok32:Ao Tryz.prog 32 c32 24 [.c 6 (some 5),.c 7 (some 3)]=true:=by kernel_rfl
def w32:=aW k32_0.eq_1 (aW k32_1.eq_1 (aW k32_2.eq_1 (oW k32_3.eq_1)))
def k104_0:=jy [zL 30 5 3,zS 5 6 30,zK 7 1] jA
def k104_1:=jy [zL 42 5 3,zV 43 10,zS 5 6 42,zV 7 43] jA
def k104_2:AD:= .region [zL 47 4 9,zF 48 3 5,zM 49 48,ze 50 181 47 49,zS 4 9 50]
def k104_3:=jy [zL 63 5 3,zV 64 10,zS 5 6 63,zV 7 64] jA
def k104_4:=jy [zV 61 10,zm 62 61 0] (jz 62 k104_3 jB)
def k104_5:=jy [zL 55 4 9,zF 56 4 5,zM 57 56,ze 58 182 55 57,zV 54 58,zE 59 54 0,zE 60 54 1,zS 4 9 59,zV 10 60] k104_4
def k104_6:=jy [zL 75 5 3,zV 76 10,zS 5 6 75,zV 7 76] jA
def k104_7:=jy [zL 80 5 3,zV 81 8,zV 82 11,zL 83 4 9,jv 84 149 80 81 82 83,zE 85 84 0,zE 86 84 1,zS 5 6 85,zV 7 86] jA
def k104_8:=jy [zL 91 5 3,zS 5 6 91,zK 7 1] jA
def k104_9:=jy [zL 92 5 3,zV 93 8,zV 94 11,zo 95 184 92 93 94,zS 5 6 95,zK 7 0] jA
def k104_10:=jC (jy [zL 87 5 3,zL 88 4 9,zV 89 11,zo 90 183 87 88 89] (jz 90 k104_8 jB)) k104_9
def k104_11:=jC (jy [zF 77 0 5,zM 78 77,zm 79 78 4] (jz 79 k104_7 jB)) k104_10
def k104_12:=jC (jy [zV 73 10,zm 74 73 0] (jz 74 k104_6 jB)) k104_11
def k104_13:=jy [zL 66 5 3,zV 67 1,zF 68 2 5,zL 69 1 68,zo 70 148 66 67 69,zV 65 70,zE 71 65 0,zE 72 65 1,zV 11 71,zV 10 72] k104_12
def k104_14:=jC (jy [zF 51 0 5,zM 52 51,zQ 53 52 3] (jz 53 k104_5 jB)) k104_13
def k104_15:=jC (jy [zF 44 0 5,zM 45 44,zm 46 45 4] (jz 46 k104_2 jB)) k104_14
def k104_16:=jC (jy [zV 40 10,zm 41 40 0] (jz 41 k104_1 jB)) k104_15
def k104_17:=jy [zL 32 5 3,zV 33 1,zF 34 1 5,zL 35 1 34,zo 36 65 32 33 35,zV 31 36,zE 37 31 0,zE 38 31 1,zE 39 31 2,zd 9,zV 8 37,zS 4 9 38,zV 10 39] k104_16
def k104_18:=jC (jy [zL 12 6 5,zh 13 50 12,zN 14 13,zV 15 14,zC 16 15 0 5,zH 17 15 16,jc 18 15 17 2,z5 19 18 15,zr 20 19 0 5,zq 21 19 20,z8 22 19 21 3,
 yk 23 15 19 22,z5 24 23 15,zr 25 24 0 5,zq 26 24 25,z8 27 24 26 4,yk 28 15 24 27,zO 29 15 28] (jz 29 k104_0 jB)) k104_17
def c104:=jy [zj 3 0,zj 5 2,za 6,zK 7 0] k104_18
theorem ok104:Ao Tryz.prog 104 c104 96 [.c 6 (some 5),.t 7]=true:=by kernel_rfl
def w104:=aW k104_0.eq_1 (aW k104_1.eq_1 (aW k104_2.eq_1 (aW k104_3.eq_1 (aW k104_4.eq_1 (aW k104_5.eq_1 (aW k104_6.eq_1 (aW k104_7.eq_1 (aW k104_8.eq_1 (aW k104_9.eq_1 (aW k104_10.eq_1 (aW k104_11.eq_1 (aW k104_12.eq_1 (aW k104_13.eq_1 (aW k104_14.eq_1 (aW k104_15.eq_1 (aW k104_16.eq_1 (aW k104_17.eq_1 (oW k104_18.eq_1))))))))))))))))))
def k149_0:AD:= .region [zL 43 5 4,zV 44 2,ze 45 215 43 44,yd 46 45 0,zV 14 46]
def k149_1:=jy [zV 18 1,yd 19 18 0,zV 20 19,z5 21 1 20,z5 22 10 20,yx 23 20 21 22,zO 24 20 23,zV 25 24,z5 26 2 25,yn 27 25 26 0,zO 28 25 27,zV 29 28,z5 30 2 29,
 z5 31 10 29,yx 32 29 30 31,zO 33 29 32,zV 34 33,ye 35 34 4 7,yh 36 34 141 35,z7 37 34 36,zO 38 34 37,zV 39 38,ye 40 39 4 7,yh 41 39 59 40,zO 42 39 41,zV 14 42] (jz 14
 jB k149_0)
def k149_2:=jy [zL 47 5 4,zS 5 8 47,zK 9 1] jA
def k149_3:=jy [zL 56 5 4,zS 5 8 56,zK 9 4] jA
def k149_4:=jy [zL 66 5 4,zS 5 8 66,zK 9 5] jA
def k149_5:=jy [zL 76 5 4,zS 5 8 76,zK 9 7] jA
def k149_6:AD:= .region [zL 87 5 4,zL 88 4 7,zV 89 2,zo 90 183 87 88 89,zV 77 90]
def k149_7:=jy [zL 91 5 4,zS 5 8 91,zK 9 1] jA
def k149_8:=jC (jC (.drawn [(0,zL 78 4 7),(1,zF 79 3 4),(2,zM 80 79),(3,zV 81 1),(4,zX 82 5 80 81),(5,zF 83 0 82),(6,zL 84 4 83),(7,ze 85 67 78 84),(8,zN 86 85),(9,zV 77 86)] [[],[],[1],[],[2,3],[4],[5],[0,6],[7],[8,7]] 0) (jz 77 jB k149_6)) (jz 77 k149_7 jB)
def k149_9:=jy [zF 68 3 4,zM 69 68,zV 70 1,zX 71 5 69 70,zF 72 0 71,zF 73 0 72,zM 74 73,zQ 75 74 1,zV 67 75] (jz 67 k149_5 k149_8)
def k149_10:=jy [zF 58 3 4,zM 59 58,zV 60 2,zX 61 5 59 60,zF 62 0 61,zL 63 4 62,zh 64 59 63,zN 65 64,zV 57 65] (jz 57 k149_4 k149_9)
def k149_11:=jy [zF 49 3 4,zM 50 49,zV 51 1,zX 52 5 50 51,zF 53 0 52,zL 54 4 53,zh 55 59 54,zV 48 55] (jz 48 k149_3 k149_10)
def k149_12:=jy [zL 101 5 4,zS 5 8 101,zK 9 0] jA
def k149_13:=jy [zF 94 3 4,zM 95 94,zV 96 2,zL 97 4 7,zV 98 1,zR 99 97 98,zX 100 5 95 96,zS 5 100 99] k149_12
def k149_14:=jy [zL 92 5 4,zh 93 16 92,zS 5 4 93] k149_13
def k149_15:=jC (.block 0 (jC (jy [zL 15 5 4,zh 16 15 15,zN 17 16,zV 14 17] (jz 14 jB k149_1)) (jz 14 k149_2 k149_11))) k149_14
def k149_16:=jy [zF 11 3 4,zM 12 11,zg 13 12,zV 10 13] k149_15
def c149:=jy [zj 4 0,zj 7 3,za 8,zK 9 0] k149_16
theorem ok149:Ao Tryz.prog 149 c149 102 [.c 8 (some 5),.t 9]=true:=by kernel_rfl
def w149:=aW k149_0.eq_1 (aW k149_1.eq_1 (aW k149_2.eq_1 (aW k149_3.eq_1 (aW k149_4.eq_1 (aW k149_5.eq_1 (aW k149_6.eq_1 (aW k149_7.eq_1 (aW k149_8.eq_1 (aW k149_9.eq_1 (aW k149_10.eq_1 (aW k149_11.eq_1 (aW k149_12.eq_1 (aW k149_13.eq_1 (aW k149_14.eq_1 (aW k149_15.eq_1 (oW k149_16.eq_1))))))))))))))))
def k183_0:=jy [zF 7 0 4,zM 8 7,zQ 9 8 2,zV 10 9,zp 11 10 5 3,zr 12 10 1 4,zq 13 10 12,zv 14 2 10,yQ 15 10 225 11 13 14,zA 16 10 15,zV 6 16] jA
def c183:=jy [zj 3 0,zj 4 1,zn 6] k183_0
theorem ok183:Ao Tryz.prog 183 c183 17 [.t 6]=true:=by kernel_rfl
def k184_0:AD:= .region [zF 47 3 3,zM 48 47,zV 49 9,zV 50 10,W1 51 (.WB true [(.t 50),(zI (-1))]),zX 52 5 48 49,zF 53 4 52,zS 1 53 51]
def k184_1:=jC (.block 1 (jy [zV 44 42,zX 45 1 40 42,zM 46 45,zV 9 44,zV 10 46] k184_0)) (.region [zc 54 42,zV 42 54])
def b184_2:=jy [zi 43 42 41] (jC (jz 43 jB (.exit 0)) k184_1)
def k184_3:AD:= .region [zF 70 4 3,zM 71 70,zV 72 11,zV 73 2,zc 74 73,zX 75 13 71 72,zF 76 5 75,zS 1 76 74]
def k184_4:=jy [zF 61 4 3,zM 62 61,zV 63 11,zX 64 13 62 63,zF 65 5 64,zM 66 65,zV 67 1,zc 68 67,yu 69 66 68] (jz 69 k184_3 jB)
def k184_5:=jC (.block 3 (jy [zV 60 58,zV 11 60] k184_4)) (.region [zc 77 58,zV 58 77])
def b184_6:=jy [zi 59 58 57] (jC (jz 59 jB (.exit 2)) k184_5)
def k184_7:=jC (jy [zF 55 4 3,zM 56 55,zg 57 56,zK 58 0] (.block 2 (.loop b184_6))) (jy [zL 78 5 3,zS 5 6 78] jA)
def k184_8:=jC (jy [zF 39 0 7,zM 40 39,zg 41 40,zK 42 0] (.block 0 (.loop b184_2))) k184_7
def k184_9:=jC (.drawn [(0,zF 22 3 3),(1,zM 23 22),(3,zF 25 3 3),(4,zM 26 25),(6,zF 28 3 3),(7,zM 29 28),(8,zV 30 1),(9,zX 31 5 29 30),(10,zF 32 0 31),(11,zL 33 4 32),(2,zV 24 2),(13,zX 35 5 23 24),(14,zF 36 0 35),(15,zS 4 36 33),(5,zV 27 1),(12,zk 34),
 (16,zX 37 5 26 27),(17,zF 38 0 37),(18,zS 4 38 34)] [[],[0],[],[],[3],[],[],[6],[],[7,8],[9],[10],[],[1,2,0,1,2,6,7,8,9,10,11],[13,0,1,2,6,7,8,9,10,11],[14,11,0,1,2,6,7,8,9,10,11],[4,5,0,1,2,3,4,5,6,7,8,9,10,11,12,13,14,15],[16,0,1,2,3,4,5,6,7,8,9,10,11,12,13,14,15],[17,12,15,0,1,2,3,4,5,6,7,8,9,10,11,12,13,14,15]] 0) k184_8
def k184_10:=jy [zL 20 5 3,zh 21 16 20,zS 5 3 21] k184_9
def k184_11:=jy [zL 13 5 3,zh 14 76 13,zV 15 1,zV 16 2,zo 17 226 14 15 16,zV 12 17,zE 18 12 0,zE 19 12 1,yG 7,zS 1 7 18,zV 8 19] k184_10
def c184:=jy [zj 3 0,za 6] k184_11
theorem ok184:Ao Tryz.prog 184 c184 79 [.c 6 (some 5)]=true:=by kernel_rfl
def w184:=aW k184_0.eq_1 (aW k184_1.eq_1 (aW k184_3.eq_1 (aW k184_4.eq_1 (aW k184_5.eq_1 (aW k184_7.eq_1 (aW k184_8.eq_1 (aW k184_9.eq_1 (aW k184_10.eq_1 (oW k184_11.eq_1)))))))))
end Go.Proofs.YtlaipllgmddkiaaGreat.Ax
namespace Go.Proofs.YtlaipllgmddkiaaGreat.Ax
open Go Go.Ax
set_option maxRecDepth 100000
def k5_0:=jz 13 (jy [zn 6] jA) jB
def k5_1:=jz 21 (jy [yr 6] jA) jB
def k5_2:AD:= .region [zL 49 5 3,zh 50 33 49,W1 51 (.build [.int .i64 0,.int .u64 0,.int .i64 0] [(0,1,(zI 1))]),zS 5 10 50,zS 3 11 51]
def k5_3:=jC (.drawn [(0,zL 52 3 9),(1,zL 53 3 11),(2,ze 54 35 52 53),(3,zV 55 54),(4,zp 56 55 5 8),(6,zp 58 55 5 10),(5,z9 57 55 33 56),(7,zy 59 55 22 57 58),(8,zA 60 55 59),(9,zV 61 60),(10,zp 62 61 5 3),
 (11,zp 63 61 5 7),(12,zy 64 61 23 62 63),(13,zA 65 61 64),(14,zV 66 65),(15,zp 67 66 5 8),(16,z9 68 66 15 67),(17,zA 69 66 68),(18,zV 6 69)]
 [[],[],[0,1],[2,2],[3],[4,3,3],[3],[5,6,5,3],[3,7],[8,7],[9],[9],[10,11,9,9],[9,12],[13,12],[14],[15,14,14],[14,16],[17,16,0,1,2,3,4,5,6,7,8,9,10,11,12,13,14,15,16,17]] 0) jA
def k5_4:=jC (jy [zF 40 0 5,zM 41 40,zz 42 41 2,zV 43 42,zr 44 43 0 5,zq 45 43 44,yp 46 43 45 4,zA 47 43 46,zN 48 47] (jz 48 k5_2 jB)) k5_3
def k5_5:=jC (.drawn [(0,zL 32 5 3),(3,zL 35 6 5),(1,zh 33 33 32),(4,zh 36 34 35),(2,zV 34 1),(5,zo 37 18 33 34 36),(6,zV 31 37),(7,zE 38 31 0),(9,yy 10 0),(10,W1 11 (.born 1 (.new [.int .i64 0,.int .u64 0,.int .i64 0]))),(11,zS 5 10 38),(8,zE 39 31 1),
 (12,zS 3 11 39)] [[],[0],[],[],[3,1],[1,2,4,4],[5],[6],[6],[],[],[9,7,5,0,1,2,3,4,5,6,7,9,10],[10,8,11,0,1,2,3,4,5,6,7,8,9,10,11]] 2) k5_4
def k5_6:=jy [zL 25 5 3,zV 26 1,zL 27 6 5,zo 28 32 25 26 27,zV 24 28,zE 29 24 0,zE 30 24 1,za 8,zP 9,zS 5 8 29,zS 3 9 30] k5_5
def k5_7:=jy [zL 22 5 3,zh 23 16 22,za 7,zS 5 7 23] k5_6
def k5_8:=jC (jy [zL 14 5 3,zL 15 6 5,ze 16 31 14 15,zV 17 16,ye 18 17 5 3,yh 19 17 15 18,z7 20 17 19,zO 21 17 20] k5_1) k5_7
def k5_9:=jC (jy [W1 12 (.call 30 []),zN 13 12] k5_0) k5_8
def c5:=jy [zj 3 0,zj 5 2,zn 6] k5_9
theorem ok5:Ao Tryz.prog 5 c5 70 [.t 6]=true:=by kernel_rfl
def w5:=aW k5_0.eq_1 (aW k5_1.eq_1 (aW k5_2.eq_1 (aW k5_3.eq_1 (aW k5_4.eq_1 (aW k5_5.eq_1 (aW k5_6.eq_1 (aW k5_7.eq_1 (aW k5_8.eq_1 (oW k5_9.eq_1)))))))))
def k30_0:=jy [zL 13 3 2,yg 14,W1 15 (.eqs false [0,0,0] (.t 13) (.t 14)),zV 16 15,zr 17 16 3 1,zq 18 16 17,yj 19 16 18,zY 20 16 19 32,zA 21 16 20,zV 22 21,zr 23 22 3 1,zq 24 22 23,
 W2 25 22 true (.A9 5 (.t 24) (zI 2)),zp 26 22 5 25,W2 27 22 true (.build [.int .i64 0,.int .i64 0,.int .i64 0,.int .i64 0] [(0,1,(zI 3)),(1,1,(zI 1)),(2,1,(zI 1))]),W2 28 22 true (.build [.int .i64 0,.int .i64 0,.int .i64 0,.int .i64 0,.int .i64 0] [(0,4,(.t 27)),(4,1,(zI 1))]),W2 29 22 true (.eqs false [0,0,0,0,0] (.t 26) (.t 28)),zA 30 22 29,zV 0 30]
 jA
def k30_1:=jy [W1 4 (.call 102 []),yX 5 1,zh 6 103 5,yX 7 2,zh 8 103 7,W1 9 (.build [.int .i64 0,.lit (.slice none 0 0),.lit (.slice none 0 0),.int .i64 0,.int .i64 0,.int .u64 0] [(0,1,(zI 2)),(1,1,(.t 6)),(2,1,(.t 8)),(3,1,(zI 1))]),W1 10 (.call 32 [(.t 4),(zI 0),(.t 9)]),zV 3 10,zE 11 3 0,zE 12 3 1,
 za 1,zP 2,zS 5 1 11,zS 3 2 12] k30_0
def c30:=jy [zn 0] k30_1
theorem ok30:Ao Tryz.prog 30 c30 31 [.t 0]=true:=by kernel_rfl
def w30:=aW k30_0.eq_1 (oW k30_1.eq_1)
def k31_0:=jy [zF 5 3 2,zM 6 5,zg 7 6,yo 8 7 100,zV 9 8,zC 10 9 4 2,zH 11 9 10,zW 12 9 11,ym 13 9 12 50,zO 14 9 13,zV 15 14,zC 16 15 1 3,zC 17 15 0 16,
 zH 18 15 17,zW 19 15 18,ym 20 15 19 10,zO 21 15 20,zV 22 21,zC 23 22 2 3,zC 24 22 0 23,zH 25 22 24,zW 26 22 25,ym 27 22 26 10,zO 28 22 27,zV 4 28] jA
def c31:=jy [zj 2 0,zj 3 1,zn 4] k31_0
theorem ok31:Ao Tryz.prog 31 c31 29 [.t 4]=true:=by kernel_rfl
def k33_0:AD:= .drawn [(0,zF 31 3 3),(1,zM 32 31),(2,zF 33 0 5),(3,zM 34 33),(4,zF 35 1 5),(5,zM 36 35),(6,zF 37 2 5),(7,zM 38 37),(8,zF 39 3 5),(9,zM 40 39),(11,zF 42 3 1),(12,zM 43 42),(13,zV 44 4),(14,zX 45 5 43 44),(15,zF 46 4 45),(16,zM 47 46),
 (10,W1 41 (.build [.int .i64 0,.int .i64 0,.int .i64 0,.int .i64 0] [(0,1,(.t 34)),(1,1,(.t 36)),(2,1,(.t 38)),(3,1,(.t 40))])),(17,zR 48 41 47),(18,W1 49 (.born 0 (.EO 5 1 [.int .i64 0,.int .i64 0,.int .i64 0,.int .i64 0,.int .i64 0] [(0,(.t 48))]))),(19,yt 50 5 40 32 49),(20,zF 51 3 3),(21,zS 1 51 50)]
 [[],[0],[],[2],[],[4],[],[6],[],[8],[3,5,7,9],[],[11],[],[12,13],[14],[15],[10,16],[17],[1,18],[0,1,2,3,4,5,6,7,8,9,10,11,12,13,14,15,16,17,18,19],[20,19,19,0,1,2,3,4,5,6,7,8,9,10,11,12,13,14,15,16,17,18,19]] 1
def k33_1:=jC (.block 1 (jy [zF 25 3 1,zM 26 25,zV 27 4,zX 28 5 26 27,zF 29 0 28,zL 30 4 29,zd 5,zS 4 5 30] k33_0)) (.region [zV 23 4,zc 24 23,zV 4 24])
def b33_2:=jC (jy [zV 18 4,zF 19 3 1,zM 20 19,zg 21 20,zi 22 18 21] (jz 22 jB (.exit 0))) k33_1
def k33_3:=jC (.block 3 (.drawn [(0,zF 59 4 3),(1,zM 60 59),(2,zF 61 4 1),(3,zM 62 61),(4,zV 63 6),(5,zX 64 13 62 63),(6,zL 65 13 64),(7,zh 66 105 65),(8,W1 67 (.born 0 (.EO 13 1 [.int .i64 0,.int .i64 0,.int .i64 0,.int .i64 0,.int .i64 0,.int .i64 0,.int .i64 0,.bool false,.int .u64 0,.int .u64 0,.int .u64 0,.int .u64 0,.int .u64 0] [(0,(.t 66))]))),(9,yt 68 13 104 60 67),(10,zF 69 4 3),
 (11,zS 1 69 68)] [[],[0],[],[2],[],[3,4],[5],[6],[7],[1,8,7],[0,1,2,3,4,5,6,7,8,9],[10,9,9,0,1,2,3,4,5,6,7,8,9]] 1)) (.region [zV 57 6,zc 58 57,zV 6 58])
def b33_4:=jC (jy [zV 52 6,zF 53 4 1,zM 54 53,zg 55 54,zi 56 52 55] (jz 56 jB (.exit 2))) k33_3
def k33_5:=jC (jy [zK 6 0] (.block 2 (.loop b33_4))) (jy [zL 70 5 3,zS 5 2 70] jA)
def k33_6:=jC (jy [zK 4 0] (.block 0 (.loop b33_2))) k33_5
def k33_7:=jy [zF 7 0 1,zF 8 0 7,zM 9 8,zF 10 0 1,zF 11 1 10,zM 12 11,zF 13 0 1,zF 14 2 13,zM 15 14,W1 16 (.build [.int .i64 0,.int .i64 0,.int .i64 0] [(0,1,(.t 9)),(1,1,(.t 12)),(2,1,(.t 15))]),W1 17 (.build [.int .i64 0,.int .i64 0,.int .i64 0,.lit (.slice none 0 0),.lit (.slice none 0 0)] [(0,3,(.t 16))]),za 3,
 zS 5 3 17] k33_6
def c33:=jy [zj 1 0,za 2] k33_7
theorem ok33:Ao Tryz.prog 33 c33 71 [.c 2 (some 5)]=true:=by kernel_rfl
def w33:=aW k33_0.eq_1 (aW k33_1.eq_1 (aW k33_3.eq_1 (aW k33_5.eq_1 (aW k33_6.eq_1 (oW k33_7.eq_1)))))
def k34_0:=jy [zF 3 0 1,zM 4 3,zF 5 1 1,zF 6 0 5,zM 7 6,zF 8 2 1,zF 9 0 8,zM 10 9,zF 11 3 1,zM 12 11,zF 13 4 1,zM 14 13,zF 15 5 1,zM 16 15,W1 17 (.build [.int .i64 0,.lit (.slice none 0 0),.lit (.slice none 0 0),.int .i64 0,.int .i64 0,.int .u64 0] [(0,1,(.t 4)),(1,1,(.t 7)),(2,1,(.t 10)),(3,1,(.t 12)),(4,1,(.t 14)),(5,1,(.t 16))]),
 zS 6 2 17] jA
def c34:=jy [zj 1 0,W1 2 (.new [.int .i64 0,.lit (.slice none 0 0),.lit (.slice none 0 0),.int .i64 0,.int .i64 0,.int .u64 0])] k34_0
theorem ok34:Ao Tryz.prog 34 c34 18 [.c 2 (some 6)]=true:=by kernel_rfl
def k35_0:=jy [zF 5 0 2,zM 6 5,zF 7 0 3,zM 8 7,yu 9 6 8,zV 10 9,zr 11 10 1 2,zq 12 10 11,zr 13 10 1 3,zq 14 10 13,yF 15 10 12 14,zA 16 10 15,zV 17 16,zr 18 17 2 2,
 zq 19 17 18,zr 20 17 2 3,zq 21 17 20,yF 22 17 19 21,zA 23 17 22,zV 4 23] jA
def c35:=jy [zj 2 0,zj 3 1,zn 4] k35_0
theorem ok35:Ao Tryz.prog 35 c35 24 [.t 4]=true:=by kernel_rfl
def k102_0:=jy [W1 4 (.call 124 []),zT 5 60 4 64,zV 3 5,zE 6 3 0,zE 7 3 1,za 1,zS 5 1 6,zV 2 7] (jy [zL 8 5 1,zS 5 0 8] jA)
def c102:=jy [za 0] k102_0
theorem ok102:Ao Tryz.prog 102 c102 9 [.c 0 (some 5)]=true:=by kernel_rfl
def k103_0:=jy [zV 3 0,jp 4 3,zS 1 2 4] jA
def c103:=jy [yG 2] k103_0
theorem ok103:Ao Tryz.prog 103 c103 5 [.c 2 (some 1)]=true:=by kernel_rfl
def k105_0:=jy [zF 3 0 1,zM 4 3,zF 5 1 1,zM 6 5,zF 7 2 1,zM 8 7,zF 9 3 1,zM 10 9,zF 11 4 1,zM 12 11,zF 13 5 1,zM 14 13,zF 15 6 1,zM 16 15,zF 17 7 1,zM 18 17,zF 19 8 1,zM 20 19,zF 21 9 1,zL 22 4 21,
 W1 23 (.build [.int .i64 0,.int .i64 0,.int .i64 0,.int .i64 0,.int .i64 0,.int .i64 0,.int .i64 0,.bool false,.int .u64 0,.int .u64 0,.int .u64 0,.int .u64 0,.int .u64 0] [(0,1,(.t 4)),(1,1,(.t 6)),(2,1,(.t 8)),(3,1,(.t 10)),(4,1,(.t 12)),(5,1,(.t 14)),(6,1,(.t 16)),(7,1,(.t 18)),(8,1,(.t 20)),(9,4,(.t 22))]),zS 13 2 23] jA
def c105:=jy [zj 1 0,zb 2] k105_0
theorem ok105:Ao Tryz.prog 105 c105 24 [.c 2 (some 13)]=true:=by kernel_rfl
end Go.Proofs.YtlaipllgmddkiaaGreat.Ax
