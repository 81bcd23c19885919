/- Texts put behind one another: AxCLaw15. Conditions: none. -/
import Derived.Test.YtlaipllgmddkiaaGreatZC1
import Derived.Test.YtlaipllgmddkiaaGreatAxEnterZ
import Derived.Test.YtlaipllgmddkiaaGreatProg
import Derived.KernelRfl
set_option linter.all false
namespace Go.Proofs.YtlaipllgmddkiaaGreat.Ax
open Go Go.Ax
set_option maxRecDepth 100000
def k4_0:=jz 13 (jy [zm 6] jA) jB
def k4_1:=jz 21 (jy [yh 6] jA) jB
def k4_2:AD:= .region [zL 44 5 3,zj 45 27 44,jl 46 0 1,zS 5 10 45,zS 3 11 46]
def k4_3:=jC (.drawn [(0,zL 47 3 9),(1,zL 48 3 11),(2,zd 49 29 47 48),(3,zV 50 49),(4,zq 51 50 5 8),(6,zq 53 50 5 10),(5,z9 52 50 27 51),(7,zz 54 50 22 52 53),(8,zA 55 50 54),(9,zV 56 55),(10,zq 57 56 5 3),
 (11,zq 58 56 5 7),(12,zz 59 56 23 57 58),(13,zA 60 56 59),(14,zV 61 60),(15,zq 62 61 5 8),(16,z9 63 61 15 62),(17,zA 64 61 63),(18,zV 6 64)]
 [[],[],[0,1],[2,2],[3],[4,3,3],[3],[5,6,5,3],[3,7],[8,7],[9],[9],[10,11,9,9],[9,12],[13,12],[14],[15,14,14],[14,16],[17,16,0,1,2,3,4,5,6,7,8,9,10,11,12,13,14,15,16,17]] 0) jA
def k4_4:=jC (jy [zF 40 0 5,zM 41 40,zQ 42 41 1,zN 43 42] (jz 43 k4_2 jB)) k4_3
def k4_5:=jC (.drawn [(0,zL 32 5 3),(3,zL 35 6 5),(1,zj 33 27 32),(4,zj 36 28 35),(2,zV 34 1),(5,zo 37 18 33 34 36),(6,zV 31 37),(7,zE 38 31 0),(9,yq 10 0),(10,W1 11 (.born 1 (.new [.int .i64 0,.int .u64 0,.int .i64 0]))),(11,zS 5 10 38),(8,zE 39 31 1),
 (12,zS 3 11 39)] [[],[0],[],[],[3,1],[1,2,4,4],[5],[6],[6],[],[],[9,7,5,0,1,2,3,4,5,6,7,9,10],[10,8,11,0,1,2,3,4,5,6,7,8,9,10,11]] 2) k4_4
def k4_6:=jy [zL 25 5 3,zV 26 1,zL 27 6 5,zo 28 26 25 26 27,zV 24 28,zE 29 24 0,zE 30 24 1,za 8,zR 9,zS 5 8 29,zS 3 9 30] k4_5
def k4_7:=jy [zL 22 5 3,zj 23 16 22,za 7,zS 5 7 23] k4_6
def k4_8:=jC (jy [zL 14 5 3,zL 15 6 5,zd 16 25 14 15,zV 17 16,yr 18 17 5 3,yn 19 17 15 18,z7 20 17 19,zO 21 17 20] k4_1) k4_7
def k4_9:=jC (jy [W1 12 (.call 24 []),zN 13 12] k4_0) k4_8
def c4:=jy [zi 3 0,zi 5 2,zm 6] k4_9
theorem ok4:Ao Tryz.prog 4 c4 65 [.t 6]=true:=by kernel_rfl
def w4:=aW k4_0.eq_1 (aW k4_1.eq_1 (aW k4_2.eq_1 (aW k4_3.eq_1 (aW k4_4.eq_1 (aW k4_5.eq_1 (aW k4_6.eq_1 (aW k4_7.eq_1 (aW k4_8.eq_1 (oW k4_9.eq_1)))))))))
def k24_0:=jy [zL 13 3 2,jl 14 2 4,W1 15 (.eqs false [0,0,0] (.t 13) (.t 14)),zV 16 15,zu 17 16 4 1,zp 18 16 17,yg 19 16 18,zJ 20 16 19 16,zA 21 16 20,zV 22 21,zu 23 22 4 1,
 zp 24 22 23,W2 25 22 true (.A9 13 (.t 24) (zI 4)),zu 26 22 0 25,zp 27 22 26,zJ 28 22 27 4,zA 29 22 28,zV 30 29,zu 31 30 3 1,zp 32 30 31,yg 33 30 32,zJ 34 30 33 32,
 zA 35 30 34,zV 36 35,zu 37 36 3 1,zp 38 36 37,W2 39 36 true (.A9 5 (.t 38) (zI 3)),zq 40 36 5 39,W2 41 36 true (.build [.int .i64 0,.int .i64 0,.int .i64 0,.int .i64 0] [(0,1,(zI 4)),(1,1,(zI 4)),(2,1,(zI 7))]),
 W2 42 36 true (.build [.int .i64 0,.int .i64 0,.int .i64 0,.int .i64 0,.int .i64 0] [(0,4,(.t 41)),(4,1,(zI 0))]),W2 43 36 true (.eqs false [0,0,0,0,0] (.t 40) (.t 42)),zA 44 36 43,zV 0 44] jA
def k24_1:=jy [W1 4 (.call 98 []),yX 5 0,zj 6 99 5,yX 7 3,zj 8 99 7,W1 9 (.build [.int .i64 0,.lit (.slice none 0 0),.lit (.slice none 0 0),.int .i64 0,.int .i64 0,.int .u64 0] [(0,1,(zI 1)),(1,1,(.t 6)),(2,1,(.t 8)),(3,1,(zI 4))]),W1 10 (.call 26 [(.t 4),(zI 0),(.t 9)]),zV 3 10,zE 11 3 0,zE 12 3 1,
 za 1,zR 2,zS 5 1 11,zS 3 2 12] k24_0
def c24:=jy [zm 0] k24_1
theorem ok24:Ao Tryz.prog 24 c24 45 [.t 0]=true:=by kernel_rfl
def w24:=aW k24_0.eq_1 (oW k24_1.eq_1)
def k25_0:=jy [zF 5 3 2,zM 6 5,ze 7 6,yk 8 7 100,zV 9 8,zy 10 9 4 2,zH 11 9 10,z3 12 9 11,yc 13 9 12 50,zO 14 9 13,zV 15 14,zy 16 15 1 3,zy 17 15 0 16,
 zH 18 15 17,z3 19 15 18,yc 20 15 19 10,zO 21 15 20,zV 22 21,zy 23 22 2 3,zy 24 22 0 23,zH 25 22 24,z3 26 22 25,yc 27 22 26 10,zO 28 22 27,zV 4 28] jA
def c25:=jy [zi 2 0,zi 3 1,zm 4] k25_0
theorem ok25:Ao Tryz.prog 25 c25 29 [.t 4]=true:=by kernel_rfl
def k27_0:AD:= .drawn [(0,zF 31 3 3),(1,zM 32 31),(2,zF 33 0 5),(3,zM 34 33),(4,zF 35 1 5),(5,zM 36 35),(6,zF 37 2 5),(7,zM 38 37),(8,zF 39 3 5),(9,zM 40 39),(11,zF 42 3 1),(12,zM 43 42),(13,zV 44 4),(14,zX 45 5 43 44),(15,zF 46 4 45),(16,zM 47 46),
 (10,W1 41 (.build [.int .i64 0,.int .i64 0,.int .i64 0,.int .i64 0] [(0,1,(.t 34)),(1,1,(.t 36)),(2,1,(.t 38)),(3,1,(.t 40))])),(17,zW 48 41 47),(18,W1 49 (.born 0 (.EO 5 1 [.int .i64 0,.int .i64 0,.int .i64 0,.int .i64 0,.int .i64 0] [(0,(.t 48))]))),(19,yu 50 5 40 32 49),(20,zF 51 3 3),(21,zS 1 51 50)]
 [[],[0],[],[2],[],[4],[],[6],[],[8],[3,5,7,9],[],[11],[],[12,13],[14],[15],[10,16],[17],[1,18],[0,1,2,3,4,5,6,7,8,9,10,11,12,13,14,15,16,17,18,19],[20,19,19,0,1,2,3,4,5,6,7,8,9,10,11,12,13,14,15,16,17,18,19]] 1
def k27_1:=jC (.block 1 (jy [zF 25 3 1,zM 26 25,zV 27 4,zX 28 5 26 27,zF 29 0 28,zL 30 4 29,zg 5,zS 4 5 30] k27_0)) (.region [zV 23 4,zc 24 23,zV 4 24])
def b27_2:=jC (jy [zV 18 4,zF 19 3 1,zM 20 19,ze 21 20,zh 22 18 21] (jz 22 jB (.exit 0))) k27_1
def k27_3:=jC (.block 3 (.drawn [(0,zF 59 4 3),(1,zM 60 59),(2,zF 61 4 1),(3,zM 62 61),(4,zV 63 6),(5,zX 64 13 62 63),(6,zL 65 13 64),(7,zj 66 101 65),(8,W1 67 (.born 0 (.EO 13 1 [.int .i64 0,.int .i64 0,.int .i64 0,.int .i64 0,.int .i64 0,.int .i64 0,.int .i64 0,.bool false,.int .u64 0,.int .u64 0,.int .u64 0,.int .u64 0,.int .u64 0] [(0,(.t 66))]))),(9,yu 68 13 104 60 67),(10,zF 69 4 3),
 (11,zS 1 69 68)] [[],[0],[],[2],[],[3,4],[5],[6],[7],[1,8,7],[0,1,2,3,4,5,6,7,8,9],[10,9,9,0,1,2,3,4,5,6,7,8,9]] 1)) (.region [zV 57 6,zc 58 57,zV 6 58])
def b27_4:=jC (jy [zV 52 6,zF 53 4 1,zM 54 53,ze 55 54,zh 56 52 55] (jz 56 jB (.exit 2))) k27_3
def k27_5:=jC (jy [zK 6 0] (.block 2 (.loop b27_4))) (jy [zL 70 5 3,zS 5 2 70] jA)
def k27_6:=jC (jy [zK 4 0] (.block 0 (.loop b27_2))) k27_5
def k27_7:=jy [zF 7 0 1,zF 8 0 7,zM 9 8,zF 10 0 1,zF 11 1 10,zM 12 11,zF 13 0 1,zF 14 2 13,zM 15 14,W1 16 (.build [.int .i64 0,.int .i64 0,.int .i64 0] [(0,1,(.t 9)),(1,1,(.t 12)),(2,1,(.t 15))]),W1 17 (.build [.int .i64 0,.int .i64 0,.int .i64 0,.lit (.slice none 0 0),.lit (.slice none 0 0)] [(0,3,(.t 16))]),za 3,
 zS 5 3 17] k27_6
def c27:=jy [zi 1 0,za 2] k27_7
theorem ok27:Ao Tryz.prog 27 c27 71 [.c 2 (some 5)]=true:=by kernel_rfl
def w27:=aW k27_0.eq_1 (aW k27_1.eq_1 (aW k27_3.eq_1 (aW k27_5.eq_1 (aW k27_6.eq_1 (oW k27_7.eq_1)))))
def k28_0:=jy [zF 3 0 1,zM 4 3,zF 5 1 1,zF 6 0 5,zM 7 6,zF 8 2 1,zF 9 0 8,zM 10 9,zF 11 3 1,zM 12 11,zF 13 4 1,zM 14 13,zF 15 5 1,zM 16 15,W1 17 (.build [.int .i64 0,.lit (.slice none 0 0),.lit (.slice none 0 0),.int .i64 0,.int .i64 0,.int .u64 0] [(0,1,(.t 4)),(1,1,(.t 7)),(2,1,(.t 10)),(3,1,(.t 12)),(4,1,(.t 14)),(5,1,(.t 16))]),
 zS 6 2 17] jA
def c28:=jy [zi 1 0,W1 2 (.new [.int .i64 0,.lit (.slice none 0 0),.lit (.slice none 0 0),.int .i64 0,.int .i64 0,.int .u64 0])] k28_0
theorem ok28:Ao Tryz.prog 28 c28 18 [.c 2 (some 6)]=true:=by kernel_rfl
def k29_0:=jy [zF 5 0 2,zM 6 5,zF 7 0 3,zM 8 7,yo 9 6 8,zV 10 9,zu 11 10 1 2,zp 12 10 11,zu 13 10 1 3,zp 14 10 13,yC 15 10 12 14,zA 16 10 15,zV 17 16,zu 18 17 2 2,
 zp 19 17 18,zu 20 17 2 3,zp 21 17 20,yC 22 17 19 21,zA 23 17 22,zV 4 23] jA
def c29:=jy [zi 2 0,zi 3 1,zm 4] k29_0
theorem ok29:Ao Tryz.prog 29 c29 24 [.t 4]=true:=by kernel_rfl
def k98_0:=jy [W1 4 (.call 124 []),zY 5 60 4 64,zV 3 5,zE 6 3 0,zE 7 3 1,za 1,zS 5 1 6,zV 2 7] (jy [zL 8 5 1,zS 5 0 8] jA)
def c98:=jy [za 0] k98_0
theorem ok98:Ao Tryz.prog 98 c98 9 [.c 0 (some 5)]=true:=by kernel_rfl
def k99_0:=jy [zV 3 0,W1 4 (.build [.lit (.slice none 0 0)] [(0,1,(.t 3))]),zS 1 2 4] jA
def c99:=jy [jd 2] k99_0
theorem ok99:Ao Tryz.prog 99 c99 5 [.c 2 (some 1)]=true:=by kernel_rfl
def k101_0:=jy [zF 3 0 1,zM 4 3,zF 5 1 1,zM 6 5,zF 7 2 1,zM 8 7,zF 9 3 1,zM 10 9,zF 11 4 1,zM 12 11,zF 13 5 1,zM 14 13,zF 15 6 1,zM 16 15,zF 17 7 1,zM 18 17,zF 19 8 1,zM 20 19,zF 21 9 1,zL 22 4 21,
 W1 23 (.build [.int .i64 0,.int .i64 0,.int .i64 0,.int .i64 0,.int .i64 0,.int .i64 0,.int .i64 0,.bool false,.int .u64 0,.int .u64 0,.int .u64 0,.int .u64 0,.int .u64 0] [(0,1,(.t 4)),(1,1,(.t 6)),(2,1,(.t 8)),(3,1,(.t 10)),(4,1,(.t 12)),(5,1,(.t 14)),(6,1,(.t 16)),(7,1,(.t 18)),(8,1,(.t 20)),(9,4,(.t 22))]),zS 13 2 23] jA
def c101:=jy [zi 1 0,zb 2] k101_0
theorem ok101:Ao Tryz.prog 101 c101 24 [.c 2 (some 13)]=true:=by kernel_rfl
end Go.Proofs.YtlaipllgmddkiaaGreat.Ax
