/- Texts put behind one another: AxCOps, AxCLaw21. Conditions: none. -/
import Derived.Test.YtlaipllgmddkiaaGreatZC1
import Derived.Test.YtlaipllgmddkiaaGreatProg
import Derived.KernelRfl
set_option linter.all false
open Go.Proofs.Tryz renaming prog -> Qa
namespace Go.Proofs.YtlaipllgmddkiaaGreat.Ax
open Go Go.Ax
set_option maxRecDepth 100000
abbrev k17_4:=za [zV 52 11,zF 53 2 9,zM 54 53,zi 55 80 52 54,zN 56 55,zV 51 56] (zb 51 (za [zL 57 5 3,zl 58 6,zS 5 6 57,zS 3 7 58] zc) zd)
abbrev k17_8:=ze (za [zF 59 0 5,zM 60 59,zQ 61 60 7] (zb 61 (za [zL 62 5 3,zV 63 1,zL 64 6 5,zL 65 4 9,yP 66 81 62 63 64 65,zE 67 66 0,zE 68 66 1,zS 5 6 67,zS 3 7 68] zc) zd)) (za [zL 69 5 3,zV 70 1,zL 71 6 5,zL 72 4 9,yP 73 82 69 70 71 72,zE 74 73 0,zE 75 73 1,zS 5 6 74,zS 3 7 75] zc)
abbrev k17_9:=ze (.block 0 (za [zV 40 10,zv 41 40 0,zV 39 41] (zb 39 (za [zL 42 5 3,zV 43 10,zq 44 0 43,zS 5 6 42,zS 3 7 44] zc) (za [zF 46 0 9,zM 47 46,zv 48 47 3,zV 45 48] (zb 45 (za [zL 49 5 3,zl 50 7,zS 5 6 49,zS 3 7 50] zc) k17_4))))) k17_8
abbrev k17_11:=za [zL 28 5 3,zV 29 1,zF 30 1 5,zL 31 1 30,zp 32 65 28 29 31,zV 27 32,zE 33 27 0,zE 34 27 1,zE 35 27 2,zo 9,zV 8 33,zS 4 9 34,zV 10 35] (za [zK 11 2] (ze (za [zF 36 0 5,zM 37 36,zQ 38 37 8] (zb 38 (.region [zK 11 1]) zd)) k17_9))
abbrev k17_12:=ze (za [zL 12 6 5,zj 13 50 12,zN 14 13,zV 15 14,zP 16 15 0 5,z6 17 15 16,yg 18 15 17 7,zR 19 18 15,zC 20 19 0 5,zJ 21 19 20,zY 22 19 21 8,zH 23 15 19 22,zO 24 15 23] (zb 24 (za [zL 25 5 3,zl 26 1,zS 5 6 25,zS 3 7 26] zc) zd)) k17_11
abbrev c17:=za [zk 3 0,zk 5 2,zf 6,zw 7] k17_12
theorem ok17:Ao Qa 17 c17 76 [.c 6 (some 5),.c 7 (some 3)]=true:=by kernel_rfl
abbrev k26_2:=ze (za [zV 19 10,zv 20 19 0] (zb 20 (za [zL 21 5 3,zV 22 10,zq 23 0 22,zS 5 6 21,zS 3 7 23] zc) zd)) (za [zL 24 5 8,zV 25 9,zq 26 2 25,zS 5 6 24,zS 3 7 26] zc)
abbrev k26_3:=za [zL 12 5 3,zV 13 1,zL 14 6 5,zp 15 100 12 13 14,zV 11 15,zE 16 11 0,zE 17 11 1,zE 18 11 2,zf 8,zS 5 8 16,zV 9 17,zV 10 18] k26_2
abbrev c26:=za [zk 3 0,zk 5 2,zf 6,zw 7] k26_3
theorem ok26:Ao Qa 26 c26 27 [.c 6 (some 5),.c 7 (some 3)]=true:=by kernel_rfl
abbrev k32_2:=ze (za [zV 17 9,zv 18 17 0] (zb 18 (za [zL 19 5 3,zV 20 9,zq 21 0 20,zS 5 6 19,zS 3 7 21] zc) zd)) (za [zL 22 5 8,yz 23,zS 5 6 22,zS 3 7 23] zc)
abbrev c32:=za [zk 3 0,zk 5 2,zf 6,zw 7] (za [zL 11 5 3,zV 12 1,zL 13 6 5,zp 14 104 11 12 13,zV 10 14,zE 15 10 0,zE 16 10 1,zf 8,zS 5 8 15,zV 9 16] k32_2)
theorem ok32:Ao Qa 32 c32 24 [.c 6 (some 5),.c 7 (some 3)]=true:=by kernel_rfl
abbrev k38_4:=za [zV 53 11,zF 54 2 9,zM 55 54,zi 56 80 53 55,zN 57 56,zV 52 57] (zb 52 (za [zL 58 5 3,zl 59 6,zS 5 6 58,zS 3 7 59] zc) zd)
abbrev k38_8:=za [zF 81 4 3,zM 82 81,zF 83 1 9,zM 84 83,zX 85 13 82 84,zF 86 8 85,⟨none,.st 1 (.t 86) (.c (.int .u64 0)),none⟩] (za [zL 87 5 3,zV 88 12,zq 89 1 88,zS 5 6 87,zS 3 7 89] zc)
abbrev k38_10:=ze (.drawn [(0,zF 90 4 3),(1,zM 91 90),(2,zF 92 1 9),(3,zM 93 92),(5,zF 95 3 9),(6,zM 96 95),(4,zV 94 12),(7,W1 97 (.bin .rem (.t 96) (zI 64))),(8,W1 98 (.bin .shl (.c (.int .u64 1)) (.t 97))),(9,W1 99 (.bin .or (.t 94) (.t 98))),(10,zX 100 13 91 93),(11,zF 101 8 100),(12,zS 1 101 99)] [[],[0],[],[2],[],[],[5],[6],[7],[4,8],[1,3,0,1,2,3,4,5,6,7,8,9],[10,0,1,2,3,4,5,6,7,8,9],[11,9,0,1,2,3,4,5,6,7,8,9]] 0) (za [zL 102 5 3,yz 103,zS 5 6 102,zS 3 7 103] zc)
abbrev k38_13:=ze (za [zF 67 0 5,zM 68 67,zQ 69 68 10,zV 70 69,zZ 71 12 70,W2 72 70 true (.bin .eql (.t 71) (.c (.int .u64 0))),zA 73 70 72] (zb 73 (za [zL 74 5 3,zl 75 14,zS 5 6 74,zS 3 7 75] zc) zd)) (za [zL 76 5 3,zj 77 16 76,zS 5 3 77] (ze (za [zF 78 0 5,zM 79 78,zQ 80 79 10] (zb 80 k38_8 zd)) k38_10))
abbrev k38_15:=ze (.block 0 (za [zV 41 10,zv 42 41 0,zV 40 42] (zb 40 (za [zL 43 5 3,zV 44 10,zq 45 0 44,zS 5 6 43,zS 3 7 45] zc) (za [zF 47 0 9,zM 48 47,zv 49 48 4,zV 46 49] (zb 46 (za [zL 50 5 3,zl 51 7,zS 5 6 50,zS 3 7 51] zc) k38_4))))) (za [zF 60 4 3,zM 61 60,zF 62 1 9,zM 63 62,zX 64 13 61 63,zF 65 8 64,zM 66 65,zV 12 66] k38_13)
abbrev k38_17:=za [zL 29 5 3,zV 30 1,zF 31 1 5,zL 32 1 31,zp 33 65 29 30 32,zV 28 33,zE 34 28 0,zE 35 28 1,zE 36 28 2,zo 9,zV 8 34,zS 4 9 35,zV 10 36] (za [zK 11 2] (ze (za [zF 37 0 5,zM 38 37,zQ 39 38 10] (zb 39 (.region [zK 11 1]) zd)) k38_15))
abbrev k38_18:=ze (za [zL 13 6 5,zj 14 50 13,zN 15 14,zV 16 15,zP 17 16 0 5,z6 18 16 17,yg 19 16 18 9,zR 20 19 16,zC 21 20 0 5,zJ 22 20 21,zY 23 20 22 10,zH 24 16 20 23,zO 25 16 24] (zb 25 (za [zL 26 5 3,zl 27 1,zS 5 6 26,zS 3 7 27] zc) zd)) k38_17
abbrev c38:=za [zk 3 0,zk 5 2,zf 6,zw 7] k38_18
theorem ok38:Ao Qa 38 c38 104 [.c 6 (some 5),.c 7 (some 3)]=true:=by kernel_rfl
abbrev k44_2:=ze (.drawn [(0,zL 56 5 3),(2,zL 58 5 3),(3,zj 59 76 58),(4,zV 60 8),(5,zi 61 112 59 60),(7,zS 5 6 56),(1,zV 57 11),(6,yZ 62 57 61),(8,zS 3 7 62)] [[],[],[],[2],[],[3,4,3],[1,5],[0,5,0],[6,7,0,1,2,3,4,5,6,7]] 0) zc
abbrev k44_6:=ze (.drawn [(0,zL 84 5 3),(1,zF 85 4 3),(2,zM 86 85),(3,zF 87 1 9),(4,zM 88 87),(5,zF 89 3 5),(6,zM 90 89),(7,zX 91 13 86 88),(8,zF 92 9 91),(9,jo 93 4 92 90),(10,zM 94 93),(12,zS 5 6 84),(11,zq 95 1 94),(13,zS 3 7 95)] [[],[],[1],[],[3],[],[5],[2,4],[7],[8,6],[9],[10],[0,0],[11,12,0,1,2,3,4,5,6,7,8,9,10,11,12]] 0) zc
abbrev k44_8:=za [zV 73 13,zF 74 2 9,zM 75 74,zi 76 80 73 75,zN 77 76,zV 72 77] (zb 72 (za [zL 78 5 3,zl 79 6,zS 5 6 78,zS 3 7 79] zc) (za [zF 81 0 5,zM 82 81,zQ 83 82 12,zV 80 83] (zb 80 k44_6 zd)))
abbrev k44_10:=ze (.drawn [(0,zF 98 4 3),(1,zM 99 98),(2,zF 100 1 9),(3,zM 101 100),(4,zF 102 3 5),(5,zM 103 102),(6,zF 104 5 5),(7,zM 105 104),(8,zX 106 13 99 101),(9,zF 107 9 106),(10,jo 108 4 107 103),(11,zS 1 108 105)] [[],[0],[],[2],[],[4],[],[6],[1,3],[8],[9,5,0,1,2,3,4,5,6,7],[10,7,0,1,2,3,4,5,6,7]] 0) (za [zL 109 5 3,yz 110,zS 5 6 109,zS 3 7 110] zc)
abbrev k44_12:=ze (.block 0 (za [zF 67 0 9,zM 68 67,zv 69 68 5,zV 66 69] (zb 66 (za [zL 70 5 3,zl 71 7,zS 5 6 70,zS 3 7 71] zc) k44_8))) (za [zL 96 5 3,zj 97 16 96,zS 5 3 97] k44_10)
abbrev k44_14:=ze (za [zF 48 0 5,zM 49 48,zQ 50 49 13] (zb 50 (za [zL 52 4 9,zj 53 111 52,zV 51 53,zE 54 51 0,zE 55 51 1,zV 11 54,zV 12 55] k44_2) zd)) (za [zK 13 2] (ze (za [zF 63 0 5,zM 64 63,zQ 65 64 12] (zb 65 (.region [zK 13 1]) zd)) k44_12))
abbrev k44_16:=za [zL 35 5 3,zV 36 1,zF 37 1 5,zL 38 1 37,zp 39 65 35 36 38,zV 34 39,zE 40 34 0,zE 41 34 1,zE 42 34 2,zo 9,zV 8 40,zS 4 9 41,zV 10 42] (ze (za [zV 43 10,zv 44 43 0] (zb 44 (za [zL 45 5 3,zV 46 10,zq 47 0 46,zS 5 6 45,zS 3 7 47] zc) zd)) k44_14)
abbrev k44_17:=ze (za [zL 14 6 5,zj 15 50 14,zN 16 15,zV 17 16,zP 18 17 0 5,z6 19 17 18,yg 20 17 19 11,zR 21 20 17,zC 22 21 0 5,zJ 23 21 22,zY 24 21 23 12,zH 25 17 21 24,zR 26 25 17,zC 27 26 0 5,zJ 28 26 27,zY 29 26 28 13,zH 30 17 26 29,zO 31 17 30] (zb 31 (za [zL 32 5 3,zl 33 1,zS 5 6 32,zS 3 7 33] zc) zd)) k44_16
abbrev c44:=za [zk 3 0,zk 5 2,zf 6,zw 7] k44_17
theorem ok44:Ao Qa 44 c44 111 [.c 6 (some 5),.c 7 (some 3)]=true:=by kernel_rfl
abbrev k51_11:=ze (za [zQ 63 25 9,zV 62 63] (zb 62 zd (.region [zQ 64 25 10,zV 62 64]))) (zb 62 (za [zL 65 5 3,zV 66 1,zL 67 6 5,zp 68 38 65 66 67,zE 69 68 0,zE 70 68 1,zS 5 6 69,zS 3 7 70] zc) zd)
abbrev k51_12:=ze (za [zQ 54 25 7,zV 53 54] (zb 53 zd (.region [zQ 55 25 8,zV 53 55]))) (zb 53 (za [zL 56 5 3,zV 57 1,zL 58 6 5,zp 59 17 56 57 58,zE 60 59 0,zE 61 59 1,zS 5 6 60,zS 3 7 61] zc) k51_11)
abbrev k51_13:=ze (za [zQ 45 25 5,zV 44 45] (zb 44 zd (.region [zQ 46 25 6,zV 44 46]))) (zb 44 (za [zL 47 5 3,zV 48 1,zL 49 6 5,zp 50 120 47 48 49,zE 51 50 0,zE 52 50 1,zS 5 6 51,zS 3 7 52] zc) k51_12)
abbrev k51_14:=ze (za [zQ 35 25 2,zV 34 35] (zb 34 zd (za [zQ 36 25 3,zV 34 36] (zb 34 zd (.region [zQ 37 25 4,zV 34 37]))))) (zb 34 (za [zL 38 5 3,zV 39 1,zL 40 6 5,zp 41 32 38 39 40,zE 42 41 0,zE 43 41 1,zS 5 6 42,zS 3 7 43] zc) k51_13)
abbrev k51_15:AD:= .block 0 (za [zQ 27 25 1,zV 26 27] (zb 26 (za [zL 28 5 3,zV 29 1,zL 30 6 5,zp 31 26 28 29 30,zE 32 31 0,zE 33 31 1,zS 5 6 32,zS 3 7 33] zc) k51_14))
abbrev k51_17:=ze (za [zF 24 0 5,zM 25 24] k51_15) (za [zL 71 5 3,zV 72 1,zL 73 6 5,zp 74 44 71 72 73,zE 75 74 0,zE 76 74 1,zS 5 6 75,zS 3 7 76] zc)
abbrev k51_18:=ze (za [zL 8 5 3,zj 9 15 8,zN 10 9,zV 11 10,zT 12 11 6 5,yw 13 11 50 12,yd 14 11 13,zO 15 11 14,zV 16 15,zT 17 16 5 3,zR 18 1 16,yU 19 16 119 17 18,yd 20 16 19,zO 21 16 20] (zb 21 (za [zL 22 5 3,zl 23 1,zS 5 6 22,zS 3 7 23] zc) zd)) k51_17
abbrev c51:=za [zk 3 0,zk 5 2,zf 6,zw 7] k51_18
theorem ok51:Ao Qa 51 c51 77 [.c 6 (some 5),.c 7 (some 3)]=true:=by kernel_rfl
abbrev k52_4:=ze (.block 0 (za [zL 16 5 3,zj 17 15 16,zN 18 17,zV 15 18] (zb 15 (za [zL 19 5 3,zl 20 1,zS 5 6 19,zS 3 7 20] zc) (za [zV 22 9,zN 23 22,zV 21 23] (zb 21 (za [zL 24 5 3,zl 25 2,zS 5 6 24,zS 3 7 25] zc) zd))))) (za [zL 26 5 3,zV 27 1,zL 28 6 8,zp 29 51 26 27 28,zE 30 29 0,zE 31 29 1,zS 5 6 30,zS 3 7 31] zc)
abbrev c52:=za [zk 3 0,zf 6,zw 7] (za [zV 11 2,zj 12 55 11,zV 10 12,zE 13 10 0,zE 14 10 1,yO 8,zS 6 8 13,zV 9 14] k52_4)
theorem ok52:Ao Qa 52 c52 32 [.c 6 (some 5),.c 7 (some 3)]=true:=by kernel_rfl
abbrev c58:=za [zu 2] (za [zV 3 0,zQ 4 3 12,zV 5 4,zR 6 0 5,yR 7 5 6 13,zO 8 5 7,zV 2 8] zc)
theorem ok58:Ao Qa 58 c58 9 [.t 2]=true:=by kernel_rfl
abbrev k81_4:=ze (.block 0 (za [zV 35 13,zv 36 35 0,zV 34 36] (zb 34 (za [zL 37 5 4,zV 38 13,zq 39 0 38,zS 5 8 37,zS 3 9 39] zc) (za [zF 41 0 12,zM 42 41,zQ 43 42 1,zV 40 43] (zb 40 (za [zL 44 5 4,zl 45 7,zS 5 8 44,zS 3 9 45] zc) zd))))) (.region [zV 46 11,zh 47 46,zV 10 47])
abbrev k81_5:=za [zL 26 5 4,zV 27 1,zF 28 2 6,zL 29 1 28,zp 30 65 26 27 29,zV 25 30,zE 31 25 0,zE 32 25 1,zE 33 25 2,zo 12,zV 11 31,zS 4 12 32,zV 13 33] k81_4
abbrev k81_6:=ze (za [zF 19 2 7,zM 20 19,W1 21 (.call 80 [(zI 4),(.t 20)]),zN 22 21] (zb 22 (za [zL 23 5 4,zl 24 6,zS 5 8 23,zS 3 9 24] zc) zd)) k81_5
abbrev k81_9:=za [zF 59 4 4,zM 60 59,zF 61 1 7,zM 62 61,zF 63 5 6,zM 64 63,zF 65 3 7,zM 66 65,zV 67 10,W1 68 (.build [.int .i64 0,.int .i64 0,.int .i64 0,.int .i64 0,.int .i64 0,.int .i64 0,.int .i64 0,.bool false,.int .u64 0,.int .u64 0,.int .u64 0,.int .u64 0,.int .u64 0] [(0,1,(zI 3)),(7,1,(.c (.bool true))),(8,1,(.t 64)),(6,1,(.t 66)),(5,1,(.t 67))]),zX 69 13 60 62,zS 13 69 68] (za [zL 70 5 4,yz 71,zS 5 8 70,zS 3 9 71] zc)
abbrev k81_11:=ze (za [zF 48 4 4,zM 49 48,zF 50 1 7,zM 51 50,zX 52 13 49 51,zF 53 7 52,zM 54 53] (zb 54 (za [zL 55 5 4,zl 56 13,zS 5 8 55,zS 3 9 56] zc) zd)) (za [zL 57 5 4,zj 58 16 57,zS 5 4 58] k81_9)
abbrev c81:=za [zk 4 0,zk 6 2,zk 7 3,zf 8,zw 9] (za [zK 10 0] (ze (za [zF 14 2 6,zF 15 0 14,zM 16 15,zn 17 16,yC 18 17 0] (zb 18 k81_6 zd)) k81_11))
theorem ok81:Ao Qa 81 c81 72 [.c 8 (some 5),.c 9 (some 3)]=true:=by kernel_rfl
abbrev k82_4:=ze (.drawn [(0,zL 51 5 4),(1,zF 52 5 10),(2,zM 53 52),(5,zF 56 3 4),(6,zM 57 56),(7,zF 58 5 10),(8,zM 59 58),(9,yY 60 59),(10,zX 61 5 57 60),(11,zF 62 0 61),(12,zL 63 4 62),(3,yY 54 53),(4,zV 55 12),(13,yP 64 149 51 54 55 63),(14,zV 50 64),(15,zE 65 50 0),(17,zS 5 11 65),(16,zE 66 50 1),(18,zV 13 66)] [[],[],[1],[2],[],[],[5],[],[7],[8],[6,9],[10],[11],[0,3,4,12],[13],[14],[14],[15,13,0,1,2,3,4,5,6,7,8,9,10,11,12,13,14,15],[16,17,0,1,2,3,4,5,6,7,8,9,10,11,12,13,14,15,16,17]] 0) (za [zV 67 13,zv 68 67 0] (zb 68 (za [zL 69 5 4,zV 70 13,zq 71 0 70,zS 5 8 69,zS 3 9 71] zc) zd))
abbrev k82_6:=za [zL 38 5 4,zV 39 1,zF 40 2 6,zL 41 1 40,zp 42 148 38 39 41,zV 37 42,zE 43 37 0,zE 44 37 1,zV 12 43,zV 13 44] (ze (za [zV 45 13,zv 46 45 0] (zb 46 (za [zL 47 5 4,zV 48 13,zq 49 0 48,zS 5 8 47,zS 3 9 49] zc) zd)) k82_4)
abbrev k82_7:=ze (.drawn [(0,zL 78 5 11),(1,zF 79 8 10),(2,zM 80 79),(3,zF 81 6 10),(4,zM 82 81),(6,zS 5 8 78),(5,yZ 83 80 82),(7,zS 3 9 83)] [[],[],[1],[],[3],[2,4],[0,0],[5,6,0,1,2,3,4,5,6]] 0) zc
abbrev k82_8:=za [zF 72 4 11,zM 73 72,zF 74 1 7,zM 75 74,W1 76 (.build [.int .i64 0,.int .i64 0,.int .i64 0,.int .i64 0,.int .i64 0,.int .i64 0,.int .i64 0,.bool false,.int .u64 0,.int .u64 0,.int .u64 0,.int .u64 0,.int .u64 0] [(0,1,(zI 3))]),zX 77 13 73 75,zS 13 77 76] k82_7
abbrev k82_9:=ze (za [zF 27 2 6,zF 28 0 27,zM 29 28,zn 30 29,yC 31 30 0,zV 32 31,zC 33 32 5 10,zJ 34 32 33,W2 35 32 true (.bin .gtr (.t 34) (zI 0)),zA 36 32 35] (zb 36 k82_6 zd)) k82_8
abbrev k82_11:=ze (za [zF 20 7 10,zM 21 20,zN 22 21] (zb 22 (za [zL 23 5 4,zl 24 14,zS 5 8 23,zS 3 9 24] zc) zd)) (za [zL 25 5 4,zj 26 16 25,zf 11,zS 5 11 26] k82_9)
abbrev c82:=za [zk 4 0,zk 6 2,zk 7 3,zf 8,zw 9] (za [zF 14 4 4,zM 15 14,zF 16 1 7,zM 17 16,zX 18 13 15 17,zL 19 13 18,zg 10,zS 13 10 19] k82_11)
theorem ok82:Ao Qa 82 c82 84 [.c 8 (some 5),.c 9 (some 3)]=true:=by kernel_rfl
abbrev k100_4:=za [zF 47 2 10,zM 48 47,W1 49 (.call 80 [(zI 2),(.t 48)]),zN 50 49,zV 46 50] (zb 46 (za [zL 51 5 3,zS 5 6 51,zK 7 0,zK 8 6] zc) zd)
abbrev k100_11:=za [zF 132 3 3,zM 133 132,zV 134 12,zF 135 3 5,zM 136 135,zV 137 16,W1 138 (.build [.int .i64 0,.int .i64 0,.int .i64 0,.int .i64 0] [(0,1,(.t 136)),(1,1,(.t 137)),(2,1,(zI 7))]),zV 139 9,yh 140 138 139,zX 141 5 133 134,zS 5 141 140] (za [zL 142 5 3,zV 143 16,zS 5 6 142,zV 7 143,zK 8 0] zc)
abbrev k100_13:=ze (.drawn [(0,zF 113 4 3),(1,zM 114 113),(3,zF 116 3 5),(4,zM 117 116),(5,zF 118 4 5),(6,zM 119 118),(7,zV 120 17),(8,zp 121 128 117 119 120),(2,zV 115 16),(9,zV 112 121),(10,zE 122 112 0),(12,zX 124 13 114 115),(13,zS 13 124 122),(11,zE 123 112 1)] [[],[0],[],[],[3],[],[5],[],[4,6,7],[8],[9],[9],[1,2,0,1,2,3,4,5,6,7,8,9,10],[12,10,8,0,1,2,3,4,5,6,7,8,9,10]] 0) (za [zF 125 4 3,zM 126 125,zF 127 1 10,zM 128 127,zV 129 15,zX 130 13 126 128,zF 131 4 130,zS 1 131 129] k100_11)
abbrev k100_15:=ze (za [zV 92 15,zF 93 4 3,zM 94 93,zF 95 1 10,zM 96 95,zX 97 13 94 96,zF 98 3 97,zM 99 98,W1 100 (.bin .gtr (.t 92) (.t 99)),zV 101 100,zR 102 14 101,yd 103 101 102,zO 104 101 103,zV 105 104,zR 106 16 105,yf 107 105 106 0,zO 108 105 107] (zb 108 (za [zL 109 5 3,zS 5 6 109,zK 7 0,zK 8 8] zc) zd)) (za [zL 110 5 3,zj 111 16 110,zS 5 3 111] k100_13)
abbrev k100_16:=ze (za [zF 82 3 5,zM 83 82,zQ 84 83 2] (zb 84 (.region [zL 86 5 3,zF 87 4 5,zM 88 87,zi 89 180 86 88,zV 85 89,zE 90 85 0,zE 91 85 1,zV 17 90,zV 14 91]) zd)) k100_15
abbrev k100_18:=za [zL 75 5 3,zV 76 9,zi 77 178 75 76,zV 78 13,yc 79 77 78,zV 15 79] (za [zL 80 5 3,zj 81 179 80,zV 16 81] (za [zK 17 0] k100_16))
abbrev k100_20:=za [zF 65 3 5,zM 66 65,zF 67 4 5,zM 68 67,zi 69 177 66 68,zV 64 69,zE 70 64 0,zE 71 64 1,zV 13 70,zV 14 71] (ze (za [zV 72 14,zN 73 72] (zb 73 (za [zL 74 5 3,zS 5 6 74,zK 7 0,zK 8 1] zc) zd)) k100_18)
abbrev k100_22:=za [zL 53 5 3,zV 54 1,zF 55 2 5,zL 56 1 55,zp 57 148 53 54 56,zV 52 57,zE 58 52 0,zE 59 52 1,zV 12 58,zV 11 59] (ze (za [zV 60 11,zv 61 60 0] (zb 61 (za [zL 62 5 3,zV 63 11,zS 5 6 62,zK 7 0,zV 8 63] zc) zd)) k100_20)
abbrev k100_23:=ze (.block 0 (za [zV 37 11,zv 38 37 0,zV 36 38] (zb 36 (za [zL 39 5 3,zV 40 11,zS 5 6 39,zK 7 0,zV 8 40] zc) (za [zF 42 0 10,zM 43 42,zv 44 43 1,zV 41 44] (zb 41 (za [zL 45 5 3,zS 5 6 45,zK 7 0,zK 8 7] zc) k100_4))))) k100_22
abbrev k100_24:=za [zL 28 5 3,zV 29 1,zF 30 1 5,zL 31 1 30,zp 32 65 28 29 31,zV 27 32,zE 33 27 0,zE 34 27 1,zE 35 27 2,zo 10,zV 9 33,zS 4 10 34,zV 11 35] k100_23
abbrev k100_25:=ze (za [zL 18 6 5,zj 19 50 18,zN 20 19,zV 21 20,zP 22 21 0 5,z6 23 21 22,yg 24 21 23 1,zO 25 21 24] (zb 25 (za [zL 26 5 3,zS 5 6 26,zK 7 0,zK 8 1] zc) zd)) k100_24
abbrev c100:=za [zk 3 0,zk 5 2,zf 6,zK 7 0,zK 8 0] k100_25
theorem ok100:Ao Qa 100 c100 144 [.c 6 (some 5),.t 7,.t 8]=true:=by kernel_rfl
abbrev k104_5:=za [zL 55 4 9,zF 56 4 5,zM 57 56,zi 58 182 55 57,zV 54 58,zE 59 54 0,zE 60 54 1,zS 4 9 59,zV 10 60] (za [zV 61 10,zv 62 61 0] (zb 62 (za [zL 63 5 3,zV 64 10,zS 5 6 63,zV 7 64] zc) zd))
abbrev k104_10:=ze (za [zL 87 5 3,zL 88 4 9,zV 89 11,zp 90 183 87 88 89] (zb 90 (za [zL 91 5 3,zS 5 6 91,zK 7 1] zc) zd)) (za [zL 92 5 3,zV 93 8,zV 94 11,zp 95 184 92 93 94,zS 5 6 95,zK 7 0] zc)
abbrev k104_11:=ze (za [zF 77 0 5,zM 78 77,zv 79 78 4] (zb 79 (za [zL 80 5 3,zV 81 8,zV 82 11,zL 83 4 9,yP 84 149 80 81 82 83,zE 85 84 0,zE 86 84 1,zS 5 6 85,zV 7 86] zc) zd)) k104_10
abbrev k104_13:=za [zL 66 5 3,zV 67 1,zF 68 2 5,zL 69 1 68,zp 70 148 66 67 69,zV 65 70,zE 71 65 0,zE 72 65 1,zV 11 71,zV 10 72] (ze (za [zV 73 10,zv 74 73 0] (zb 74 (za [zL 75 5 3,zV 76 10,zS 5 6 75,zV 7 76] zc) zd)) k104_11)
abbrev k104_15:=ze (za [zF 44 0 5,zM 45 44,zv 46 45 4] (zb 46 (.region [zL 47 4 9,zF 48 3 5,zM 49 48,zi 50 181 47 49,zS 4 9 50]) zd)) (ze (za [zF 51 0 5,zM 52 51,zQ 53 52 3] (zb 53 k104_5 zd)) k104_13)
abbrev k104_17:=za [zL 32 5 3,zV 33 1,zF 34 1 5,zL 35 1 34,zp 36 65 32 33 35,zV 31 36,zE 37 31 0,zE 38 31 1,zE 39 31 2,zo 9,zV 8 37,zS 4 9 38,zV 10 39] (ze (za [zV 40 10,zv 41 40 0] (zb 41 (za [zL 42 5 3,zV 43 10,zS 5 6 42,zV 7 43] zc) zd)) k104_15)
abbrev k104_18:=ze (za [zL 12 6 5,zj 13 50 12,zN 14 13,zV 15 14,zP 16 15 0 5,z6 17 15 16,yg 18 15 17 2,zR 19 18 15,zC 20 19 0 5,zJ 21 19 20,zY 22 19 21 3,zH 23 15 19 22,zR 24 23 15,zC 25 24 0 5,zJ 26 24 25,zY 27 24 26 4,zH 28 15 24 27,zO 29 15 28] (zb 29 (za [zL 30 5 3,zS 5 6 30,zK 7 1] zc) zd)) k104_17
abbrev c104:=za [zk 3 0,zk 5 2,zf 6,zK 7 0] k104_18
theorem ok104:Ao Qa 104 c104 96 [.c 6 (some 5),.t 7]=true:=by kernel_rfl
abbrev c119:=za [zk 2 0,zu 4] (za [zV 5 1,z2 6 5 0,zV 7 6,zZ 8 1 7,zC 9 7 0 2,zC 10 7 0 9,zJ 11 7 10,yA 12 7 8 11,zA 13 7 12,zV 4 13] zc)
theorem ok119:Ao Qa 119 c119 14 [.t 4]=true:=by kernel_rfl
abbrev k120_4:=za [zL 52 5 3,zV 53 11,zi 54 197 52 53,zV 51 54,zE 55 51 0,zE 56 51 1,zS 5 3 55,zV 12 56] (za [zL 57 5 3,zV 58 12,zq 59 2 58,zS 5 6 57,zS 3 7 59] zc)
abbrev k120_5:=ze (za [zF 44 0 5,zM 45 44,zQ 46 45 6] (zb 46 (.region [zL 47 5 3,zj 48 76 47,zV 49 8,zi 50 196 48 49,zV 11 50]) zd)) k120_4
abbrev k120_7:=ze (za [zV 37 10,zv 38 37 0] (zb 38 (za [zL 39 5 3,zV 40 10,zq 41 0 40,zS 5 6 39,zS 3 7 41] zc) zd)) (za [zV 42 8,yb 43 42,zV 11 43] k120_5)
abbrev k120_8:=za [zL 29 5 3,zV 30 1,zF 31 1 5,zL 32 1 31,zp 33 65 29 30 32,zV 28 33,zE 34 28 0,zE 35 28 1,zE 36 28 2,zo 9,zV 8 34,zS 4 9 35,zV 10 36] k120_7
abbrev k120_9:=ze (za [zL 13 6 5,zj 14 50 13,zN 15 14,zV 16 15,zP 17 16 0 5,z6 18 16 17,yg 19 16 18 5,zR 20 19 16,zC 21 20 0 5,zJ 22 20 21,zY 23 20 22 6,zH 24 16 20 23,zO 25 16 24] (zb 25 (za [zL 26 5 3,zl 27 1,zS 5 6 26,zS 3 7 27] zc) zd)) k120_8
abbrev c120:=za [zk 3 0,zk 5 2,zf 6,zw 7] k120_9
theorem ok120:Ao Qa 120 c120 60 [.c 6 (some 5),.c 7 (some 3)]=true:=by kernel_rfl
abbrev k149_1:=za [zV 18 1,z8 19 18 0,zV 20 19,zR 21 1 20,zR 22 10 20,ye 23 20 21 22,zO 24 20 23,zV 25 24,zR 26 2 25,yf 27 25 26 0,zO 28 25 27,zV 29 28,zR 30 2 29,zR 31 10 29,ye 32 29 30 31,zO 33 29 32,zV 34 33,zT 35 34 4 7,yw 36 34 141 35,yd 37 34 36,zO 38 34 37,zV 39 38,zT 40 39 4 7,yw 41 39 59 40,zO 42 39 41,zV 14 42] (zb 14 zd (.region [zL 43 5 4,zV 44 2,zi 45 215 43 44,z8 46 45 0,zV 14 46]))
abbrev k149_8:=ze (ze (.drawn [(0,zL 78 4 7),(1,zF 79 3 4),(2,zM 80 79),(3,zV 81 1),(4,zX 82 5 80 81),(5,zF 83 0 82),(6,zL 84 4 83),(7,zi 85 67 78 84),(8,zN 86 85),(9,zV 77 86)] [[],[],[1],[],[2,3],[4],[5],[0,6],[7],[8,7]] 0) (zb 77 zd (.region [zL 87 5 4,zL 88 4 7,zV 89 2,zp 90 183 87 88 89,zV 77 90]))) (zb 77 (za [zL 91 5 4,zS 5 8 91,zK 9 1] zc) zd)
abbrev k149_9:=za [zF 68 3 4,zM 69 68,zV 70 1,zX 71 5 69 70,zF 72 0 71,zF 73 0 72,zM 74 73,zQ 75 74 1,zV 67 75] (zb 67 (za [zL 76 5 4,zS 5 8 76,zK 9 7] zc) k149_8)
abbrev k149_10:=za [zF 58 3 4,zM 59 58,zV 60 2,zX 61 5 59 60,zF 62 0 61,zL 63 4 62,zj 64 59 63,zN 65 64,zV 57 65] (zb 57 (za [zL 66 5 4,zS 5 8 66,zK 9 5] zc) k149_9)
abbrev k149_11:=za [zF 49 3 4,zM 50 49,zV 51 1,zX 52 5 50 51,zF 53 0 52,zL 54 4 53,zj 55 59 54,zV 48 55] (zb 48 (za [zL 56 5 4,zS 5 8 56,zK 9 4] zc) k149_10)
abbrev k149_13:=za [zF 94 3 4,zM 95 94,zV 96 2,zL 97 4 7,zV 98 1,yh 99 97 98,zX 100 5 95 96,zS 5 100 99] (za [zL 101 5 4,zS 5 8 101,zK 9 0] zc)
abbrev k149_15:=ze (.block 0 (ze (za [zL 15 5 4,zj 16 15 15,zN 17 16,zV 14 17] (zb 14 zd k149_1)) (zb 14 (za [zL 47 5 4,zS 5 8 47,zK 9 1] zc) k149_11))) (za [zL 92 5 4,zj 93 16 92,zS 5 4 93] k149_13)
abbrev c149:=za [zk 4 0,zk 7 3,zf 8,zK 9 0] (za [zF 11 3 4,zM 12 11,zn 13 12,zV 10 13] k149_15)
theorem ok149:Ao Qa 149 c149 102 [.c 8 (some 5),.t 9]=true:=by kernel_rfl
abbrev k178_2:=ze (.drawn [(0,zF 35 4 2),(1,zM 36 35),(2,zF 37 3 2),(3,zM 38 37),(4,zV 39 1),(5,zX 40 5 38 39),(6,zF 41 0 40),(7,zF 42 1 41),(8,zM 43 42),(9,zX 44 13 36 43),(10,zF 45 4 44),(11,zM 46 45),(12,zV 4 46)] [[],[0],[],[2],[],[3,4],[5],[6],[7],[1,8],[9],[10],[11,0,1,2,3,4,5,6,7,8,9,10,11]] 0) zc
abbrev k178_4:=ze (za [zL 5 5 2,zj 6 15 5,zN 7 6,zV 8 7,zR 9 1 8,yf 10 8 9 0,zO 11 8 10,zV 12 11,zR 13 1 12,zP 14 12 3 2,z6 15 12 14,z7 16 12 15,ye 17 12 13 16,zO 18 12 17,zV 19 18,zP 20 19 3 2,z6 21 19 20,zR 22 1 19,yq 23 19 5 21 22,zP 24 19 0 23,zP 25 19 0 24,z6 26 19 25,yg 27 19 26 1,zO 28 19 27] (zb 28 (za [zK 4 0] zc) zd)) (ze (za [zL 29 5 2,zj 30 76 29,zV 31 1,zi 32 221 30 31,zn 33 32,zQ 34 33 0] (zb 34 (za [zK 4 0] zc) zd)) k178_2)
abbrev c178:=za [zk 2 0,zK 4 0] k178_4
theorem ok178:Ao Qa 178 c178 47 [.t 4]=true:=by kernel_rfl
abbrev k183_0:=za [zF 7 0 4,zM 8 7,zQ 9 8 2,zV 10 9,zx 11 10 5 3,zC 12 10 1 4,zJ 13 10 12,zZ 14 2 10,ju 15 10 225 11 13 14,zA 16 10 15,zV 6 16] zc
abbrev c183:=za [zk 3 0,zk 4 1,zu 6] k183_0
theorem ok183:Ao Qa 183 c183 17 [.t 6]=true:=by kernel_rfl
abbrev k184_0:AD:= .region [zF 47 3 3,zM 48 47,zV 49 9,zV 50 10,W1 51 (.WB true [(.t 50),(zI (-1))]),zX 52 5 48 49,zF 53 4 52,zS 1 53 51]
def b184_2:=za [zm 43 42 41] (ze (zb 43 zd (.exit 0)) (ze (.block 1 (za [zV 44 42,zX 45 1 40 42,zM 46 45,zV 9 44,zV 10 46] k184_0)) (.region [zh 54 42,zV 42 54])))
abbrev k184_4:=za [zF 61 4 3,zM 62 61,zV 63 11,zX 64 13 62 63,zF 65 5 64,zM 66 65,zV 67 1,zh 68 67,yo 69 66 68] (zb 69 (.region [zF 70 4 3,zM 71 70,zV 72 11,zV 73 2,zh 74 73,zX 75 13 71 72,zF 76 5 75,zS 1 76 74]) zd)
def b184_6:=za [zm 59 58 57] (ze (zb 59 zd (.exit 2)) (ze (.block 3 (za [zV 60 58,zV 11 60] k184_4)) (.region [zh 77 58,zV 58 77])))
abbrev k184_8:=ze (za [zF 39 0 7,zM 40 39,zn 41 40,zK 42 0] (.block 0 (.loop b184_2))) (ze (za [zF 55 4 3,zM 56 55,zn 57 56,zK 58 0] (.block 2 (.loop b184_6))) (za [zL 78 5 3,zS 5 6 78] zc))
abbrev k184_9:=ze (.drawn [(0,zF 22 3 3),(1,zM 23 22),(3,zF 25 3 3),(4,zM 26 25),(6,zF 28 3 3),(7,zM 29 28),(8,zV 30 1),(9,zX 31 5 29 30),(10,zF 32 0 31),(11,zL 33 4 32),(2,zV 24 2),(13,zX 35 5 23 24),(14,zF 36 0 35),(15,zS 4 36 33),(5,zV 27 1),(12,zy 34),(16,zX 37 5 26 27),(17,zF 38 0 37),(18,zS 4 38 34)] [[],[0],[],[],[3],[],[],[6],[],[7,8],[9],[10],[],[1,2,0,1,2,6,7,8,9,10,11],[13,0,1,2,6,7,8,9,10,11],[14,11,0,1,2,6,7,8,9,10,11],[4,5,0,1,2,3,4,5,6,7,8,9,10,11,12,13,14,15],[16,0,1,2,3,4,5,6,7,8,9,10,11,12,13,14,15],[17,12,15,0,1,2,3,4,5,6,7,8,9,10,11,12,13,14,15]] 0) k184_8
abbrev k184_11:=za [zL 13 5 3,zj 14 76 13,zV 15 1,zV 16 2,zp 17 226 14 15 16,zV 12 17,zE 18 12 0,zE 19 12 1,yj 7,zS 1 7 18,zV 8 19] (za [zL 20 5 3,zj 21 16 20,zS 5 3 21] k184_9)
abbrev c184:=za [zk 3 0,zf 6] k184_11
theorem ok184:Ao Qa 184 c184 79 [.c 6 (some 5)]=true:=by kernel_rfl
abbrev k197_3:=ze (.block 1 (za [zX 23 1 19 21,zM 24 23,zV 8 24] (za [zL 25 5 2,zV 26 8,zi 27 236 25 26] (zb 27 (.region [zV 28 6,zh 29 28,zV 6 29]) zd)))) (.region [zh 30 21,zV 21 30])
def b197_4:=za [zm 22 21 20] (ze (zb 22 zd (.exit 0)) k197_3)
abbrev k197_7:=za [zL 39 5 2,zV 40 10,zi 41 237 39 40,zV 38 41,zE 42 38 0,zE 43 38 1,zV 11 42,zV 12 43] (za [zV 44 6,zV 45 11,yc 46 44 45,zV 6 46] (.region [zV 47 12,zV 48 47,zR 49 9 48,zO 50 48 49,zV 9 50]))
def b197_9:=za [zm 36 35 34] (ze (zb 36 zd (.exit 4)) (ze (.block 5 (za [zV 37 35,zV 10 37] k197_7)) (.region [zh 51 35,zV 35 51])))
def b197_11:=ze (za [zV 31 9] (zb 31 zd (.exit 2))) (.block 3 (za [zu 9] (za [zF 32 4 2,zM 33 32,zn 34 33,zK 35 0] (.block 4 (.loop b197_9)))))
abbrev k197_14:=ze (za [zV 19 1,zn 20 19,zK 21 0] (.block 0 (.loop b197_4))) (ze (za [yy 9] (.block 2 (.loop b197_11))) (za [zL 52 5 2,zV 53 6,zS 5 4 52,zV 5 53] zc))
abbrev k197_16:=za [zL 13 5 2,zj 14 16 13,zS 5 2 14] (ze (za [zL 15 5 2,zj 16 15 15,zN 17 16] (zb 17 (za [zL 18 5 2,zS 5 4 18,zK 5 0] zc) zd)) (za [zK 6 0] k197_14))
abbrev c197:=za [zk 2 0,zf 4,zK 5 0] k197_16
theorem ok197:Ao Qa 197 c197 54 [.c 4 (some 5),.t 5]=true:=by kernel_rfl
abbrev k236_1:AD:= .drawn [(0,zF 39 3 2),(1,zM 40 39),(3,zF 42 3 2),(4,zM 43 42),(5,zV 44 1),(6,zX 45 5 43 44),(7,zF 46 4 45),(8,zM 47 46),(2,zV 41 5),(9,zX 48 5 40 41),(10,zF 49 4 48),(11,zS 1 49 47)] [[],[0],[],[],[3],[],[4,5],[6],[7],[1,2,0,1,2,3,4,5,6,7,8],[9,0,1,2,3,4,5,6,7,8],[10,8,0,1,2,3,4,5,6,7,8]] 0
abbrev k236_3:=ze (.block 1 (za [zV 30 28,zV 5 30] (za [zF 31 3 2,zM 32 31,zV 33 5,zX 34 5 32 33,zF 35 4 34,zM 36 35,zV 37 1,yo 38 36 37] (zb 38 k236_1 zd)))) (.region [zh 50 28,zV 28 50])
def b236_4:=za [zm 29 28 27] (ze (zb 29 zd (.exit 0)) k236_3)
abbrev k236_6:=za [zF 62 4 2,zM 63 62,zV 64 6,zX 65 13 63 64,zF 66 5 65,zM 67 66,zV 68 1,zh 69 68,yo 70 67 69] (zb 70 (.region [zF 71 4 2,zM 72 71,zV 73 6,zX 74 13 72 73,zF 75 5 74,yJ 75 0]) zd)
def b236_8:=za [zm 60 59 58] (ze (zb 60 zd (.exit 2)) (ze (.block 3 (za [zV 61 59,zV 6 61] k236_6)) (.region [zh 76 59,zV 59 76])))
abbrev k236_10:=za [zF 51 3 2,zM 52 51,zV 53 1,W1 54 (.build [.int .i64 0,.int .i64 0,.int .i64 0,.int .i64 0,.int .i64 0] [(4,1,(zI (-1)))]),zX 55 5 52 53,zS 5 55 54] (ze (za [zF 56 4 2,zM 57 56,zn 58 57,zK 59 0] (.block 2 (.loop b236_8))) (za [yy 4] zc))
abbrev k236_12:=ze (za [zV 7 1,z8 8 7 0,zV 9 8,zR 10 1 9,zP 11 9 3 2,z6 12 9 11,z7 13 9 12,ye 14 9 10 13,zO 15 9 14,zV 16 15,zP 17 16 3 2,z6 18 16 17,zR 19 1 16,yq 20 16 5 18 19,zP 21 16 0 20,zT 22 16 4 21,yw 23 16 59 22,zO 24 16 23] (zb 24 (za [zu 4] zc) zd)) (ze (za [zF 25 3 2,zM 26 25,zn 27 26,zK 28 0] (.block 0 (.loop b236_4))) k236_10)
abbrev c236:=za [zk 2 0,zu 4] k236_12
theorem ok236:Ao Qa 236 c236 77 [.t 4]=true:=by kernel_rfl
abbrev k237_2:=za [zF 42 0 6,zM 43 42,zQ 44 43 2,zV 45 44,zx 46 45 5 2,zC 47 45 2 6,zJ 48 45 47,zZ 49 9 45,jr 50 45 48 49,zW 51 45 236 46 50,zA 52 45 51] (zb 52 (.region [zV 53 8,zh 54 53,zV 8 54]) zd)
def b237_4:=za [zm 40 39 38] (ze (zb 40 zd (.exit 0)) (ze (.block 1 (za [zV 41 39,zV 9 41] k237_2)) (.region [zh 55 39,zV 39 55])))
abbrev k237_7:=ze (za [zF 36 1 6,zM 37 36,yK 38 37,zK 39 0] (.block 0 (.loop b237_4))) (za [zF 56 4 2,zM 57 56,zV 58 1,zr 59,zX 60 13 57 58,zS 13 60 59] (za [zV 61 8,zV 4 61,yy 5] zc))
abbrev k237_8:=ze (za [zF 25 0 6,zM 26 25,zQ 27 26 0,zV 28 27,zR 29 7 28,zO 30 28 29,zV 31 30,zT 32 31 5 2,zR 33 1 31,yU 34 31 262 32 33,zO 35 31 34] (zb 35 (za [zK 4 0,zu 5] zc) zd)) (za [zK 8 0] k237_7)
abbrev k237_9:=za [zV 15 1,z2 16 15 2,zV 17 16,zZ 18 1 17,zC 19 17 0 2,zC 20 17 0 19,zJ 21 17 20,W2 22 17 true (.bin .add (zI 2) (.t 21)),yA 23 17 18 22,zA 24 17 23,zV 7 24] k237_8
abbrev c237:=za [zk 2 0,zK 4 0,zu 5] (za [zF 10 4 2,zM 11 10,zV 12 1,zX 13 13 11 12,zL 14 13 13,zg 6,zS 13 6 14] k237_9)
theorem ok237:Ao Qa 237 c237 62 [.t 4,.t 5]=true:=by kernel_rfl
abbrev c262:=za [zk 2 0,zk 3 1,zu 4] (za [zF 5 3 2,zM 6 5,W1 7 (.YY 272 [(.t 3)]),zi 8 271 6 7,zV 4 8] zc)
theorem ok262:Ao Qa 262 c262 9 [.t 4]=true:=by kernel_rfl
abbrev k272_0:=za [zF 4 0 2,zL 5 4 4,zj 6 59 5,zN 7 6,zV 8 7,zC 9 8 0 2,zC 10 8 1 9,zJ 11 8 10,zJ 12 8 1,yS 13 8 11 12,zA 14 8 13,zV 3 14] zc
abbrev c272:=za [zk 2 0,zu 3] k272_0
theorem ok272:Ao Qa 272 c272 15 [.t 3]=true:=by kernel_rfl
abbrev k12_5:AD:= .drawn [(0,zV 150 16),(1,zV 151 150),(2,zT 152 151 4 15),(3,zP 153 151 3 3),(4,z6 154 151 153),(5,zR 155 12 151),(6,zR 156 17 151),(7,yq 157 151 1 155 156),(8,z6 158 151 157),(9,yq 159 151 5 154 158),(10,zP 160 151 0 159),(11,zT 161 151 4 160),(12,yU 162 151 67 152 161),(13,zO 163 151 162),(14,zV 16 163)] [[],[0],[1],[1],[3,1],[1],[1],[5,6,1],[7,1],[4,8,1],[9,1],[10,1],[2,11,1,1],[1,12],[13,12,0,1,2,3,4,5,6,7,8,9,10,11,12,13]] 0
abbrev k12_6:=ze (.block 3 (ze (ze (.drawn [(0,zV 135 12),(1,zV 136 17),(2,zX 137 1 135 136),(3,zM 138 137),(4,z8 139 138 0),(5,zV 140 139),(6,zR 141 12 140),(7,zR 142 17 140),(8,yq 143 140 1 141 142),(9,z6 144 140 143),(10,zP 145 140 3 3),(11,z6 146 140 145),(12,z7 147 140 146),(13,ye 148 140 144 147),(14,zO 149 140 148)] [[],[],[0,1],[2],[3],[4],[5],[5],[6,7,5],[8,5],[5],[10,5],[11,5],[9,12,5],[5,13]] 0) (zb 149 (za [zu 6] zc) zd)) k12_5)) (.region [zV 133 17,zh 134 133,zV 17 134])
def b12_7:=ze (za [zV 129 17,zV 130 12,zn 131 130,zm 132 129 131] (zb 132 zd (.exit 2))) k12_6
abbrev k12_10:=ze (za [zL 108 4 15,zj 109 59 108,zV 110 109,zP 111 110 0 5,z6 112 110 111,yR 113 110 112 1,zR 114 113 110,zC 115 114 1 15,zJ 116 114 115,zC 117 114 2 8,zJ 118 114 117,yS 119 114 116 118,zH 120 110 114 119,zR 121 120 110,zC 122 121 0 15,zJ 123 121 122,zC 124 121 3 5,zJ 125 121 124,yS 126 121 123 125,zH 127 110 121 126,zO 128 110 127] (zb 128 (.exit 1) zd)) (za [zu 16] (ze (za [zK 17 0] (.block 2 (.loop b12_7))) (za [zV 164 16,zN 165 164] (zb 165 (za [zu 6] zc) zd))))
abbrev k12_11:=ze (.drawn [(0,zF 99 3 7),(1,zM 100 99),(2,zV 101 13),(3,zV 102 14),(4,zX 103 1 101 102),(5,zM 104 103),(6,zX 105 5 100 104),(7,zF 106 0 105),(8,zL 107 4 106),(9,W1 15 (.born 0 (.new [.int .i64 0,.int .i64 0,.int .i64 0,.int .i64 0]))),(10,zS 4 15 107)] [[],[0],[],[],[2,3],[4],[1,5],[6],[7],[],[9,8,0,1,2,3,4,5,6,7,8,9]] 1) k12_10
abbrev k12_12:=ze (.block 1 (ze (ze (.drawn [(0,zV 84 13),(1,zV 85 14),(2,zX 86 1 84 85),(3,zM 87 86),(4,z8 88 87 0),(5,zV 89 88),(6,zR 90 13 89),(7,zR 91 14 89),(8,yq 92 89 1 90 91),(9,z6 93 89 92),(10,zP 94 89 3 7),(11,z6 95 89 94),(12,z7 96 89 95),(13,ye 97 89 93 96),(14,zO 98 89 97)] [[],[],[0,1],[2],[3],[4],[5],[5],[6,7,5],[8,5],[5],[10,5],[11,5],[9,12,5],[5,13]] 0) (zb 98 (za [zu 6] zc) zd)) k12_11)) (.region [zV 82 14,zh 83 82,zV 14 83])
def b12_13:=ze (za [zV 78 14,zV 79 13,zn 80 79,zm 81 78 80] (zb 81 zd (.exit 0))) k12_12
abbrev k12_15:=ze (.drawn [(0,zL 72 5 3),(3,zL 75 5 7),(1,zV 73 1),(2,zi 74 66 72 73),(4,zV 76 1),(5,zi 77 66 75 76),(6,zV 12 74),(7,zV 13 77)] [[],[],[0,1],[],[],[3,4,2],[2,5,0,1,2],[5,6,0,1,2,3,4,5,6]] 0) (ze (za [zK 14 0] (.block 0 (.loop b12_13))) (za [yy 6] zc))
abbrev k12_16:=ze (za [zF 55 0 8,zM 56 55,zv 57 56 0,zV 58 57,zP 59 58 0 5,z6 60 58 59,yR 61 58 60 8,zO 62 58 61,zV 63 62,zR 64 11 63,yg 65 63 64 0,zO 66 63 65,zV 67 66,zP 68 67 0 10,z6 69 67 68,yR 70 67 69 2,zO 71 67 70] (zb 71 (za [yy 6] zc) zd)) k12_15
abbrev k12_17:=za [zL 47 5 3,zV 48 1,zF 49 1 5,zL 50 1 49,zp 51 65 47 48 50,zV 46 51,zE 52 46 0,zE 53 46 1,zE 54 46 2,zo 10,zV 9 52,zS 4 10 53,zV 11 54] k12_16
abbrev k12_18:=za [zL 40 5 3,zV 41 1,zL 42 6 5,zp 43 51 40 41 42,zV 39 43,zE 44 39 0,zE 45 39 1,zf 7,zw 8,zS 5 7 44,zS 3 8 45] k12_17
abbrev k12_19:=ze (za [zL 20 5 3,zL 21 6 5,zi 22 49 20 21,zV 23 22,zT 24 23 5 3,yw 25 23 15 24,yd 26 23 25,zO 27 23 26,zV 28 27,zR 29 1 28,yf 30 28 29 0,zO 31 28 30,zV 32 31,zR 33 1 32,zP 34 32 0 3,zP 35 32 0 34,z6 36 32 35,ye 37 32 33 36,zO 38 32 37] (zb 38 (za [yy 6] zc) zd)) k12_18
abbrev c12:=za [zk 3 0,zk 5 2,zu 6] (ze (za [jf 18 48,zN 19 18] (zb 19 (za [zu 6] zc) zd)) k12_19)
theorem ok12:Ao Qa 12 c12 166 [.t 6]=true:=by kernel_rfl
abbrev k48_0:=ze (.drawn [(0,zL 19 3 2),(1,zl 20 2),(2,W1 21 (.eqs false [0,0,0] (.t 19) (.t 20))),(3,zV 22 21),(4,zx 23 22 5 1),(5,W2 24 22 true (.call 54 [])),(6,zW 25 22 23 23 24),(7,zA 26 22 25),(8,zV 27 26),(9,zC 28 27 0 4),(10,zJ 29 27 28),(11,yk 30 27 29),(12,zA 31 27 30),(13,zV 32 31),(14,zx 33 32 5 3),(15,W2 34 32 true (.call 54 [])),(16,zW 35 32 23 33 34),(17,zA 36 32 35),(18,zV 37 36),(19,W2 38 37 true (.call 58 [(zI 13)])),(20,zA 39 37 38),(21,zV 40 39),(22,W2 41 40 true (.call 58 [(zI 11)])),(23,yL 42 40 41),(24,zA 43 40 42),(25,zV 0 43)] [[],[],[0,1],[2],[3],[3,3],[4,5,5,3],[3,6],[7,6],[8],[9,8],[10,8],[8,11],[12,8],[13],[13,13],[14,15,15,13],[13,16],[17,16],[18,18],[18,19],[20,19],[21,21],[22,21],[21,23],[24,22,0,1,2,3,4,5,6,7,8,9,10,11,12,13,14,15,16,17,18,19,20,21,22,23,24]] 0) zc
abbrev k48_1:=za [jf 12 54,W1 13 (.EO 1 1 [.int .i64 0] [(0,(zI 0))]),zj 14 56 13,W1 15 (.build [.int .i64 0,.lit (.slice none 0 0),.lit (.slice none 0 0),.int .i64 0,.int .i64 0,.int .u64 0] [(0,1,(zI 13)),(1,1,(.t 14))]),W1 16 (.call 51 [(.t 12),(zI 0),(.t 15)]),zV 11 16,zE 17 11 0,zE 18 11 1,zf 3,zw 4,zS 5 3 17,zS 3 4 18] k48_0
abbrev k48_2:=za [jf 6 54,W1 7 (.EO 1 2 [.int .u64 0] [(0,(.c (.int .u64 0))),(1,(.c (.int .u64 0)))]),W1 8 (.call 52 [(.t 6),(zI 0),(.t 7)]),zV 5 8,zE 9 5 0,zE 10 5 1,zf 1,zw 2,zS 5 1 9,zS 3 2 10] k48_1
abbrev c48:=za [zu 0] k48_2
theorem ok48:Ao Qa 48 c48 44 [.t 0]=true:=by kernel_rfl
abbrev k49_0:=za [zF 5 3 2,zM 6 5,zn 7 6,yC 8 7 100,zV 9 8,zP 10 9 4 2,z6 11 9 10,z7 12 9 11,yG 13 9 12 50,zO 14 9 13,zV 15 14,zP 16 15 1 3,zP 17 15 0 16,z6 18 15 17,z7 19 15 18,yG 20 15 19 10,zO 21 15 20,zV 22 21,zP 23 22 2 3,zP 24 22 0 23,z6 25 22 24,z7 26 22 25,yG 27 22 26 10,zO 28 22 27,zV 4 28] zc
abbrev c49:=za [zk 2 0,zk 3 1,zu 4] k49_0
theorem ok49:Ao Qa 49 c49 29 [.t 4]=true:=by kernel_rfl
abbrev k54_0:=za [jf 4 124,W1 5 (.call 60 [(.t 4),(zI 64)]),zV 3 5,zE 6 3 0,zE 7 3 1,zf 1,zS 5 1 6,zV 2 7] (za [zL 8 5 1,zS 5 0 8] zc)
abbrev c54:=za [zf 0] k54_0
theorem ok54:Ao Qa 54 c54 9 [.c 0 (some 5)]=true:=by kernel_rfl
abbrev c56:=za [yj 2] (za [zV 3 0,jl 4 3,zS 1 2 4] zc)
theorem ok56:Ao Qa 56 c56 5 [.c 2 (some 1)]=true:=by kernel_rfl
end Go.Proofs.YtlaipllgmddkiaaGreat.Ax
