/- Texts put behind one another: AxCRef, AxCLib. Conditions: none. -/
import Derived.Test.YtlaipllgmddkiaaGreatZC1
import Derived.Test.YtlaipllgmddkiaaGreatAxEnterZ
import Derived.Test.YtlaipllgmddkiaaGreatProg
import Derived.KernelRfl
set_option linter.all false
namespace Go.Proofs.YtlaipllgmddkiaaGreat.Ax
open Go Go.Ax
set_option maxRecDepth 100000
def k18_0:=jN [zL 33 5 3,zZ 34 85 33 1,zE 35 34 0,zE 36 34 1,zS 5 6 35,zS 3 7 36] jP
def k18_1:=jN [zL 41 5 3,zV 42 1,zL 43 6 5,zm 44 86 41 42 43,zE 45 44 0,zE 46 44 1,zS 5 6 45,zS 3 7 46] jP
def k18_2:=jO 47 jQ (.region [zQ 50 38 4,zV 47 50])
def k18_3:=jO 47 jQ (jN [zQ 49 38 3,zV 47 49] k18_2)
def k18_4:=jN [zL 51 5 3,zV 52 1,zL 53 6 5,zm 54 87 51 52 53,zE 55 54 0,zE 56 54 1,zS 5 6 55,zS 3 7 56] jP
def k18_5:=jO 57 jQ (.region [zQ 59 38 6,zV 57 59])
def k18_6:=jN [zL 71 5 3,zV 72 10,ze 73 85 71 72,zE 74 73 0,zE 75 73 1,zS 5 6 74,zS 3 7 75] jP
def k18_7:AD:= .region [zL 81 5 3,zd 82 90 81,zV 83 8,ze 84 89 82 83,zV 11 84]
def k18_8:=jN [zL 91 5 12,zV 92 13,zv 93 2 92,zS 5 6 91,zS 3 7 93] jP
def k18_9:=jN [zL 86 5 3,zV 87 11,ze 88 91 86 87,zV 85 88,zE 89 85 0,zE 90 85 1,za 12,zS 5 12 89,zV 13 90] k18_8
def k18_10:=jR (jN [zF 78 0 5,zM 79 78,zQ 80 79 6] (jO 80 k18_7 jQ)) k18_9
def k18_11:=jN [zV 76 8,yt 77 76,zV 11 77] k18_10
def k18_12:=jR (jN [zV 69 10,zk 70 69 0] (jO 70 k18_6 jQ)) k18_11
def k18_13:=jN [zL 61 5 3,zV 62 1,zF 63 1 5,zM 64 63,zm 65 88 61 62 64,zV 60 65,zE 66 60 0,zE 67 60 1,zE 68 60 2,zg 9,zV 8 66,zS 4 9 67,zV 10 68] k18_12
def k18_14:=jO 94 jQ (.region [zQ 96 38 8,zV 94 96])
def k18_15:=jN [zL 97 5 3,zV 98 1,zL 99 6 5,zm 100 92 97 98 99,zE 101 100 0,zE 102 100 1,zS 5 6 101,zS 3 7 102] jP
def k18_16:=jO 103 jQ (.region [zQ 105 38 10,zV 103 105])
def k18_17:=jN [zL 106 5 3,zV 107 1,zL 108 6 5,zm 109 93 106 107 108,zE 110 109 0,zE 111 109 1,zS 5 6 110,zS 3 7 111] jP
def k18_18:=jR (jN [zQ 104 38 9,zV 103 104] k18_16) (jO 103 k18_17 jQ)
def k18_19:=jR (jN [zQ 95 38 7,zV 94 95] k18_14) (jO 94 k18_15 k18_18)
def k18_20:=jR (jN [zQ 58 38 5,zV 57 58] k18_5) (jO 57 k18_13 k18_19)
def k18_21:=jR (jN [zQ 48 38 2,zV 47 48] k18_3) (jO 47 k18_4 k18_20)
def k18_22:AD:= .block 0 (jN [zQ 40 38 1,zV 39 40] (jO 39 k18_1 k18_21))
def k18_23:=jN [zL 112 5 3,zV 113 1,zL 114 6 5,zm 115 94 112 113 114,zE 116 115 0,zE 117 115 1,zS 5 6 116,zS 3 7 117] jP
def k18_24:=jR (jN [zF 37 0 5,zM 38 37] k18_22) k18_23
def k18_25:=jR (jN [zL 14 5 3,zd 15 83 14,zN 16 15,zV 17 16,yl 18 17 6 5,yp 19 17 84 18,ye 20 17 19,zO 21 17 20,zV 22 21,zY 23 1 22,yc 24 22 23 0,zO 25 22 24,zV 26 25,
 zY 27 1 26,zz 28 26 0 3,zz 29 26 0 28,zH 30 26 29,yx 31 26 27 30,zO 32 26 31] (jO 32 k18_0 jQ)) k18_24
def c18:=jN [zh 3 0,zh 5 2,za 6,zy 7] k18_25
theorem ok18:Ao Tryz.prog 18 c18 118 [.c 6 (some 5),.c 7 (some 3)]=true:=by kernel_rfl
def w18:=aW k18_0.eq_1 (aW k18_1.eq_1 (aW k18_2.eq_1 (aW k18_3.eq_1 (aW k18_4.eq_1 (aW k18_5.eq_1 (aW k18_6.eq_1 (aW k18_7.eq_1 (aW k18_8.eq_1 (aW k18_9.eq_1 (aW k18_10.eq_1 (aW k18_11.eq_1 (aW k18_12.eq_1 (aW k18_13.eq_1 (aW k18_14.eq_1 (aW k18_15.eq_1 (aW k18_16.eq_1 (aW k18_17.eq_1 (aW k18_18.eq_1 (aW k18_19.eq_1 (aW k18_20.eq_1 (aW k18_21.eq_1 (aW k18_22.eq_1 (aW k18_23.eq_1 (aW k18_24.eq_1 (oW k18_25.eq_1)))))))))))))))))))))))))
def k22_0:=jO 29 (jN [zo 4] jP) jQ
def k22_1:=jO 47 (jN [zo 4] jP) jQ
def k22_2:=jR (.block 1 (jR (.drawn [(0,zF 37 3 2),(1,zM 38 37),(2,zV 39 5),(3,zX 40 5 38 39),(4,zL 41 5 40),(5,zF 42 3 3),(6,zM 43 42),(7,zV 44 5),(8,zX 45 5 43 44),(9,zL 46 5 45),(10,W1 47 (.eqs true [0,0,0,0,0] (.t 41) (.t 46)))] [[],[0],[],[1,2],[3],[],[5],[],[6,7],[8],[4,9]] 0) k22_1)) (.region [zV 35 5,zc 36 35,zV 5 36])
def b22_3:=jR (jN [zV 30 5,zF 31 3 2,zM 32 31,zi 33 32,zj 34 30 33] (jO 34 jQ (.exit 0))) k22_2
def k22_4:=jO 65 (jN [zo 4] jP) jQ
def k22_5:=jR (.block 3 (jR (.drawn [(0,zF 55 4 2),(1,zM 56 55),(2,zV 57 6),(3,zX 58 13 56 57),(4,zL 59 13 58),(5,zF 60 4 3),(6,zM 61 60),(7,zV 62 6),(8,zX 63 13 61 62),(9,zL 64 13 63),(10,yM 65 59 64)] [[],[0],[],[1,2],[3],[],[5],[],[6,7],[8],[4,9]] 0) k22_4)) (.region [zV 53 6,zc 54 53,
 zV 6 54])
def b22_6:=jR (jN [zV 48 6,zF 49 4 2,zM 50 49,zi 51 50,zj 52 48 51] (jO 52 jQ (.exit 2))) k22_5
def k22_7:=jR (jN [zK 6 0] (.block 2 (.loop b22_6))) (jN [yu 4] jP)
def k22_8:=jR (jN [zK 5 0] (.block 0 (.loop b22_3))) k22_7
def k22_9:=jR (jN [zF 7 0 2,zL 8 3 7,zF 9 0 3,zL 10 3 9,W1 11 (.eqs true [0,0,0] (.t 8) (.t 10)),zV 12 11,zz 13 12 3 2,zH 14 12 13,zT 15 12 14,zz 16 12 3 3,zH 17 12 16,zT 18 12 17,yE 19 12 15 18,
 zO 20 12 19,zV 21 20,zz 22 21 4 2,zH 23 21 22,zT 24 21 23,zz 25 21 4 3,zH 26 21 25,zT 27 21 26,yE 28 21 24 27,zO 29 21 28] k22_0) k22_8
def c22:=jN [zh 2 0,zh 3 1,zo 4] k22_9
theorem ok22:Ao Tryz.prog 22 c22 66 [.t 4]=true:=by kernel_rfl
def w22:=aW k22_0.eq_1 (aW k22_1.eq_1 (aW k22_2.eq_1 (aW k22_4.eq_1 (aW k22_5.eq_1 (aW k22_7.eq_1 (aW k22_8.eq_1 (oW k22_9.eq_1)))))))
def k83_0:=jO 36 (jN [zo 2] jP) jQ
def k83_1:=jO 67 (jN [zo 2] jP) jQ
def k83_2:=jO 107 (jN [zo 2] jP) jQ
def k83_3:=jR (.drawn [(0,zF 78 0 5),(1,zM 79 78),(2,zQ 80 79 2),(3,zV 81 80),(4,zu 82 81 0 7),(5,zr 83 81 82),(6,z8 84 81 83 2),(7,zA 85 81 84),(8,zV 86 85),(9,zu 87 86 2 5),(10,zr 88 86 87),(11,zu 89 86 2 7),
 (12,zr 90 86 89),(13,zu 91 86 1 7),(14,zr 92 86 91),(15,yj 93 86 151 92),(16,yX 94 86 90 93),(17,yo 95 86 88 94),(18,zA 96 86 95),(19,zV 97 96),(20,zu 98 97 2 7),(21,zr 99 97 98),
 (22,zu 100 97 2 5),(23,zr 101 97 100),(24,zu 102 97 1 5),(25,zr 103 97 102),(26,yj 104 97 151 103),(27,yX 105 97 101 104),(28,yo 106 97 99 105),(29,zA 107 97 106)]
 [[],[0],[1],[2],[3],[4,3],[5,3],[3,6],[7,3],[8],[9,8],[8],[11,8],[8],[13,8],[14,8,8],[12,15,8],[10,16,8],[8,17],[18,15],[19],[20,19],[19],[22,19],[19],[24,19],[25,19,19],[23,26,19],[21,27,19],[19,28]] 0) k83_2
def k83_4:=jR (.block 3 (jN [zF 73 4 1,zM 74 73,zV 75 6,zX 76 13 74 75,zL 77 13 76,zb 7,zS 13 7 77] k83_3)) (.region [zV 71 6,zc 72 71,zV 6 72])
def b83_5:=jR (jN [zV 68 6,zV 69 4,zj 70 68 69] (jO 70 jQ (.exit 2))) k83_4
def k83_6:=jO 129 (jN [zo 2] jP) jQ
def k83_7:=jN [zF 108 5 5,zM 109 108,yz 110 109 0,zV 111 110,zu 112 111 5 5,zr 113 111 112,zu 114 111 1 3,zr 115 111 114,jK 116 111 113 115,zw 117 116 111,zz 118 117 3 1,zH 119 117 118,
 zz 120 117 5 5,zH 121 117 120,jl 122 117 121,yd 123 117 5 119 122,zz 124 117 0 123,yl 125 117 4 124,W2 126 117 false (.build [.int .i64 0,.int .i64 0,.int .i64 0,.int .i64 0] []),W2 127 117 false (.eqs false [0,0,0,0] (.t 125) (.t 126)),
 zC 128 111 117 127,zA 129 111 128] k83_6
def k83_8:=jR (jN [zK 6 0] (.block 2 (.loop b83_5))) k83_7
def k83_9:=jR (jR (.drawn [(0,zL 49 13 5),(1,zd 50 150 49),(2,zN 51 50),(3,zV 52 51),(4,zz 53 52 0 5),(5,zH 54 52 53),(6,yw 55 52 54 2),(7,zY 56 55 52),(8,zu 57 56 2 5),(9,zr 58 56 57),(10,zu 59 56 1 5),
 (11,zr 60 56 59),(14,zu 63 56 1 3),(15,zr 64 56 63),(12,yj 61 56 151 60),(13,yX 62 56 58 61),(16,jK 65 56 62 64),(17,yf 66 52 56 65),(18,zO 67 52 66)]
 [[],[0],[1],[2,1],[3],[4,3],[5,3],[6,3,3],[7],[8,7],[7],[10,7],[11,7,7],[9,12,7],[7],[14,7],[13,15,7],[7,16,3],[3,17]] 0) k83_1) k83_8
def k83_10:=jR (.block 1 (jN [zF 44 4 1,zM 45 44,zV 46 4,zX 47 13 45 46,zL 48 13 47,zb 5,zS 13 5 48] k83_9)) (.region [zV 42 4,zc 43 42,zV 4 43])
def b83_11:=jR (jN [zV 37 4,zF 38 4 1,zM 39 38,zi 40 39,zj 41 37 40] (jO 41 jQ (.exit 0))) k83_10
def k83_12:=jO 145 (jN [zo 2] jP) jQ
def k83_13:=jR (.block 5 (jN [zF 136 4 1,zM 137 136,zV 138 8,jo 139 138,zX 140 13 137 139,zL 141 13 140,zV 142 8,jx 143 8 142,W1 144 (.build [.int .i64 0,.int .i64 0,.int .i64 0,.int .i64 0,.int .i64 0,.int .i64 0,.int .i64 0,.bool false,.int .u64 0,.int .u64 0,.int .u64 0,.int .u64 0,.int .u64 0] [(0,1,(zI 2)),(1,1,(zI 3)),(2,1,(.t 143))]),
 yM 145 141 144] k83_12)) (.region [zV 134 8,zc 135 134,zV 8 135])
def b83_14:=jR (jN [zV 130 8,zF 131 0 3,zM 132 131,zj 133 130 132] (jO 133 jQ (.exit 4))) k83_13
def k83_15:=jO 161 (jN [zo 2] jP) jQ
def k83_16:=jO 171 (jN [zo 2] jP) jQ
def k83_17:=jR (jN [zF 165 3 1,zM 166 165,zV 167 9,zX 168 5 166 167,zF 169 4 168,zM 170 169,zk 171 170 (-1)] k83_16) (.exit 7)
def k83_18:=jO 195 (jN [zo 2] jP) jQ
def k83_19:=jR (.drawn [(0,zF 172 1 10),(1,zM 173 172),(2,zF 174 4 1),(3,zM 175 174),(4,zi 176 175),(5,yD 177 173 176),(6,zV 178 177),(7,zz 179 178 4 1),(8,zH 180 178 179),(9,zz 181 178 1 10),(10,zH 182 178 181),(11,yd 183 178 13 180 182),
 (12,zz 184 178 0 183),(13,zH 185 178 184),(14,zz 186 178 0 10),(15,zH 187 178 186),(16,yE 188 178 185 187),(17,zO 189 178 188),(18,zV 190 189),(19,yl 191 190 5 1),(20,zY 192 9 190),(21,jv 193 190 153 191 192),
 (22,yc 194 190 193 0),(23,zO 195 190 194)] [[],[0],[],[2],[3],[1,4],[5],[6],[7,6],[6],[9,6],[8,10,6],[11,6],[12,6],[6],[14,6],[13,15,6],[6,16],[17,6],[18],[18],[19,20,18,18],[21,18],[18,22]] 0) k83_18
def k83_20:=jR (jN [zF 162 0 10,zM 163 162,zQ 164 163 0] (jO 164 k83_17 jQ)) k83_19
def k83_21:=jR (jN [zL 159 4 10,zd 160 152 159,zN 161 160] k83_15) k83_20
def k83_22:=jR (.block 7 (jN [zF 153 3 1,zM 154 153,zV 155 9,zX 156 5 154 155,zF 157 0 156,zL 158 4 157,zg 10,zS 4 10 158] k83_21)) (.region [zV 151 9,zc 152 151,zV 9 152])
def b83_23:=jR (jN [zV 146 9,zF 147 3 1,zM 148 147,zi 149 148,zj 150 146 149] (jO 150 jQ (.exit 6))) k83_22
def k83_24:=jO 199 (jN [zo 2] jP) jQ
def k83_25:=jO 251 (jN [zo 2] jP) jQ
def k83_26:=jN [zL 236 4 12,zL 237 4 13,ze 238 155 236 237,zN 239 238,zV 240 239,zu 241 240 0 13,zr 242 240 241,ya 243 240 242 1,zw 244 243 240,zz 245 244 1 13,zH 246 244 245,zz 247 244 1 12,
 zH 248 244 247,jr 249 244 246 248,zC 250 240 244 249,zA 251 240 250] k83_25
def k83_27:=jR (.drawn [(0,zF 225 3 1),(1,zM 226 225),(2,zF 227 3 1),(3,zM 228 227),(4,zV 229 11),(5,zX 230 5 228 229),(6,zF 231 4 230),(7,zM 232 231),(8,zX 233 5 226 232),(9,zF 234 0 233),(10,zL 235 4 234),(11,W1 13 (.born 0 (.new [.int .i64 0,.int .i64 0,.int .i64 0,.int .i64 0]))),(12,zS 4 13 235)]
 [[],[0],[],[2],[],[3,4],[5],[6],[1,7],[8],[9],[],[11,10,0,1,2,3,4,5,6,7,8,9,10,11]] 1) k83_26
def k83_28:=jR (jN [zF 213 0 12,zM 214 213,zQ 215 214 0,zV 216 215,zz 217 216 3 1,zH 218 216 217,zY 219 11 216,yd 220 216 5 218 219,zz 221 216 4 220,zH 222 216 221,yc 223 216 222 0,
 zO 224 216 223] (jO 224 (.exit 9) jQ)) k83_27
def k83_29:=jR (.block 9 (jN [zF 207 3 1,zM 208 207,zV 209 11,zX 210 5 208 209,zF 211 0 210,zL 212 4 211,zg 12,zS 4 12 212] k83_28)) (.region [zV 205 11,zc 206 205,zV 11 206])
def b83_30:=jR (jN [zV 200 11,zF 201 3 1,zM 202 201,zi 203 202,zj 204 200 203] (jO 204 jQ (.exit 8))) k83_29
def k83_31:=jO 299 (jN [zo 2] jP) jQ
def k83_32:=jN [zF 268 4 1,zM 269 268,zV 270 14,zX 271 13 269 270,zF 272 0 271,zM 273 272,zk 274 273 0,zV 275 274,zw 276 15 275,yY 277 275 276,zA 278 275 277,zV 279 278,zq 280 279 5 1,zw 281 14 279,
 zP 282 279 156 280 281,yB 283 279 282,z8 284 279 283 0,zA 285 279 284,zV 286 285,zz 287 286 4 1,zH 288 286 287,zY 289 14 286,yd 290 286 13 288 289,zz 291 286 0 290,zH 292 286 291,
 yw 293 286 292 2,zY 294 293 286,zq 295 294 5 1,zw 296 14 294,zP 297 294 157 295 296,yf 298 286 294 297,zO 299 286 298] k83_31
def k83_33:=jR (.block 11 (jN [zV 259 14,zR 260 259 2,zV 261 260,zw 262 14 261,zu 263 261 0 3,zr 264 261 263,jA 265 261 264,yo 266 261 262 265,zA 267 261 266,zV 15 267] k83_32)) (.region [zV 257 14,zc 258 257,
 zV 14 258])
def b83_34:=jR (jN [zV 252 14,zF 253 4 1,zM 254 253,zi 255 254,zj 256 252 255] (jO 256 jQ (.exit 10))) k83_33
def k83_35:=jR (jN [zK 14 0] (.block 10 (.loop b83_34))) (jN [yu 2] jP)
def k83_36:=jR (jN [zK 11 0] (.block 8 (.loop b83_30))) k83_35
def k83_37:=jR (jN [zL 196 5 1,zd 197 90 196,zd 198 154 197,zN 199 198] k83_24) k83_36
def k83_38:=jR (jN [zK 9 0] (.block 6 (.loop b83_23))) k83_37
def k83_39:=jR (jN [zK 8 0] (.block 4 (.loop b83_14))) k83_38
def k83_40:=jR (jN [zK 4 0] (.block 0 (.loop b83_11))) k83_39
def k83_41:=jR (jN [zL 18 3 3,zd 19 130 18,zN 20 19,zV 21 20,zz 22 21 3 1,zH 23 21 22,zT 24 21 23,zz 25 21 1 3,zH 26 21 25,yE 27 21 24 26,zO 28 21 27,zV 29 28,zz 30 29 4 1,
 zH 31 29 30,zT 32 29 31,zz 33 29 2 3,zH 34 29 33,yE 35 29 32 34,zO 36 29 35] k83_0) k83_40
def k83_42:=jN [zF 16 0 1,zL 17 3 16,jz 3,zS 3 3 17] k83_41
def c83:=jN [zh 1 0,zo 2] k83_42
theorem ok83:Ao Tryz.prog 83 c83 300 [.t 2]=true:=by kernel_rfl
def w83:=aW k83_0.eq_1 (aW k83_1.eq_1 (aW k83_2.eq_1 (aW k83_3.eq_1 (aW k83_4.eq_1 (aW k83_6.eq_1 (aW k83_7.eq_1 (aW k83_8.eq_1 (aW k83_9.eq_1 (aW k83_10.eq_1 (aW k83_12.eq_1 (aW k83_13.eq_1 (aW k83_15.eq_1 (aW k83_16.eq_1 (aW k83_17.eq_1 (aW k83_18.eq_1 (aW k83_19.eq_1 (aW k83_20.eq_1 (aW k83_21.eq_1 (aW k83_22.eq_1 (aW k83_24.eq_1 (aW k83_25.eq_1 (aW k83_26.eq_1 (aW k83_27.eq_1 (aW k83_28.eq_1 (aW k83_29.eq_1 (aW k83_31.eq_1 (aW k83_32.eq_1 (aW k83_33.eq_1 (aW k83_35.eq_1 (aW k83_36.eq_1 (aW k83_37.eq_1 (aW k83_38.eq_1 (aW k83_39.eq_1 (aW k83_40.eq_1 (aW k83_41.eq_1 (oW k83_42.eq_1))))))))))))))))))))))))))))))))))))
def k84_0:=jO 20 (jN [zo 2] jP) jQ
def k84_1:AD:= .region [zF 29 2 1,zM 30 29,zd 31 158 30,zV 32 31,zu 33 32 3 1,zr 34 32 33,yn 35 32 131 34 1 5,zA 36 32 35,zV 37 36,zu 38 37 4 1,zr 39 37 38,yn 40 37 131 39 0 4096,
 zA 41 37 40,zV 3 41,yu 4,yu 5]
def k84_2:AD:= .region [zF 44 2 1,zM 45 44,zd 46 158 45,zV 47 46,zu 48 47 3 1,zr 49 47 48,yn 50 47 131 49 0 7,zA 51 47 50,zV 3 51,yu 4]
def k84_3:AD:= .region [zF 54 2 1,zM 55 54,zd 56 158 55,zV 57 56,zu 58 57 3 1,zr 59 57 58,yn 60 57 131 59 0 7,zA 61 57 60,zV 62 61,zu 63 62 4 1,zr 64 62 63,yn 65 62 131 64 1 65535,
 zA 66 62 65,zV 3 66,yu 4,yu 5]
def k84_4:AD:= .region [zF 69 2 1,zM 70 69,zd 71 158 70,zV 3 71]
def k84_5:AD:= .region [zF 74 2 1,zM 75 74,zd 76 159 75,zV 3 76,yu 6]
def k84_6:AD:= .region [zF 79 2 1,zM 80 79,zd 81 159 80,zV 3 81]
def k84_7:AD:= .region [zF 84 2 1,zM 85 84,zi 86 85,zQ 87 86 0,zV 88 87,zu 89 88 3 1,zr 90 88 89,yn 91 88 131 90 0 3,zA 92 88 91,zV 3 92,yu 4,yu 6]
def k84_8:AD:= .region [zF 95 2 1,zM 96 95,zi 97 96,zQ 98 97 0,zV 99 98,zu 100 99 3 1,zr 101 99 100,yn 102 99 131 101 0 3,zA 103 99 102,zV 3 103,yu 4]
def k84_9:AD:= .region [zF 23 2 1,zM 24 23,zi 25 24,zQ 26 25 0,zV 3 26]
def k84_10:=jN [zQ 94 22 12,zV 93 94] (jO 93 k84_8 k84_9)
def k84_11:=jN [zQ 83 22 11,zV 82 83] (jO 82 k84_7 k84_10)
def k84_12:=jN [zQ 78 22 8,zV 77 78] (jO 77 k84_6 k84_11)
def k84_13:=jN [zQ 73 22 7,zV 72 73] (jO 72 k84_5 k84_12)
def k84_14:=jN [zQ 68 22 4,zV 67 68] (jO 67 k84_4 k84_13)
def k84_15:=jN [zQ 53 22 3,zV 52 53] (jO 52 k84_3 k84_14)
def k84_16:=jN [zQ 43 22 2,zV 42 43] (jO 42 k84_2 k84_15)
def k84_17:AD:= .block 0 (jN [zQ 28 22 1,zV 27 28] (jO 27 k84_1 k84_16))
def k84_18:=jN [zV 104 3,zV 105 104,zw 106 4 105,zw 107 106 105,zz 108 107 3 1,zH 109 107 108,yw 110 107 109 0,zC 111 105 107 110,zA 112 105 111,zV 113 112,zw 114 5 113,zw 115 114 113,
 zz 116 115 4 1,zH 117 115 116,yw 118 115 117 0,zC 119 113 115 118,zA 120 113 119,zV 121 120,zw 122 6 121,zw 123 122 121,zz 124 123 5 1,zH 125 123 124,
 W2 126 123 false (.bin .eql (.t 125) (.c (.int .u64 0))),zC 127 121 123 126,zA 128 121 127,zV 2 128] jP
def k84_19:=jR (jN [zF 21 0 1,zM 22 21] k84_17) k84_18
def k84_20:=jN [zo 3,zo 4,zo 5,zo 6] k84_19
def k84_21:=jR (jN [zF 7 0 1,zM 8 7,yk 9 8 1,zV 10 9,zz 11 10 0 1,zH 12 10 11,yr 13 10 12 13,zO 14 10 13,zV 15 14,zz 16 15 1 1,zH 17 15 16,yp 18 15 158 17,ye 19 15 18,
 zO 20 15 19] k84_0) k84_20
def c84:=jN [zh 1 0,zo 2] k84_21
theorem ok84:Ao Tryz.prog 84 c84 129 [.t 2]=true:=by kernel_rfl
def w84:=aW k84_0.eq_1 (aW k84_1.eq_1 (aW k84_2.eq_1 (aW k84_3.eq_1 (aW k84_4.eq_1 (aW k84_5.eq_1 (aW k84_6.eq_1 (aW k84_7.eq_1 (aW k84_8.eq_1 (aW k84_9.eq_1 (aW k84_10.eq_1 (aW k84_11.eq_1 (aW k84_12.eq_1 (aW k84_13.eq_1 (aW k84_14.eq_1 (aW k84_15.eq_1 (aW k84_16.eq_1 (aW k84_17.eq_1 (aW k84_18.eq_1 (aW k84_19.eq_1 (aW k84_20.eq_1 (oW k84_21.eq_1)))))))))))))))))))))
def k85_0:=jN [zL 6 5 2,zV 7 1,zv 8 0 7,zS 5 4 6,zS 3 5 8] jP
def c85:=jN [zh 2 0,za 4,zy 5] k85_0
theorem ok85:Ao Tryz.prog 85 c85 9 [.c 4 (some 5),.c 5 (some 3)]=true:=by kernel_rfl
def k86_0:=jN [zL 30 5 3,zV 31 10,ze 32 85 30 31,zE 33 32 0,zE 34 32 1,zS 5 6 33,zS 3 7 34] jP
def k86_1:=jN [zL 38 5 3,zZ 39 85 38 7,zE 40 39 0,zE 41 39 1,zS 5 6 40,zS 3 7 41] jP
def k86_2:=jN [zL 47 5 3,zZ 48 85 47 6,zE 49 48 0,zE 50 48 1,zS 5 6 49,zS 3 7 50] jP
def k86_3:=jN [zL 61 5 3,zV 62 10,ze 63 85 61 62,zE 64 63 0,zE 65 63 1,zS 5 6 64,zS 3 7 65] jP
def k86_4:=jN [zL 76 5 3,zZ 77 85 76 1,zE 78 77 0,zE 79 77 1,zS 5 6 78,zS 3 7 79] jP
def k86_5:AD:= .region [zL 89 5 3,zF 90 4 5,zM 91 90,ze 92 163 89 91,zV 88 92,zE 93 88 0,zE 94 88 1,zV 15 93,zV 16 94]
def k86_6:=jN [zL 114 5 3,zZ 115 85 114 8,zE 116 115 0,zE 117 115 1,zS 5 6 116,zS 3 7 117] jP
def k86_7:=jN [zL 150 5 18,zV 151 17,zv 152 2 151,zS 5 6 150,zS 3 7 152] jP
def k86_8:=jN [zF 140 3 18,zM 141 140,zV 142 11,zF 143 3 5,zM 144 143,zV 145 17,jh 146 144 145,zV 147 8,zJ 148 146 147,zX 149 5 141 142,zS 5 149 148] k86_7
def k86_9:=jN [zF 133 4 18,zM 134 133,zF 135 1 9,zM 136 135,zV 137 14,zX 138 13 134 136,zF 139 4 138,zS 1 139 137] k86_8
def k86_10:=jR (.drawn [(0,zF 121 4 18),(1,zM 122 121),(3,zF 124 3 5),(4,zM 125 124),(5,zF 126 4 5),(6,zM 127 126),(7,zV 128 15),(8,zm 129 166 125 127 128),(2,zV 123 17),(9,zV 120 129),(10,zE 130 120 0),(12,zX 132 13 122 123),(13,zS 13 132 130),(11,zE 131 120 1)]
 [[],[0],[],[],[3],[],[5],[],[4,6,7],[8],[9],[9],[1,2,0,1,2,3,4,5,6,7,8,9,10],[12,10,8,0,1,2,3,4,5,6,7,8,9,10]] 0) k86_9
def k86_11:=jN [zL 118 5 3,zd 119 165 118,za 18,zS 5 18 119] k86_10
def k86_12:=jR (jN [zV 97 14,zF 98 4 3,zM 99 98,zF 100 1 9,zM 101 100,zX 102 13 99 101,zF 103 3 102,zM 104 103,jn 105 97 104,zV 106 105,zY 107 16 106,ye 108 106 107,zO 109 106 108,zV 110 109,zY 111 17 110,
 yc 112 110 111 0,zO 113 110 112] (jO 113 k86_6 jQ)) k86_11
def k86_13:=jN [zL 95 5 3,zd 96 164 95,zV 17 96] k86_12
def k86_14:=jR (jN [zF 85 3 5,zM 86 85,zQ 87 86 2] (jO 87 k86_5 jQ)) k86_13
def k86_15:=jN [zK 15 0] (jN [yu 16] k86_14)
def k86_16:=jN [zL 80 5 3,zV 81 8,ze 82 162 80 81,zV 83 12,z6 84 82 83,zV 14 84] k86_15
def k86_17:=jR (jN [zV 74 13,zN 75 74] (jO 75 k86_4 jQ)) k86_16
def k86_18:=jN [zF 67 3 5,zM 68 67,zF 69 4 5,zM 70 69,ze 71 161 68 70,zV 66 71,zE 72 66 0,zE 73 66 1,zV 12 72,zV 13 73] k86_17
def k86_19:=jR (jN [zV 59 10,zk 60 59 0] (jO 60 k86_3 jQ)) k86_18
def k86_20:=jN [zL 52 5 3,zV 53 1,zF 54 2 5,zM 55 54,zm 56 160 52 53 55,zV 51 56,zE 57 51 0,zE 58 51 1,zV 11 57,zV 10 58] k86_19
def k86_21:=jR (jN [zF 42 2 9,zM 43 42,jp 44 43,yH 45 44 2,zQ 46 45 0] (jO 46 k86_2 jQ)) k86_20
def k86_22:=jR (jN [zF 35 0 9,zM 36 35,zk 37 36 1] (jO 37 k86_1 jQ)) k86_21
def k86_23:=jR (jN [zV 28 10,zk 29 28 0] (jO 29 k86_0 jQ)) k86_22
def k86_24:=jN [zL 20 5 3,zV 21 1,zF 22 1 5,zM 23 22,zm 24 88 20 21 23,zV 19 24,zE 25 19 0,zE 26 19 1,zE 27 19 2,zg 9,zV 8 25,zS 4 9 26,zV 10 27] k86_23
def c86:=jN [zh 3 0,zh 5 2,za 6,zy 7] k86_24
theorem ok86:Ao Tryz.prog 86 c86 153 [.c 6 (some 5),.c 7 (some 3)]=true:=by kernel_rfl
def w86:=aW k86_0.eq_1 (aW k86_1.eq_1 (aW k86_2.eq_1 (aW k86_3.eq_1 (aW k86_4.eq_1 (aW k86_5.eq_1 (aW k86_6.eq_1 (aW k86_7.eq_1 (aW k86_8.eq_1 (aW k86_9.eq_1 (aW k86_10.eq_1 (aW k86_11.eq_1 (aW k86_12.eq_1 (aW k86_13.eq_1 (aW k86_14.eq_1 (aW k86_15.eq_1 (aW k86_16.eq_1 (aW k86_17.eq_1 (aW k86_18.eq_1 (aW k86_19.eq_1 (aW k86_20.eq_1 (aW k86_21.eq_1 (aW k86_22.eq_1 (aW k86_23.eq_1 (oW k86_24.eq_1))))))))))))))))))))))))
def k87_0:=jN [zL 28 5 3,zV 29 10,ze 30 85 28 29,zE 31 30 0,zE 32 30 1,zS 5 6 31,zS 3 7 32] jP
def k87_1:=jN [zL 48 5 3,zV 49 10,ze 50 85 48 49,zE 51 50 0,zE 52 50 1,zS 5 6 51,zS 3 7 52] jP
def k87_2:=jN [zV 46 10,zk 47 46 0] (jO 47 k87_1 jQ)
def k87_3:=jR (.drawn [(0,zL 37 4 9),(1,zF 38 3 5),(2,zM 39 38),(4,zF 41 4 5),(5,zM 42 41),(3,ze 40 168 37 39),(6,ze 43 167 40 42),(7,zV 36 43),(8,zE 44 36 0),(10,zS 4 9 44),(9,zE 45 36 1),(11,zV 10 45)] [[],[],[1],[0,2],[],[4],[3,5,3],[6],[7],[7],[8,6,0,1,2,3,4,5,6,7,8],[9,10,0,1,2,3,4,5,6,7,8,9,10]] 0) k87_2
def k87_4:=jN [zL 63 5 3,zV 64 10,ze 65 85 63 64,zE 66 65 0,zE 67 65 1,zS 5 6 66,zS 3 7 67] jP
def k87_5:=jN [zL 82 5 12,zV 83 13,zv 84 0 83,zS 5 6 82,zS 3 7 84] jP
def k87_6:=jR (.drawn [(0,zL 72 5 3),(3,zL 75 4 9),(4,zF 76 3 5),(5,zM 77 76),(6,ze 78 168 75 77),(1,zV 73 8),(2,zV 74 11),(7,jJ 79 169 72 73 74 78),(8,zV 71 79),(9,zE 80 71 0),(11,yi 12 0),(12,zS 5 12 80),(10,zE 81 71 1),(13,zV 13 81)]
 [[],[],[],[],[],[4],[3,5],[0,1,2,6,6],[7],[8],[8],[],[11,9,7,0,1,2,3,4,5,6,7,8,9,11],[10,12,0,1,2,3,4,5,6,7,8,9,10,11,12]] 1) k87_5
def k87_7:=jN [zL 95 5 3,zZ 96 85 95 1,zE 97 96 0,zE 98 96 1,zS 5 6 97,zS 3 7 98] jP
def k87_8:AD:= .region [zF 140 3 14,zM 141 140,zV 142 15,zV 143 11,zX 144 5 141 142,zF 145 4 144,zS 1 145 143]
def k87_9:=jR (.block 1 (jN [zF 122 3 14,zM 123 122,zV 124 15,zX 125 5 123 124,zF 126 0 125,zF 127 0 126,zM 128 127,zk 129 128 0,zV 130 129,zu 131 130 3 14,zr 132 130 131,zw 133 15 130,z7 134 130 5 132 133,zu 135 130 4 134,
 zr 136 130 135,zw 137 8 130,yN 138 130 136 137,zA 139 130 138] (jO 139 k87_8 jQ))) (.region [zV 120 15,zc 121 120,zV 15 121])
def b87_10:=jR (jN [zV 115 15,zF 116 3 14,zM 117 116,zi 118 117,zj 119 115 118] (jO 119 jQ (.exit 0))) k87_9
def k87_11:AD:= .region [zF 162 4 14,zM 163 162,zV 164 16,zV 165 11,zc 166 165,zX 167 13 163 164,zF 168 5 167,zS 1 168 166]
def k87_12:=jR (.block 3 (jN [zF 153 4 14,zM 154 153,zV 155 16,zX 156 13 154 155,zF 157 5 156,zM 158 157,zV 159 8,zc 160 159,yy 161 158 160] (jO 161 k87_11 jQ))) (.region [zV 151 16,zc 152 151,zV 16 152])
def b87_13:=jR (jN [zV 146 16,zF 147 4 14,zM 148 147,zi 149 148,zj 150 146 149] (jO 150 jQ (.exit 2))) k87_12
def k87_14:=jN [zL 169 5 14,yg 170,zS 5 6 169,zS 3 7 170] jP
def k87_15:=jR (jN [zK 16 0] (.block 2 (.loop b87_13))) k87_14
def k87_16:=jR (jN [zK 15 0] (.block 0 (.loop b87_10))) k87_15
def k87_17:=jN [zF 110 3 14,zM 111 110,zV 112 8,jd 113,zX 114 5 111 112,zS 5 114 113] k87_16
def k87_18:=jR (.drawn [(0,zF 101 3 14),(1,zM 102 101),(3,zF 104 3 14),(4,zM 105 104),(5,zV 106 8),(6,zX 107 5 105 106),(7,zL 108 5 107),(2,zV 103 11),(8,zX 109 5 102 103),(9,zS 5 109 108)] [[],[0],[],[],[3],[],[4,5],[6],[1,2,0,1,2,3,4,5,6,7],[8,7,0,1,2,3,4,5,6,7]] 0) k87_17
def k87_19:=jN [zL 99 5 3,zd 100 165 99,za 14,zS 5 14 100] k87_18
def k87_20:=jR (jN [zF 85 0 9,zM 86 85,zQ 87 86 2,zV 88 87,zq 89 88 5 3,zu 90 88 1 9,zr 91 88 90,zw 92 11 88,jf 93 88 170 89 91 92,zA 94 88 93] (jO 94 k87_7 jQ)) k87_19
def k87_21:=jR (jN [zF 68 0 5,zM 69 68,zk 70 69 4] (jO 70 k87_6 jQ)) k87_20
def k87_22:=jR (jN [zV 61 10,zk 62 61 0] (jO 62 k87_4 jQ)) k87_21
def k87_23:=jN [zL 54 5 3,zV 55 1,zF 56 2 5,zM 57 56,zm 58 160 54 55 57,zV 53 58,zE 59 53 0,zE 60 53 1,zV 11 59,zV 10 60] k87_22
def k87_24:=jR (jN [zF 33 0 5,zM 34 33,zQ 35 34 3] (jO 35 k87_3 jQ)) k87_23
def k87_25:=jR (jN [zV 26 10,zk 27 26 0] (jO 27 k87_0 jQ)) k87_24
def k87_26:=jN [zL 18 5 3,zV 19 1,zF 20 1 5,zM 21 20,zm 22 88 18 19 21,zV 17 22,zE 23 17 0,zE 24 17 1,zE 25 17 2,zg 9,zV 8 23,zS 4 9 24,zV 10 25] k87_25
def c87:=jN [zh 3 0,zh 5 2,za 6,zy 7] k87_26
theorem ok87:Ao Tryz.prog 87 c87 171 [.c 6 (some 5),.c 7 (some 3)]=true:=by kernel_rfl
def w87:=aW k87_0.eq_1 (aW k87_1.eq_1 (aW k87_2.eq_1 (aW k87_3.eq_1 (aW k87_4.eq_1 (aW k87_5.eq_1 (aW k87_6.eq_1 (aW k87_7.eq_1 (aW k87_8.eq_1 (aW k87_9.eq_1 (aW k87_11.eq_1 (aW k87_12.eq_1 (aW k87_14.eq_1 (aW k87_15.eq_1 (aW k87_16.eq_1 (aW k87_17.eq_1 (aW k87_18.eq_1 (aW k87_19.eq_1 (aW k87_20.eq_1 (aW k87_21.eq_1 (aW k87_22.eq_1 (aW k87_23.eq_1 (aW k87_24.eq_1 (aW k87_25.eq_1 (oW k87_26.eq_1))))))))))))))))))))))))
def k88_0:=jN [zl 21,zV 22 10,zK 6 0,zS 4 7 21,zV 8 22] jP
def k88_1:=jN [zl 32,zK 6 0,zS 4 7 32,zK 8 4] jP
def k88_2:=jR (.drawn [(1,zL 34 4 11),(0,zV 33 9),(2,zV 6 33),(3,zS 4 7 34),(4,zK 8 0)] [[],[],[0,0],[1,2,0,1,2],[3,0,1,2,3]] 0) jP
def k88_3:=jR (jN [zF 29 0 11,zM 30 29,zQ 31 30 0] (jO 31 k88_1 jQ)) k88_2
def k88_4:=jN [zF 23 3 3,zM 24 23,zV 25 9,zX 26 5 24 25,zF 27 0 26,zL 28 4 27,zg 11,zS 4 11 28] k88_3
def k88_5:=jR (jN [zV 19 10,zk 20 19 0] (jO 20 k88_0 jQ)) k88_4
def k88_6:=jN [zL 13 5 3,zV 14 1,zV 15 2,zm 16 171 13 14 15,zV 12 16,zE 17 12 0,zE 18 12 1,zV 9 17,zV 10 18] k88_5
def c88:=jN [zh 3 0,zK 6 0,zg 7,zK 8 0] k88_6
theorem ok88:Ao Tryz.prog 88 c88 35 [.t 6,.c 7 (some 4),.t 8]=true:=by kernel_rfl
def w88:=aW k88_0.eq_1 (aW k88_1.eq_1 (aW k88_2.eq_1 (aW k88_3.eq_1 (aW k88_4.eq_1 (aW k88_5.eq_1 (oW k88_6.eq_1))))))
def k89_0:AD:= .region [zV 32 5,zV 33 6,yt 34 33,yC 35 1 8 32 34,zV 5 35]
def k89_1:AD:= .region [zV 25 0,zV 26 7,zX 27 1 25 26,zM 28 27,zV 7 28]
def k89_2:=jR (.block 3 (jN [zV 29 7,zV 30 1,yy 31 29 30] (jO 31 k89_0 jQ))) k89_1
def b89_3:=jR (jN [zV 23 7,zR 24 23 0] (jO 24 jQ (.exit 2))) k89_2
def k89_4:=jR (.block 1 (jN [zV 19 0,zV 20 6,zX 21 1 19 20,zM 22 21,zV 7 22] (.block 2 (.loop b89_3)))) (.region [zV 17 6,zc 18 17,zV 6 18])
def b89_5:=jR (jN [zV 8 6,zV 9 0,zi 10 9,zj 11 8 10,zV 12 11,zw 13 0 12,zw 14 1 12,zP 15 12 172 13 14,zA 16 12 15] (jO 16 jQ (.exit 0))) k89_4
def k89_6:=jR (jN [zK 6 0] (.block 0 (.loop b89_5))) (jN [zV 36 5,zV 4 36] jP)
def c89:=jN [zp 4] (jN [zp 5] k89_6)
theorem ok89:Ao Tryz.prog 89 c89 37 [.t 4]=true:=by kernel_rfl
def w89:=aW k89_0.eq_1 (aW k89_1.eq_1 (aW k89_2.eq_1 (aW k89_4.eq_1 (oW k89_6.eq_1))))
def k90_0:AD:= .region [zV 20 3,jb 21 (-2),yC 22 1 8 20 21,zV 3 22]
def k90_1:AD:= .region [zV 23 3,zF 24 3 1,zM 25 24,zV 26 4,zX 27 5 25 26,zF 28 4 27,zM 29 28,yt 30 29,yC 31 1 8 23 30,zV 3 31]
def k90_2:=jR (.block 1 (jN [zF 12 3 1,zM 13 12,zV 14 4,zX 15 5 13 14,zF 16 0 15,zL 17 4 16,zl 18,jg 19 17 18] (jO 19 k90_0 k90_1))) (.region [zV 10 4,zc 11 10,zV 4 11])
def b90_3:=jR (jN [zV 5 4,zF 6 3 1,zM 7 6,zi 8 7,zj 9 5 8] (jO 9 jQ (.exit 0))) k90_2
def k90_4:=jR (jN [zK 4 0] (.block 0 (.loop b90_3))) (jN [zV 32 3,zV 2 32] jP)
def c90:=jN [zh 1 0,zp 2] (jN [zp 3] k90_4)
theorem ok90:Ao Tryz.prog 90 c90 33 [.t 2]=true:=by kernel_rfl
def w90:=aW k90_0.eq_1 (aW k90_1.eq_1 (aW k90_2.eq_1 (oW k90_4.eq_1)))
def k91_0:=jN [zL 24 5 2,zS 5 4 24,zK 5 0] jP
def k91_1:AD:= .region [zV 63 6,zV 64 1,zV 65 7,zX 66 1 64 65,zM 67 66,zX 68 1 63 67,yA 68]
def k91_2:=jR (.block 1 (jR (.drawn [(0,zV 35 1),(1,zV 36 7),(2,zX 37 1 35 36),(3,zM 38 37),(4,zR 39 38 0),(5,zV 40 39),(6,zw 41 1 40),(7,zw 42 7 40),(8,z7 43 40 1 41 42),(9,zr 44 40 43),(10,zu 45 40 3 2),(11,zr 46 40 45),
 (12,yB 47 40 46),(13,yo 48 40 44 47),(14,zA 49 40 48),(15,zV 50 49),(16,zu 51 50 3 2),(17,zr 52 50 51),(18,zw 53 1 50),(19,zw 54 7 50),(20,z7 55 50 1 53 54),(21,zr 56 50 55),(22,z7 57 50 5 52 56),
 (23,zu 58 50 0 57),(24,zu 59 50 0 58),(25,zr 60 50 59),(26,ya 61 50 60 0),(27,zA 62 50 61)] [[],[],[0,1],[2],[3],[4],[5],[5],[6,7,5],[8,5],[5],[10,5],[11,5],[9,12,5],[5,13],[14,5],[15],[16,15],[15],[15],[18,19,15],[20,15],[17,21,15],[22,15],[23,15],[24,15],[25,15],[15,26]] 0) (jO 62 k91_1 jQ))) (.region [zV 33 7,
 zc 34 33,zV 7 34])
def b91_3:=jR (jN [zV 29 7,zV 30 1,zi 31 30,zj 32 29 31] (jO 32 jQ (.exit 0))) k91_2
def k91_4:=jR (.block 7 (.region [zV 116 13,zV 117 116,zY 118 6 117,zY 119 12 117,zY 120 14 117,yd 121 117 1 119 120,zH 122 117 121,yd 123 117 1 118 122,zH 124 117 123,ye 125 117 124,zO 126 117 125,zV 13 126]))
 (.region [zV 114 14,zc 115 114,zV 14 115])
def b91_5:=jR (jN [zV 110 14,zV 111 12,zi 112 111,zj 113 110 112] (jO 113 jQ (.exit 6))) k91_4
def k91_6:AD:= .region [zV 162 6,zV 163 15,zX 164 1 162 163,yA 164]
def k91_7:=jR (.block 9 (jN [zF 145 4 2,zM 146 145,zV 147 10,zX 148 13 146 147,zL 149 13 148,zV 150 15,ze 151 173 149 150,zV 152 151,zu 153 152 3 2,zr 154 152 153,zw 155 15 152,z7 156 152 5 154 155,zu 157 152 0 156,zu 158 152 0 157,
 zr 159 152 158,ya 160 152 159 0,zA 161 152 160] (jO 161 k91_6 jQ))) (.region [zV 143 15,zc 144 143,zV 15 144])
def b91_8:=jR (jN [zV 132 15,zF 133 3 2,zM 134 133,zi 135 134,zj 136 132 135,zV 137 136,zw 138 8 137,zw 139 10 137,z7 140 137 1 138 139,zr 141 137 140,zA 142 137 141] (jO 142 jQ (.exit 8))) k91_7
def k91_9:=jN [zV 127 8,zV 128 10,zV 129 13,zN 130 129,zX 131 1 127 128,zS 1 131 130] (jN [zK 15 0] (.block 8 (.loop b91_8)))
def k91_10:=jR (jN [zK 14 0] (.block 6 (.loop b91_5))) k91_9
def k91_11:=jN [zV 100 11,zV 101 100,zz 102 101 4 2,zH 103 101 102,zY 104 10 101,yd 105 101 13 103 104,zz 106 101 0 105,zH 107 101 106,yw 108 101 107 0,zO 109 101 108,zV 13 109] k91_10
def k91_12:=jN [zL 97 5 2,zV 98 10,ze 99 156 97 98,zV 12 99] k91_11
def k91_13:=jR (.block 5 (jN [zV 87 10,zR 88 87 2,zV 89 88,zw 90 10 89,zu 91 89 0 2,zu 92 89 0 91,zr 93 89 92,jA 94 89 93,yo 95 89 90 94,zA 96 89 95,zV 11 96] k91_12)) (.region [zV 85 10,
 zc 86 85,zV 10 86])
def b91_14:=jR (jN [zV 80 10,zF 81 4 2,zM 82 81,zi 83 82,zj 84 80 83] (jO 84 jQ (.exit 4))) k91_13
def k91_15:=jR (.block 3 (jN [zK 10 0] (.block 4 (.loop b91_14)))) (.region [zV 78 9,zc 79 78,zV 9 79])
def b91_16:=jR (jN [zV 73 9,zF 74 4 2,zM 75 74,zi 76 75,W1 77 (.bin .leq (.t 73) (.t 76))] (jO 77 jQ (.exit 2))) k91_15
def k91_17:=jN [zV 183 17,zc 184 183,zV 17 184] (.exit 11)
def k91_18:=jN [zF 178 3 16,zM 179 178,zV 180 18,jd 181,zX 182 5 179 180,zS 5 182 181] k91_17
def k91_19:AD:= .block 13 (.region [zF 199 3 2,zM 200 199,zV 201 19,zX 202 5 200 201,zF 203 4 202,zM 204 203,zV 19 204])
def b91_20:=jR (jN [zV 191 19,zR 192 191 0,zV 193 192,zw 194 6 193,zw 195 19 193,z7 196 193 1 194 195,zr 197 193 196,zA 198 193 197] (jO 198 jQ (.exit 12))) k91_19
def k91_21:AD:= .region [zF 205 3 16,zM 206 205,zV 207 18,zV 208 19,zX 209 5 206 207,zF 210 4 209,zS 1 210 208]
def k91_22:=jN [zF 185 3 2,zM 186 185,zV 187 18,zX 188 5 186 187,zF 189 4 188,zM 190 189,zV 19 190] (jR (.block 12 (.loop b91_20)) k91_21)
def k91_23:=jR (.block 11 (jR (jN [zV 174 6,zV 175 18,zX 176 1 174 175,zM 177 176] (jO 177 k91_18 jQ)) k91_22)) (.region [zV 172 18,zc 173 172,zV 18 173])
def b91_24:=jR (jN [zV 167 18,zF 168 3 16,zM 169 168,zi 170 169,zj 171 167 170] (jO 171 jQ (.exit 10))) k91_23
def k91_25:AD:= .region [zF 222 4 16,zM 223 222,zV 224 20,zn 225,zX 226 13 223 224,zS 13 226 225]
def k91_26:AD:= .region [zF 246 4 16,zM 247 246,zV 248 20,zX 249 13 247 248,zF 250 5 249,yW 250 0]
def k91_27:=jN [zF 227 4 16,zM 228 227,zV 229 20,zX 230 13 228 229,zF 231 5 230,zM 232 231,yz 233 232 0,zV 234 233,zw 235 6 234,zu 236 234 4 16,zr 237 234 236,zw 238 20 234,z7 239 234 13 237 238,zu 240 234 5 239,
 zr 241 234 240,W2 242 234 true (.bin .sub (.t 241) (zI 1)),z7 243 234 1 235 242,zr 244 234 243,zA 245 234 244] (jO 245 k91_26 jQ)
def k91_28:=jR (.block 15 (jN [zV 218 8,zV 219 20,zX 220 1 218 219,zM 221 220] (jO 221 k91_25 k91_27))) (.region [zV 216 20,zc 217 216,zV 20 217])
def b91_29:=jR (jN [zV 211 20,zF 212 4 16,zM 213 212,zi 214 213,zj 215 211 214] (jO 215 jQ (.exit 14))) k91_28
def k91_30:=jN [zL 251 5 16,zV 252 17,zS 5 4 251,zV 5 252] jP
def k91_31:=jR (jN [zK 20 0] (.block 14 (.loop b91_29))) k91_30
def k91_32:=jR (jN [zK 18 0] (.block 10 (.loop b91_24))) k91_31
def k91_33:=jN [zL 165 5 2,zd 166 165 165,za 16,zS 5 16 166] (jN [zK 17 0] k91_32)
def k91_34:=jR (jN [zK 9 0] (.block 2 (.loop b91_16))) k91_33
def k91_35:=jN [zF 69 4 2,zM 70 69,zi 71 70,yZ 72 71,zV 8 72] k91_34
def k91_36:=jR (jN [zK 7 0] (.block 0 (.loop b91_3))) k91_35
def k91_37:=jN [zF 25 3 2,zM 26 25,zi 27 26,yZ 28 27,zV 6 28] k91_36
def k91_38:=jR (jN [zL 21 5 2,zd 22 83 21,zN 23 22] (jO 23 k91_0 jQ)) k91_37
def c91:=jN [zh 2 0,za 4,zK 5 0] k91_38
theorem ok91:Ao Tryz.prog 91 c91 253 [.c 4 (some 5),.t 5]=true:=by kernel_rfl
def w91:=aW k91_0.eq_1 (aW k91_1.eq_1 (aW k91_2.eq_1 (aW k91_4.eq_1 (aW k91_6.eq_1 (aW k91_7.eq_1 (aW k91_9.eq_1 (aW k91_10.eq_1 (aW k91_11.eq_1 (aW k91_12.eq_1 (aW k91_13.eq_1 (aW k91_15.eq_1 (aW k91_17.eq_1 (aW k91_18.eq_1 (aW k91_19.eq_1 (aW k91_21.eq_1 (aW k91_22.eq_1 (aW k91_23.eq_1 (aW k91_25.eq_1 (aW k91_26.eq_1 (aW k91_27.eq_1 (aW k91_28.eq_1 (aW k91_30.eq_1 (aW k91_31.eq_1 (aW k91_32.eq_1 (aW k91_33.eq_1 (aW k91_34.eq_1 (aW k91_35.eq_1 (aW k91_36.eq_1 (aW k91_37.eq_1 (oW k91_38.eq_1))))))))))))))))))))))))))))))
def k92_0:=jN [zL 30 5 3,zV 31 10,ze 32 85 30 31,zE 33 32 0,zE 34 32 1,zS 5 6 33,zS 3 7 34] jP
def k92_1:=jN [zL 38 5 3,zZ 39 85 38 7,zE 40 39 0,zE 41 39 1,zS 5 6 40,zS 3 7 41] jP
def k92_2:=jN [zL 70 5 3,zZ 71 85 70 6,zE 72 71 0,zE 73 71 1,zS 5 6 72,zS 3 7 73] jP
def k92_3:=jN [zL 89 5 3,zV 90 16,ze 91 85 89 90,zE 92 91 0,zE 93 91 1,zS 5 6 92,zS 3 7 93] jP
def k92_4:=jN [zL 97 5 3,zZ 98 85 97 7,zE 99 98 0,zE 100 98 1,zS 5 6 99,zS 3 7 100] jP
def k92_5:=jR (jN [zF 94 0 15,zM 95 94,zQ 96 95 1] (jO 96 k92_4 jQ)) (.region [zV 101 14,zc 102 101,zV 13 102])
def k92_6:=jR (jN [zV 87 16,zk 88 87 0] (jO 88 k92_3 jQ)) k92_5
def k92_7:=jN [zL 79 5 3,zV 80 1,zF 81 2 5,zM 82 81,zm 83 88 79 80 82,zV 78 83,zE 84 78 0,zE 85 78 1,zE 86 78 2,zg 15,zV 14 84,zS 4 15 85,zV 16 86] k92_6
def k92_8:=jN [zL 105 5 3,zZ 106 85 105 13,zE 107 106 0,zE 108 106 1,zS 5 6 107,zS 3 7 108] jP
def k92_9:=jN [zL 120 5 12,yg 121,zS 5 6 120,zS 3 7 121] jP
def k92_10:=jN [zF 109 4 12,zM 110 109,zF 111 1 9,zM 112 111,zF 113 5 5,zM 114 113,zF 115 3 9,zM 116 115,zV 117 13,W1 118 (.build [.int .i64 0,.int .i64 0,.int .i64 0,.int .i64 0,.int .i64 0,.int .i64 0,.int .i64 0,.bool false,.int .u64 0,.int .u64 0,.int .u64 0,.int .u64 0,.int .u64 0] [(0,1,(zI 3)),(7,1,(.c (.bool true))),(8,1,(.t 114)),(6,1,(.t 116)),(5,1,(.t 117))]),
 zX 119 13 110 112,zS 13 119 118] k92_9
def k92_11:=jR (jN [zF 103 7 11,zM 104 103] (jO 104 k92_8 jQ)) k92_10
def k92_12:=jR (jN [zF 74 2 5,zM 75 74,zi 76 75,yz 77 76 0] (jO 77 k92_7 jQ)) k92_11
def k92_13:=jR (jN [zF 53 2 9,zM 54 53,jp 55 54,yH 56 55 2,zQ 57 56 0,zV 58 57,zz 59 58 2 5,zH 60 58 59,zT 61 58 60,yr 62 58 61 0,zY 63 62 58,zu 64 63 2 9,
 zr 65 63 64,W2 66 63 true (.bin .quo (.t 65) (zI 4)),z8 67 63 66 0,yf 68 58 63 67,zO 69 58 68] (jO 69 k92_2 jQ)) k92_12
def k92_14:=jO 52 (jN [zK 13 0] k92_13) jQ
def k92_15:=jN [zL 126 5 3,zZ 127 85 126 6,zE 128 127 0,zE 129 127 1,zS 5 6 128,zS 3 7 129] jP
def k92_16:=jN [zL 133 5 3,zZ 134 85 133 14,zE 135 134 0,zE 136 134 1,zS 5 6 135,zS 3 7 136] jP
def k92_17:=jN [zL 156 5 3,zV 157 18,ze 158 85 156 157,zE 159 158 0,zE 160 158 1,zS 5 6 159,zS 3 7 160] jP
def k92_18:=jN [zL 180 5 3,zV 181 18,ze 182 85 180 181,zE 183 182 0,zE 184 182 1,zS 5 6 183,zS 3 7 184] jP
def k92_19:=jN [zV 178 18,zk 179 178 0] (jO 179 k92_18 jQ)
def k92_20:=jR (.drawn [(0,zL 162 5 3),(1,zF 163 5 11),(2,zM 164 163),(5,zF 167 3 3),(6,zM 168 167),(7,zF 169 5 11),(8,zM 170 169),(9,W1 171 (.bin .sub (.t 170) (zI 1))),(10,zX 172 5 168 171),(11,zF 173 0 172),(12,zL 174 4 173),(3,W1 165 (.bin .sub (.t 164) (zI 1))),(4,zV 166 17),(13,jJ 175 169 162 165 166 174),(14,zV 161 175),
 (15,zE 176 161 0),(17,zS 5 12 176),(16,zE 177 161 1),(18,zV 18 177)] [[],[],[1],[2],[],[],[5],[],[7],[8],[6,9],[10],[11],[0,3,4,12],[13],[14],[14],[15,13,0,1,2,3,4,5,6,7,8,9,10,11,12,13,14,15],[16,17,0,1,2,3,4,5,6,7,8,9,10,11,12,13,14,15,16,17]] 0) k92_19
def k92_21:=jR (jN [zV 154 18,zk 155 154 0] (jO 155 k92_17 jQ)) k92_20
def k92_22:=jN [zL 147 5 3,zV 148 1,zF 149 2 5,zM 150 149,zm 151 160 147 148 150,zV 146 151,zE 152 146 0,zE 153 146 1,zV 17 152,zV 18 153] k92_21
def k92_23:=jR (.drawn [(0,zL 191 5 12),(1,zF 192 8 11),(2,zM 193 192),(3,zF 194 6 11),(4,zM 195 194),(6,zS 5 6 191),(5,yR 196 193 195),(7,zS 3 7 196)] [[],[],[1],[],[3],[2,4],[0,0],[5,6,0,1,2,3,4,5,6]] 0) jP
def k92_24:=jN [zF 185 4 12,zM 186 185,zF 187 1 9,zM 188 187,W1 189 (.build [.int .i64 0,.int .i64 0,.int .i64 0,.int .i64 0,.int .i64 0,.int .i64 0,.int .i64 0,.bool false,.int .u64 0,.int .u64 0,.int .u64 0,.int .u64 0,.int .u64 0] [(0,1,(zI 3))]),zX 190 13 186 188,zS 13 190 189] k92_23
def k92_25:=jR (jN [zF 137 2 5,zM 138 137,zi 139 138,yz 140 139 0,zV 141 140,zu 142 141 5 11,zr 143 141 142,W2 144 141 true (.bin .gtr (.t 143) (zI 0)),zA 145 141 144] (jO 145 k92_22 jQ)) k92_24
def k92_26:=jR (jN [zF 130 7 11,zM 131 130,zN 132 131] (jO 132 k92_16 jQ)) k92_25
def k92_27:=jR (jN [zF 122 2 9,zM 123 122,yH 124 123 2,zQ 125 124 0] (jO 125 k92_15 jQ)) k92_26
def k92_28:=jR (jN [zF 50 0 5,zM 51 50,zQ 52 51 7] k92_14) k92_27
def k92_29:=jN [zL 48 5 3,zd 49 165 48,za 12,zS 5 12 49] k92_28
def k92_30:=jN [zF 42 4 3,zM 43 42,zF 44 1 9,zM 45 44,zX 46 13 43 45,zL 47 13 46,zb 11,zS 13 11 47] k92_29
def k92_31:=jR (jN [zF 35 0 9,zM 36 35,zk 37 36 3] (jO 37 k92_1 jQ)) k92_30
def k92_32:=jR (jN [zV 28 10,zk 29 28 0] (jO 29 k92_0 jQ)) k92_31
def k92_33:=jN [zL 20 5 3,zV 21 1,zF 22 1 5,zM 23 22,zm 24 88 20 21 23,zV 19 24,zE 25 19 0,zE 26 19 1,zE 27 19 2,zg 9,zV 8 25,zS 4 9 26,zV 10 27] k92_32
def c92:=jN [zh 3 0,zh 5 2,za 6,zy 7] k92_33
theorem ok92:Ao Tryz.prog 92 c92 197 [.c 6 (some 5),.c 7 (some 3)]=true:=by kernel_rfl
def w92:=aW k92_0.eq_1 (aW k92_1.eq_1 (aW k92_2.eq_1 (aW k92_3.eq_1 (aW k92_4.eq_1 (aW k92_5.eq_1 (aW k92_6.eq_1 (aW k92_7.eq_1 (aW k92_8.eq_1 (aW k92_9.eq_1 (aW k92_10.eq_1 (aW k92_11.eq_1 (aW k92_12.eq_1 (aW k92_13.eq_1 (aW k92_14.eq_1 (aW k92_15.eq_1 (aW k92_16.eq_1 (aW k92_17.eq_1 (aW k92_18.eq_1 (aW k92_19.eq_1 (aW k92_20.eq_1 (aW k92_21.eq_1 (aW k92_22.eq_1 (aW k92_23.eq_1 (aW k92_24.eq_1 (aW k92_25.eq_1 (aW k92_26.eq_1 (aW k92_27.eq_1 (aW k92_28.eq_1 (aW k92_29.eq_1 (aW k92_30.eq_1 (aW k92_31.eq_1 (aW k92_32.eq_1 (oW k92_33.eq_1)))))))))))))))))))))))))))))))))
def k93_0:=jN [zL 24 5 3,zV 25 10,ze 26 85 24 25,zE 27 26 0,zE 28 26 1,zS 5 6 27,zS 3 7 28] jP
def k93_1:=jN [zL 32 5 3,zZ 33 85 32 7,zE 34 33 0,zE 35 33 1,zS 5 6 34,zS 3 7 35] jP
def k93_2:=jN [zL 53 5 3,zZ 54 85 53 6,zE 55 54 0,zE 56 54 1,zS 5 6 55,zS 3 7 56] jP
def k93_3:AD:= .region [zF 63 4 11,zM 64 63,zF 65 1 9,zM 66 65,zV 67 12,zF 68 3 9,zM 69 68,yH 70 69 64,yU 71 70,W1 72 (.bin .shl (.c (.int .u64 1)) (.t 71)),z6 73 67 72,zX 74 13 64 66,zF 75 8 74,zS 1 75 73]
def k93_4:=jN [zL 76 5 11,yg 77,zS 5 6 76,zS 3 7 77] jP
def k93_5:=jR (jN [zV 57 12,zF 58 3 9,zM 59 58,yH 60 59 64,ze 61 174 57 60,zN 62 61] (jO 62 k93_3 jQ)) k93_4
def k93_6:=jR (jN [zF 48 2 9,zM 49 48,jp 50 49,yH 51 50 2,zQ 52 51 0] (jO 52 k93_2 jQ)) k93_5
def k93_7:=jN [zL 82 5 3,zZ 83 85 82 6,zE 84 83 0,zE 85 83 1,zS 5 6 84,zS 3 7 85] jP
def k93_8:=jN [zL 88 5 3,zZ 89 85 88 14,zE 90 89 0,zE 91 89 1,zS 5 6 90,zS 3 7 91] jP
def k93_9:=jN [zL 98 5 11,zV 99 12,zv 100 1 99,zS 5 6 98,zS 3 7 100] jP
def k93_10:=jN [zF 92 4 11,zM 93 92,zF 94 1 9,zM 95 94,zX 96 13 93 95,zF 97 8 96,⟨none,.st 1 (.t 97) (.c (.int .u64 0)),none⟩] k93_9
def k93_11:=jR (jN [zV 86 12,W1 87 (.bin .eql (.t 86) (.c (.int .u64 0)))] (jO 87 k93_8 jQ)) k93_10
def k93_12:=jR (jN [zF 78 2 9,zM 79 78,yH 80 79 2,zQ 81 80 0] (jO 81 k93_7 jQ)) k93_11
def k93_13:=jR (jN [zF 45 0 5,zM 46 45,zQ 47 46 9] (jO 47 k93_6 jQ)) k93_12
def k93_14:=jN [zF 38 4 3,zM 39 38,zF 40 1 9,zM 41 40,zX 42 13 39 41,zF 43 8 42,zM 44 43,zV 12 44] k93_13
def k93_15:=jN [zL 36 5 3,zd 37 165 36,za 11,zS 5 11 37] k93_14
def k93_16:=jR (jN [zF 29 0 9,zM 30 29,zk 31 30 4] (jO 31 k93_1 jQ)) k93_15
def k93_17:=jR (jN [zV 22 10,zk 23 22 0] (jO 23 k93_0 jQ)) k93_16
def k93_18:=jN [zL 14 5 3,zV 15 1,zF 16 1 5,zM 17 16,zm 18 88 14 15 17,zV 13 18,zE 19 13 0,zE 20 13 1,zE 21 13 2,zg 9,zV 8 19,zS 4 9 20,zV 10 21] k93_17
def c93:=jN [zh 3 0,zh 5 2,za 6,zy 7] k93_18
theorem ok93:Ao Tryz.prog 93 c93 101 [.c 6 (some 5),.c 7 (some 3)]=true:=by kernel_rfl
def w93:=aW k93_0.eq_1 (aW k93_1.eq_1 (aW k93_2.eq_1 (aW k93_3.eq_1 (aW k93_4.eq_1 (aW k93_5.eq_1 (aW k93_6.eq_1 (aW k93_7.eq_1 (aW k93_8.eq_1 (aW k93_9.eq_1 (aW k93_10.eq_1 (aW k93_11.eq_1 (aW k93_12.eq_1 (aW k93_13.eq_1 (aW k93_14.eq_1 (aW k93_15.eq_1 (aW k93_16.eq_1 (aW k93_17.eq_1 (oW k93_18.eq_1))))))))))))))))))
def k94_0:=jN [zL 25 5 3,zV 26 10,ze 27 85 25 26,zE 28 27 0,zE 29 27 1,zS 5 6 28,zS 3 7 29] jP
def k94_1:=jR (.drawn [(0,zL 38 5 3),(2,zL 40 5 3),(3,zd 41 90 40),(4,zV 42 8),(5,ze 43 176 41 42),(7,zS 5 6 38),(1,zV 39 11),(6,yR 44 39 43),(8,zS 3 7 44)] [[],[],[],[2],[],[3,4,3],[1,5],[0,5,0],[6,7,0,1,2,3,4,5,6,7]] 0) jP
def k94_2:=jN [zL 34 4 9,zd 35 175 34,zV 33 35,zE 36 33 0,zE 37 33 1,zV 11 36,zV 12 37] k94_1
def k94_3:=jN [zL 48 5 3,zZ 49 85 48 7,zE 50 49 0,zE 51 49 1,zS 5 6 50,zS 3 7 51] jP
def k94_4:=jN [zL 60 5 3,zZ 61 85 60 6,zE 62 61 0,zE 63 61 1,zS 5 6 62,zS 3 7 63] jP
def k94_5:=jN [zL 77 5 13,yg 78,zS 5 6 77,zS 3 7 78] jP
def k94_6:=jR (.drawn [(0,zF 66 4 13),(1,zM 67 66),(2,zF 68 1 9),(3,zM 69 68),(4,zF 70 3 5),(5,zM 71 70),(6,zF 72 5 5),(7,zM 73 72),(8,zX 74 13 67 69),(9,zF 75 9 74),(10,jm 76 4 75 71),(11,zS 1 76 73)] [[],[0],[],[2],[],[4],[],[6],[1,3],[8],[9,5,0,1,2,3,4,5,6,7],[10,7,0,1,2,3,4,5,6,7]] 0) k94_5
def k94_7:=jN [zL 64 5 3,zd 65 165 64,za 13,zS 5 13 65] k94_6
def k94_8:=jR (jN [zF 55 2 9,zM 56 55,jp 57 56,yH 58 57 2,zQ 59 58 0] (jO 59 k94_4 jQ)) k94_7
def k94_9:=jN [zL 83 5 3,zZ 84 85 83 6,zE 85 84 0,zE 86 84 1,zS 5 6 85,zS 3 7 86] jP
def k94_10:=jR (.drawn [(0,zL 87 5 3),(1,zF 88 4 3),(2,zM 89 88),(3,zF 90 1 9),(4,zM 91 90),(5,zF 92 3 5),(6,zM 93 92),(7,zX 94 13 89 91),(8,zF 95 9 94),(9,jm 96 4 95 93),(10,zM 97 96),(12,zS 5 6 87),(11,zv 98 1 97),(13,zS 3 7 98)]
 [[],[],[1],[],[3],[],[5],[2,4],[7],[8,6],[9],[10],[0,0],[11,12,0,1,2,3,4,5,6,7,8,9,10,11,12]] 0) jP
def k94_11:=jR (jN [zF 79 2 9,zM 80 79,yH 81 80 2,zQ 82 81 0] (jO 82 k94_9 jQ)) k94_10
def k94_12:=jR (jN [zF 52 0 5,zM 53 52,zQ 54 53 11] (jO 54 k94_8 jQ)) k94_11
def k94_13:=jR (jN [zF 45 0 9,zM 46 45,zk 47 46 5] (jO 47 k94_3 jQ)) k94_12
def k94_14:=jR (jN [zF 30 0 5,zM 31 30,zQ 32 31 13] (jO 32 k94_2 jQ)) k94_13
def k94_15:=jR (jN [zV 23 10,zk 24 23 0] (jO 24 k94_0 jQ)) k94_14
def k94_16:=jN [zL 15 5 3,zV 16 1,zF 17 1 5,zM 18 17,zm 19 88 15 16 18,zV 14 19,zE 20 14 0,zE 21 14 1,zE 22 14 2,zg 9,zV 8 20,zS 4 9 21,zV 10 22] k94_15
def c94:=jN [zh 3 0,zh 5 2,za 6,zy 7] k94_16
theorem ok94:Ao Tryz.prog 94 c94 99 [.c 6 (some 5),.c 7 (some 3)]=true:=by kernel_rfl
def w94:=aW k94_0.eq_1 (aW k94_1.eq_1 (aW k94_2.eq_1 (aW k94_3.eq_1 (aW k94_4.eq_1 (aW k94_5.eq_1 (aW k94_6.eq_1 (aW k94_7.eq_1 (aW k94_8.eq_1 (aW k94_9.eq_1 (aW k94_10.eq_1 (aW k94_11.eq_1 (aW k94_12.eq_1 (aW k94_13.eq_1 (aW k94_14.eq_1 (aW k94_15.eq_1 (oW k94_16.eq_1))))))))))))))))
def k130_0:=jN [zF 3 0 1,zM 4 3,zR 5 4 1,zV 6 5,zu 7 6 0 1,zr 8 6 7,yF 9 6 8 4,zA 10 6 9,zV 11 10,zu 12 11 1 1,zr 13 11 12,zu 14 11 0 1,zr 15 11 14,
 W2 16 11 true (.bin .mul (zI 8) (.t 15)),js 17 11 13 16,zA 18 11 17,zV 19 18,zu 20 19 1 1,zr 21 19 20,yF 22 19 21 96,zA 23 19 22,zV 24 23,zu 25 24 1 1,zr 26 24 25,
 jL 27 24 26 8,z8 28 24 27 0,zA 29 24 28,zV 30 29,zu 31 30 2 1,zr 32 30 31,zu 33 30 0 1,zr 34 30 33,W2 35 30 true (.bin .add (.t 34) (zI 2)),js 36 30 32 35,zA 37 30 36,
 zV 38 37,zu 39 38 2 1,zr 40 38 39,yF 41 38 40 48,zA 42 38 41,zV 2 42] jP
def c130:=jN [zh 1 0,zo 2] k130_0
theorem ok130:Ao Tryz.prog 130 c130 43 [.t 2]=true:=by kernel_rfl
def k131_0:=jN [zV 7 0,zV 8 1,yD 9 7 8,zV 10 9,zw 11 0 10,zw 12 2 10,yS 13 10 11 12,zA 14 10 13,zV 6 14] jP
def c131:=jN [zo 6] k131_0
theorem ok131:Ao Tryz.prog 131 c131 15 [.t 6]=true:=by kernel_rfl
def k150_0:=jO 30 (jN [zo 2] jP) jQ
def k150_1:=jN [zF 19 3 1,zM 20 19,yb 21 131 20 1 4096,zN 22 21,zV 23 22,zz 24 23 4 1,zH 25 23 24,zz 26 23 3 1,zH 27 23 26,jk 28 23 131 25 27,ye 29 23 28,zO 30 23 29] k150_0
def k150_2:=jR (.drawn [(0,zF 13 3 1),(1,zM 14 13),(2,zF 15 4 1),(3,zM 16 15),(4,zF 17 3 3),(5,zS 1 17 14),(6,zF 18 4 3),(7,zS 1 18 16)] [[],[0],[],[2],[0,1],[4,1,0,1],[0,1,2,3,4,5],[6,3,5,0,1,2,3,4,5]] 0) k150_1
def k150_3:=jO 52 (jN [zo 2] jP) jQ
def k150_4:=jR (.drawn [(0,zF 39 1 1),(1,zM 40 39),(2,yb 41 131 40 1 4),(3,zN 42 41),(4,zV 43 42),(5,zz 44 43 2 1),(6,zH 45 43 44),(7,zz 46 43 1 1),(8,zH 47 43 46),(9,yp 48 43 151 47),(10,W2 49 43 false (.bin .sub (zI 96) (.t 48))),
 (11,jk 50 43 131 45 49),(12,ye 51 43 50),(13,zO 52 43 51)] [[],[0],[1],[2],[3,2],[4],[5,4],[4],[7,4],[8,4,4],[9,4],[6,10,9,4],[11,4],[4,12]] 0) k150_3
def k150_5:=jR (.drawn [(0,zF 33 1 1),(1,zM 34 33),(2,zF 35 2 1),(3,zM 36 35),(4,zF 37 1 3),(5,zS 1 37 34),(6,zF 38 2 3),(7,zS 1 38 36)] [[],[0],[],[2],[0,1],[4,1,0,1],[0,1,2,3,4,5],[6,3,5,0,1,2,3,4,5]] 0) k150_4
def k150_6:AD:= .drawn [(0,zF 60 8 1),(1,zM 61 60),(2,zF 62 6 1),(3,zM 63 62),(4,zF 64 5 1),(5,zM 65 64),(6,zF 66 8 3),(7,zS 1 66 61),(8,zF 67 6 3),(9,zS 1 67 63),(10,zF 68 5 3),(11,zS 1 68 65)] [[],[0],[],[2],[],[4],[0,1],[6,1,0,1],[0,1,2,3,6,7],[8,3,7,0,1,2,3,6,7],[0,1,2,3,4,5,6,7,8,9],[10,5,9,0,1,2,3,4,5,6,7,8,9]] 0
def k150_7:=jO 78 (jN [zo 2] jP) jQ
def k150_8:=jN [zF 69 6 1,zM 70 69,yb 71 131 70 0 65535,zN 72 71,zV 73 72,zz 74 73 5 1,zH 75 73 74,W2 76 73 false (.call 131 [(.t 75),(zI 0),(zI 96)]),ye 77 73 76,zO 78 73 77] k150_7
def k150_9:=jR (jN [zF 58 7 1,zM 59 58] (jO 59 k150_6 jQ)) k150_8
def k150_10:=jN [zF 55 7 1,zM 56 55,zF 57 7 3,zS 1 57 56] k150_9
def k150_11:AD:= .region [zF 81 8 1,zM 82 81,zF 83 8 3,zS 1 83 82]
def k150_12:AD:= .region [zF 86 9 1,zL 87 4 86,zF 88 9 3,zS 4 88 87]
def k150_13:=jO 84 k150_12 (jN [zo 2] jP)
def k150_14:=jO 79 k150_11 (jN [zQ 85 8 5,zV 84 85] k150_13)
def k150_15:=jO 53 k150_10 (jN [zQ 80 8 4,zV 79 80] k150_14)
def k150_16:=jO 31 k150_5 (jN [zQ 54 8 3,zV 53 54] k150_15)
def k150_17:=jO 11 k150_2 (jN [zQ 32 8 2,zV 31 32] k150_16)
def k150_18:=jO 9 jQ (jN [zQ 12 8 1,zV 11 12] k150_17)
def k150_19:AD:= .block 0 (jN [zQ 10 8 0,zV 9 10] k150_18)
def k150_20:=jN [zL 89 13 3,zL 90 13 1,W1 91 (.eqs false [0,0,0,0,0,0,0,1,0,0,0,0,0] (.t 89) (.t 90)),zV 2 91] jP
def k150_21:=jR (jN [zF 7 0 1,zM 8 7] k150_19) k150_20
def k150_22:=jN [zF 4 0 1,zM 5 4,zx 6 5,zb 3,zS 13 3 6] k150_21
def c150:=jN [zh 1 0,zo 2] k150_22
theorem ok150:Ao Tryz.prog 150 c150 92 [.t 2]=true:=by kernel_rfl
def w150:=aW k150_0.eq_1 (aW k150_1.eq_1 (aW k150_2.eq_1 (aW k150_3.eq_1 (aW k150_4.eq_1 (aW k150_5.eq_1 (aW k150_6.eq_1 (aW k150_7.eq_1 (aW k150_8.eq_1 (aW k150_9.eq_1 (aW k150_10.eq_1 (aW k150_11.eq_1 (aW k150_12.eq_1 (aW k150_13.eq_1 (aW k150_14.eq_1 (aW k150_15.eq_1 (aW k150_16.eq_1 (aW k150_17.eq_1 (aW k150_18.eq_1 (aW k150_19.eq_1 (aW k150_20.eq_1 (aW k150_21.eq_1 (oW k150_22.eq_1))))))))))))))))))))))
def k151_0:=jR (.block 1 (.region [zV 10 3,jx 11 2 10,zV 3 11])) (.region [zV 8 4,zc 9 8,zV 4 9])
def b151_1:=jR (jN [zV 5 4,zV 6 0,zj 7 5 6] (jO 7 jQ (.exit 0))) k151_0
def k151_2:=jR (jN [zK 4 0] (.block 0 (.loop b151_1))) (jN [zV 12 3,zV 2 12] jP)
def c151:=jN [zK 2 0] (jN [zK 3 1] k151_2)
theorem ok151:Ao Tryz.prog 151 c151 13 [.t 2]=true:=by kernel_rfl
def w151:=aW k151_0.eq_1 (oW k151_2.eq_1)
def k152_0:=jO 5 (jN [yu 2] jP) jQ
def k152_1:=jN [zF 6 0 1,zM 7 6,zR 8 7 1,zV 9 8,zu 10 9 0 1,zr 11 9 10,yF 12 9 11 5,zA 13 9 12,zV 14 13,zu 15 14 1 1,zr 16 14 15,yT 17 14 16,zA 18 14 17,
 zV 19 18,zu 20 19 1 1,zr 21 19 20,jt 22 19 21 48,zA 23 19 22,zV 24 23,zu 25 24 2 1,zr 26 24 25,yT 27 24 26,zA 28 24 27,zV 29 28,zu 30 29 2 1,zr 31 29 30,
 yF 32 29 31 7,zA 33 29 32,zV 34 33,zu 35 34 3 1,zr 36 34 35,yT 37 34 36,zA 38 34 37,zV 39 38,zu 40 39 3 1,zr 41 39 40,jt 42 39 41 65536,
 zA 43 39 42,zV 44 43,zu 45 44 3 1,zr 46 44 45,z8 47 44 46 0,zw 48 47 44,zz 49 48 0 1,zH 50 48 49,yw 51 48 50 3,zC 52 44 48 51,zw 53 52 44,
 zz 54 53 0 1,zH 55 53 54,yw 56 53 55 4,zC 57 44 53 56,zA 58 44 57,zV 2 58] jP
def k152_2:=jR (jN [zL 3 4 1,zl 4,jg 5 3 4] k152_0) k152_1
def c152:=jN [zh 1 0,zo 2] k152_2
theorem ok152:Ao Tryz.prog 152 c152 59 [.t 2]=true:=by kernel_rfl
def w152:=aW k152_0.eq_1 (aW k152_1.eq_1 (oW k152_2.eq_1))
def k153_0:=jO 19 (jN [zV 20 5,zV 4 20] jP) jQ
def k153_1:=jR (.block 1 (jN [zF 13 4 2,zM 14 13,zV 15 5,zX 16 13 14 15,zL 17 13 16,zV 18 1,ze 19 173 17 18] k153_0)) (.region [zV 11 5,zc 12 11,zV 5 12])
def b153_2:=jR (jN [zV 6 5,zF 7 4 2,zM 8 7,zi 9 8,zj 10 6 9] (jO 10 jQ (.exit 0))) k153_1
def k153_3:=jR (jN [zK 5 0] (.block 0 (.loop b153_2))) (jN [zK 4 (-1)] jP)
def c153:=jN [zh 2 0,zK 4 0] k153_3
theorem ok153:Ao Tryz.prog 153 c153 21 [.t 4]=true:=by kernel_rfl
def w153:=aW k153_0.eq_1 (aW k153_1.eq_1 (oW k153_3.eq_1))
def k154_0:=jO 9 (jN [zo 2] jP) jQ
def k154_1:=jO 46 (jN [zo 2] jP) jQ
def k154_2:=jR (.block 1 (jN [zV 16 0,zV 17 3,zX 18 1 16 17,zM 19 18,yk 20 19 (-2),zV 21 20,zY 22 0 21,zY 23 3 21,yd 24 21 1 22 23,zH 25 21 24,zY 26 0 21,zT 27 21 26,yx 28 21 25 27,
 zO 29 21 28,zV 30 29,zY 31 0 30,zY 32 3 30,yd 33 30 1 31 32,zH 34 30 33,W2 35 30 false (.bin .geq (.t 34) (zI 0)),zY 36 35 30,zw 37 0 36,zw 38 0 36,zw 39 3 36,z7 40 36 1 38 39,
 zr 41 36 40,z7 42 36 1 37 41,zr 43 36 42,z8 44 36 43 (-2),yf 45 30 36 44,zO 46 30 45] k154_1)) (.region [zV 14 3,zc 15 14,zV 3 15])
def b154_3:=jR (jN [zV 10 3,zV 11 0,zi 12 11,zj 13 10 12] (jO 13 jQ (.exit 0))) k154_2
def k154_4:AD:= .region [zV 62 0,zV 63 6,zX 64 1 62 63,zM 65 64,zV 6 65]
def k154_5:=jR (.block 5 (.region [zV 66 5,zc 67 66,zV 5 67])) k154_4
def b154_6:=jR (jN [zV 54 6,zR 55 54 0,zV 56 55,zw 57 5 56,zw 58 0 56,yB 59 56 58,yS 60 56 57 59,zA 61 56 60] (jO 61 jQ (.exit 4))) k154_5
def k154_7:=jO 71 (jN [zo 2] jP) jQ
def k154_8:=jN [zV 68 5,zV 69 0,zi 70 69,jn 71 68 70] k154_7
def k154_9:=jR (jN [zV 53 4,zV 6 53] (.block 4 (.loop b154_6))) k154_8
def k154_10:=jR (.block 3 (jN [zK 5 0] k154_9)) (.region [zV 51 4,zc 52 51,zV 4 52])
def b154_11:=jR (jN [zV 47 4,zV 48 0,zi 49 48,zj 50 47 49] (jO 50 jQ (.exit 2))) k154_10
def k154_12:=jR (jN [zK 4 0] (.block 2 (.loop b154_11))) (jN [yu 2] jP)
def k154_13:=jR (jN [zK 3 0] (.block 0 (.loop b154_3))) k154_12
def k154_14:=jR (jN [zV 7 0,zi 8 7,yz 9 8 96] k154_0) k154_13
def c154:=jN [zo 2] k154_14
theorem ok154:Ao Tryz.prog 154 c154 72 [.t 2]=true:=by kernel_rfl
def w154:=aW k154_0.eq_1 (aW k154_1.eq_1 (aW k154_2.eq_1 (aW k154_4.eq_1 (aW k154_5.eq_1 (aW k154_7.eq_1 (aW k154_8.eq_1 (aW k154_9.eq_1 (aW k154_10.eq_1 (aW k154_12.eq_1 (aW k154_13.eq_1 (oW k154_14.eq_1)))))))))))
def k155_0:=jO 7 (jN [yu 4] jP) jQ
def k155_1:=jN [zF 8 0 2,zM 9 8,zF 10 0 3,zM 11 10,yy 12 9 11,zV 13 12,zu 14 13 1 2,zr 15 13 14,zu 16 13 1 3,zr 17 13 16,yN 18 13 15 17,zA 19 13 18,zV 20 19,zu 21 20 2 2,
 zr 22 20 21,zu 23 20 2 3,zr 24 20 23,zP 25 20 216 22 24,zA 26 20 25,zV 27 26,zu 28 27 3 3,zr 29 27 28,z8 30 27 29 0,zw 31 30 27,zz 32 31 3 2,zH 33 31 32,
 zz 34 31 3 3,zH 35 31 34,jr 36 31 33 35,zC 37 27 31 36,zA 38 27 37,zV 4 38] jP
def k155_2:=jR (jN [zL 5 4 2,zl 6,jg 7 5 6] k155_0) k155_1
def c155:=jN [zh 2 0,zh 3 1,zo 4] k155_2
theorem ok155:Ao Tryz.prog 155 c155 39 [.t 4]=true:=by kernel_rfl
def w155:=aW k155_0.eq_1 (aW k155_1.eq_1 (oW k155_2.eq_1))
def k156_0:AD:= .region [zV 33 5,zV 34 6,yt 35 34,yC 36 1 8 33 35,zV 5 36]
def k156_1:=jR (.block 1 (jN [zF 14 3 2,zM 15 14,zV 16 6,zX 17 5 15 16,zF 18 0 17,zF 19 0 18,zM 20 19,zk 21 20 0,zV 22 21,zu 23 22 3 2,zr 24 22 23,zw 25 6 22,z7 26 22 5 24 25,zu 27 22 0 26,zu 28 22 1 27,
 zr 29 22 28,zw 30 1 22,yN 31 22 29 30,zA 32 22 31] (jO 32 k156_0 jQ))) (.region [zV 12 6,zc 13 12,zV 6 13])
def b156_2:=jR (jN [zV 7 6,zF 8 3 2,zM 9 8,zi 10 9,zj 11 7 10] (jO 11 jQ (.exit 0))) k156_1
def k156_3:=jR (jN [zK 6 0] (.block 0 (.loop b156_2))) (jN [zV 37 5,zV 4 37] jP)
def c156:=jN [zh 2 0,zp 4] (jN [zp 5] k156_3)
theorem ok156:Ao Tryz.prog 156 c156 38 [.t 4]=true:=by kernel_rfl
def w156:=aW k156_0.eq_1 (aW k156_1.eq_1 (oW k156_3.eq_1))
def k157_0:=jO 40 (jN [yu 4] jP) jQ
def k157_1:=jN [zF 24 0 6,zM 25 24,zQ 26 25 2,zV 27 26,zw 28 7 27,zw 29 1 27,yN 30 27 28 29,zA 31 27 30,zV 32 31,zq 33 32 5 2,zu 34 32 1 6,zr 35 32 34,zP 36 32 217 33 35,
 zw 37 1 32,z7 38 32 1 36 37,zr 39 32 38,zA 40 32 39] k157_0
def k157_2:=jN [zL 21 5 2,zV 22 5,ze 23 153 21 22,zV 7 23] k157_1
def k157_3:=jR (.block 1 (jN [zF 15 3 2,zM 16 15,zV 17 5,zX 18 5 16 17,zF 19 0 18,zL 20 4 19,zg 6,zS 4 6 20] k157_2)) (.region [zV 13 5,zc 14 13,zV 5 14])
def b157_4:=jR (jN [zV 8 5,zF 9 3 2,zM 10 9,zi 11 10,zj 12 8 11] (jO 12 jQ (.exit 0))) k157_3
def k157_5:=jR (jN [zK 5 0] (.block 0 (.loop b157_4))) (jN [zo 4] jP)
def c157:=jN [zh 2 0,zo 4] k157_5
theorem ok157:Ao Tryz.prog 157 c157 41 [.t 4]=true:=by kernel_rfl
def w157:=aW k157_0.eq_1 (aW k157_1.eq_1 (aW k157_2.eq_1 (aW k157_3.eq_1 (oW k157_5.eq_1))))
def k158_0:=jO 21 (jN [zo 2] jP) jQ
def k158_1:=jR (.block 1 (jN [zV 10 0,zV 11 3,zX 12 1 10 11,zM 13 12,yk 14 13 0,zV 15 14,zY 16 0 15,zY 17 3 15,yd 18 15 1 16 17,zH 19 15 18,yr 20 15 19 15,zO 21 15 20] k158_0)) (.region [zV 8 3,
 zc 9 8,zV 3 9])
def b158_2:=jR (jN [zV 4 3,zV 5 0,zi 6 5,zj 7 4 6] (jO 7 jQ (.exit 0))) k158_1
def k158_3:=jN [zV 22 0,zi 23 22,zR 24 23 1,zV 25 24,zw 26 0 25,yB 27 25 26,yF 28 25 27 3,zA 29 25 28,zV 2 29] jP
def k158_4:=jR (jN [zK 3 0] (.block 0 (.loop b158_2))) k158_3
def c158:=jN [zo 2] k158_4
theorem ok158:Ao Tryz.prog 158 c158 30 [.t 2]=true:=by kernel_rfl
def w158:=aW k158_0.eq_1 (aW k158_1.eq_1 (aW k158_3.eq_1 (oW k158_4.eq_1)))
def k159_0:=jN [zV 3 0,zi 4 3,zQ 5 4 0,zV 6 5,zY 7 0 6,yp 8 6 158 7,zO 9 6 8,zV 2 9] jP
def c159:=jN [zo 2] k159_0
theorem ok159:Ao Tryz.prog 159 c159 10 [.t 2]=true:=by kernel_rfl
def k160_0:=jN [zV 19 9,zK 6 0,zV 7 19] jP
def k160_1:=jO 27 (jN [zK 6 0,zK 7 5] jP) jQ
def k160_2:=jN [zV 28 8,zV 6 28,zK 7 0] jP
def k160_3:=jR (jN [zF 20 3 3,zM 21 20,zV 22 8,zX 23 5 21 22,zF 24 0 23,zF 25 0 24,zM 26 25,zk 27 26 0] k160_1) k160_2
def k160_4:=jR (jN [zV 17 9,zk 18 17 0] (jO 18 k160_0 jQ)) k160_3
def k160_5:=jN [zL 11 5 3,zV 12 1,zV 13 2,zm 14 171 11 12 13,zV 10 14,zE 15 10 0,zE 16 10 1,zV 8 15,zV 9 16] k160_4
def c160:=jN [zh 3 0,zK 6 0,zK 7 0] k160_5
theorem ok160:Ao Tryz.prog 160 c160 29 [.t 6,.t 7]=true:=by kernel_rfl
def w160:=aW k160_0.eq_1 (aW k160_1.eq_1 (aW k160_2.eq_1 (aW k160_3.eq_1 (aW k160_4.eq_1 (oW k160_5.eq_1)))))
def k161_0:=jN [zV 11 1,zV 4 11,yu 5] jP
def k161_1:=jN [zV 9 1,yb 10 131 9 1 4096] (jO 10 k161_0 jQ)
def k161_2:=jN [zV 16 1,zd 17 151 16,zV 4 17,yu 5] jP
def k161_3:=jN [zV 14 1,yb 15 131 14 1 4] (jO 15 k161_2 jQ)
def k161_4:=jO 18 jQ (.region [zQ 20 6 4,zV 18 20])
def k161_5:=jO 21 (jN [zK 4 2,yu 5] jP) jQ
def k161_6:=jO 18 (jN [zK 4 1,yu 5] jP) (jN [zQ 22 6 5,zV 21 22] k161_5)
def k161_7:=jR (jN [zQ 19 6 3,zV 18 19] k161_4) k161_6
def k161_8:=jN [zQ 13 6 2,zV 12 13] (jO 12 k161_3 k161_7)
def k161_9:AD:= .block 0 (jN [zQ 8 6 1,zV 7 8] (jO 7 k161_1 k161_8))
def k161_10:=jR (jN [zV 6 0] k161_9) (jN [zK 4 0,zo 5] jP)
def c161:=jN [zK 4 0,zo 5] k161_10
theorem ok161:Ao Tryz.prog 161 c161 23 [.t 4,.t 5]=true:=by kernel_rfl
def w161:=aW k161_0.eq_1 (aW k161_1.eq_1 (aW k161_2.eq_1 (aW k161_3.eq_1 (aW k161_4.eq_1 (aW k161_5.eq_1 (aW k161_6.eq_1 (aW k161_7.eq_1 (aW k161_8.eq_1 (aW k161_9.eq_1 (oW k161_10.eq_1))))))))))
def k162_0:=jO 36 (jN [zK 4 0] jP) jQ
def k162_1:=jR (.drawn [(0,zF 37 4 2),(1,zM 38 37),(2,zF 39 3 2),(3,zM 40 39),(4,zV 41 1),(5,zX 42 5 40 41),(6,zF 43 0 42),(7,zF 44 1 43),(8,zM 45 44),(9,zX 46 13 38 45),(10,zF 47 4 46),(11,zM 48 47),(12,zV 4 48)] [[],[0],[],[2],[],[3,4],[5],[6],[7],[1,8],[9],[10],[11,0,1,2,3,4,5,6,7,8,9,10,11]] 0) jP
def k162_2:=jR (jN [zL 5 5 2,zd 6 83 5,zN 7 6,zV 8 7,zY 9 1 8,yc 10 8 9 0,zO 11 8 10,zV 12 11,zY 13 1 12,zz 14 12 3 2,zH 15 12 14,zT 16 12 15,yx 17 12 13 16,
 zO 18 12 17,zV 19 18,zz 20 19 3 2,zH 21 19 20,zY 22 1 19,yd 23 19 5 21 22,zz 24 19 0 23,zz 25 19 0 24,zH 26 19 25,yQ 27 19 26 1,zO 28 19 27,zV 29 28,
 yl 30 29 5 2,yp 31 29 90 30,zY 32 1 29,jv 33 29 218 31 32,zT 34 29 33,yw 35 29 34 0,zO 36 29 35] k162_0) k162_1
def c162:=jN [zh 2 0,zK 4 0] k162_2
theorem ok162:Ao Tryz.prog 162 c162 49 [.t 4]=true:=by kernel_rfl
def w162:=aW k162_0.eq_1 (aW k162_1.eq_1 (oW k162_2.eq_1))
def k163_0:=jO 11 (jN [zK 4 0,zo 5] jP) jQ
def k163_1:=jR (.block 3 (.region [zV 31 7,zV 32 31,zq 33 32 5 2,zw 34 8 32,zP 35 32 153 33 34,jt 36 32 35 0,zA 37 32 36,zV 7 37])) (.region [zV 29 8,zc 30 29,zV 8 30])
def b163_2:=jR (jN [zV 23 8,zV 24 6,zV 25 1,zd 26 151 25,z6 27 24 26,zj 28 23 27] (jO 28 jQ (.exit 2))) k163_1
def k163_3:=jN [zV 39 6,zV 4 39,yu 5] jP
def k163_4:=jN [zV 38 7] (jO 38 k163_3 jQ)
def k163_5:=jR (jN [zV 22 6,zV 8 22] (.block 2 (.loop b163_2))) k163_4
def k163_6:=jR (.block 1 (jN [yu 7] k163_5)) (.region [zV 20 6,zc 21 20,zV 6 21])
def b163_7:=jR (jR (.drawn [(4,zF 16 3 2),(5,zM 17 16),(1,zV 13 1),(2,zd 14 151 13),(0,zV 12 6),(3,z6 15 12 14),(6,zi 18 17),(7,W1 19 (.bin .leq (.t 15) (.t 18)))] [[],[],[1],[0,2],[],[4],[5],[3,6]] 0) (jO 19 jQ (.exit 0))) k163_6
def k163_8:=jR (jN [zK 6 0] (.block 0 (.loop b163_7))) (jN [zK 4 0,zo 5] jP)
def k163_9:=jR (jN [zV 9 1,yb 10 131 9 1 4,zN 11 10] k163_0) k163_8
def c163:=jN [zh 2 0,zK 4 0,zo 5] k163_9
theorem ok163:Ao Tryz.prog 163 c163 40 [.t 4,.t 5]=true:=by kernel_rfl
def w163:=aW k163_0.eq_1 (aW k163_1.eq_1 (aW k163_3.eq_1 (aW k163_4.eq_1 (aW k163_5.eq_1 (aW k163_6.eq_1 (aW k163_8.eq_1 (oW k163_9.eq_1)))))))
def k164_0:=jO 17 (jN [zV 18 3,zV 2 18] jP) jQ
def k164_1:=jR (.block 1 (jN [zF 11 4 1,zM 12 11,zV 13 3,zX 14 13 12 13,zF 15 0 14,zM 16 15,zQ 17 16 0] k164_0)) (.region [zV 9 3,zc 10 9,zV 3 10])
def b164_2:=jR (jN [zV 4 3,zF 5 4 1,zM 6 5,zi 7 6,zj 8 4 7] (jO 8 jQ (.exit 0))) k164_1
def k164_3:=jR (jN [zK 3 0] (.block 0 (.loop b164_2))) (jN [zK 2 (-1)] jP)
def c164:=jN [zh 1 0,zK 2 0] k164_3
theorem ok164:Ao Tryz.prog 164 c164 19 [.t 2]=true:=by kernel_rfl
def w164:=aW k164_0.eq_1 (aW k164_1.eq_1 (oW k164_3.eq_1))
def k165_0:=jR (.drawn [(0,zF 3 0 1),(1,zL 4 3 3),(3,zF 6 3 1),(4,zM 7 6),(7,zF 10 4 1),(8,zM 11 10),(2,W1 5 (.born 0 (.EO 5 0 [.int .i64 0,.int .i64 0,.int .i64 0,.int .i64 0,.int .i64 0] []))),(5,yC 8 5 40 5 7),(6,W1 9 (.born 1 (.EO 13 0 [.int .i64 0,.int .i64 0,.int .i64 0,.int .i64 0,.int .i64 0,.int .i64 0,.int .i64 0,.bool false,.int .u64 0,.int .u64 0,.int .u64 0,.int .u64 0,.int .u64 0] []))),(9,yC 12 13 104 9 11),
 (10,yq 13 4 8 12),(11,zS 5 2 13)] [[],[0],[],[],[3],[2,4],[],[],[7],[6,8,5],[1,5,9],[10,9,0,1,2,3,4,5,6,7,8,9,10]] 2) jP
def c165:=jN [zh 1 0,za 2] k165_0
theorem ok165:Ao Tryz.prog 165 c165 14 [.c 2 (some 5)]=true:=by kernel_rfl
def k166_0:=jO 20 (.region [zV 21 1,zF 22 3 10,zS 1 22 21]) jQ
def k166_1:AD:= .region [zV 25 1,zV 26 2,zF 27 1 10,zS 1 27 25,zF 28 2 10,zS 1 28 26]
def k166_2:=jN [zn 36,zS 13 6 36,zo 7] jP
def k166_3:=jN [zL 37 13 10,zS 13 6 37,yu 7] jP
def k166_4:=jR (jN [zV 29 9,zN 30 29,zV 31 30,yl 32 31 13 10,yp 33 31 150 32,ye 34 31 33,zO 35 31 34] (jO 35 k166_2 jQ)) k166_3
def k166_5:=jR (jN [zV 23 0,zQ 24 23 2] (jO 24 k166_1 jQ)) k166_4
def k166_6:=jR (jN [zV 19 0,zQ 20 19 1] k166_0) k166_5
def k166_7:=jN [zV 17 0,zx 18 17,zb 10,zS 13 10 18] k166_6
def k166_8:=jN [zV 12 0,zV 13 1,ze 14 161 12 13,zV 11 14,zE 15 11 0,zE 16 11 1,zV 8 15,zV 9 16] k166_7
def c166:=jN [zb 6,zo 7] k166_8
theorem ok166:Ao Tryz.prog 166 c166 38 [.c 6 (some 13),.t 7]=true:=by kernel_rfl
def w166:=aW k166_0.eq_1 (aW k166_1.eq_1 (aW k166_2.eq_1 (aW k166_3.eq_1 (aW k166_4.eq_1 (aW k166_5.eq_1 (aW k166_6.eq_1 (aW k166_7.eq_1 (oW k166_8.eq_1))))))))
def k167_0:=jN [zl 17,zS 4 4 17,zK 5 1] jP
def k167_1:=jN [zl 26,zS 4 4 26,zK 5 7] jP
def k167_2:=jN [zl 30,zS 4 4 30,zK 5 5] jP
def k167_3:=jN [zL 33 4 2,zS 4 4 33,zK 5 0] jP
def k167_4:=jN [zV 31 1,zF 32 3 2,zS 1 32 31] k167_3
def k167_5:=jR (jN [zF 27 3 2,zM 28 27,zk 29 28 0] (jO 29 k167_2 jQ)) k167_4
def k167_6:=jR (jN [zF 18 0 2,zM 19 18,zk 20 19 3,zV 21 20,zu 22 21 0 2,zr 23 21 22,ya 24 21 23 4,zA 25 21 24] (jO 25 k167_1 jQ)) k167_5
def k167_7:=jR (jN [zL 6 4 2,zd 7 152 6,zN 8 7,zV 9 8,zY 10 1 9,yc 11 9 10 1,zO 12 9 11,zV 13 12,zY 14 1 13,yr 15 13 14 65535,zO 16 13 15] (jO 16 k167_0 jQ)) k167_6
def c167:=jN [zh 2 0,zg 4,zK 5 0] k167_7
theorem ok167:Ao Tryz.prog 167 c167 34 [.c 4 (some 4),.t 5]=true:=by kernel_rfl
def w167:=aW k167_0.eq_1 (aW k167_1.eq_1 (aW k167_2.eq_1 (aW k167_3.eq_1 (aW k167_4.eq_1 (aW k167_5.eq_1 (aW k167_6.eq_1 (oW k167_7.eq_1)))))))
def k168_0:=jO 7 (jN [zl 8,zS 4 4 8] jP) jQ
def k168_1:=jN [zF 9 2 2,zM 10 9,zV 11 1,ze 12 219 10 11,zF 13 2 2,zS 1 13 12] (jN [zL 14 4 2,zS 4 4 14] jP)
def k168_2:=jR (jN [zL 5 4 2,zd 6 152 5,zN 7 6] k168_0) k168_1
def c168:=jN [zh 2 0,zg 4] k168_2
theorem ok168:Ao Tryz.prog 168 c168 15 [.c 4 (some 4)]=true:=by kernel_rfl
def w168:=aW k168_0.eq_1 (aW k168_1.eq_1 (oW k168_2.eq_1))
def k169_0:=jN [zL 22 5 4,zS 5 8 22,zK 9 4] jP
def k169_1:=jN [zL 32 5 4,zS 5 8 32,zK 9 5] jP
def k169_2:=jN [zL 37 5 4,zS 5 8 37,zK 9 7] jP
def k169_3:=jN [zL 43 5 4,zS 5 8 43,zK 9 1] jP
def k169_4:=jN [zL 55 5 4,zS 5 8 55,zK 9 1] jP
def k169_5:=jN [zL 61 5 4,zS 5 8 61,zK 9 1] jP
def k169_6:=jN [zL 57 5 4,zV 58 2,ze 59 153 57 58,yk 60 59 0,zV 56 60] (jO 56 k169_5 jQ)
def k169_7:=jN [zF 45 0 7,zM 46 45,zQ 47 46 2,zV 48 47,zq 49 48 5 4,zu 50 48 1 7,zr 51 48 50,zw 52 2 48,jf 53 48 170 49 51 52,zA 54 48 53,zV 44 54] (jO 44 k169_4 k169_6)
def k169_8:=jN [zL 39 4 7,zL 40 4 10,ze 41 155 39 40,zN 42 41,zV 38 42] (jO 38 k169_3 k169_7)
def k169_9:=jN [zF 34 0 10,zM 35 34,zQ 36 35 1,zV 33 36] (jO 33 k169_2 k169_8)
def k169_10:=jN [zF 24 3 4,zM 25 24,zV 26 2,zX 27 5 25 26,zF 28 0 27,zF 29 0 28,zM 30 29,zk 31 30 0,zV 23 31] (jO 23 k169_1 k169_9)
def k169_11:=jN [zL 71 5 11,zS 5 8 71,zK 9 0] jP
def k169_12:=jN [zF 64 3 11,zM 65 64,zV 66 2,zL 67 4 7,zV 68 1,zJ 69 67 68,zX 70 5 65 66,zS 5 70 69] k169_11
def k169_13:=jN [zL 62 5 4,zd 63 165 62,za 11,zS 5 11 63] k169_12
def k169_14:=jR (.block 0 (jN [zF 19 0 10,zM 20 19,zQ 21 20 0,zV 18 21] (jO 18 k169_0 k169_10))) k169_13
def k169_15:=jN [zF 12 3 4,zM 13 12,zV 14 1,zX 15 5 13 14,zF 16 0 15,zL 17 4 16,zg 10,zS 4 10 17] k169_14
def c169:=jN [zh 4 0,zh 7 3,za 8,zK 9 0] k169_15
theorem ok169:Ao Tryz.prog 169 c169 72 [.c 8 (some 5),.t 9]=true:=by kernel_rfl
def w169:=aW k169_0.eq_1 (aW k169_1.eq_1 (aW k169_2.eq_1 (aW k169_3.eq_1 (aW k169_4.eq_1 (aW k169_5.eq_1 (aW k169_6.eq_1 (aW k169_7.eq_1 (aW k169_8.eq_1 (aW k169_9.eq_1 (aW k169_10.eq_1 (aW k169_11.eq_1 (aW k169_12.eq_1 (aW k169_13.eq_1 (aW k169_14.eq_1 (oW k169_15.eq_1)))))))))))))))
def k170_0:=jO 25 (jN [zo 6] jP) jQ
def k170_1:=jN [zV 29 7,zR 30 29 0,zV 31 30,zq 32 31 5 3,zw 33 1 31,zP 34 31 217 32 33,zw 35 7 31,z7 36 31 1 34 35,zr 37 31 36,zA 38 31 37,zV 6 38] jP
def k170_2:=jN [zL 26 5 3,zV 27 2,ze 28 153 26 27,zV 7 28] k170_1
def k170_3:=jR (jN [zV 8 1,yk 9 8 0,zV 10 9,zY 11 1 10,zz 12 10 4 3,zH 13 10 12,zT 14 10 13,yx 15 10 11 14,zO 16 10 15,zV 17 16,zz 18 17 4 3,zH 19 17 18,zY 20 1 17,
 yd 21 17 13 19 20,zz 22 17 0 21,zH 23 17 22,yQ 24 17 23 2,zO 25 17 24] k170_0) k170_2
def c170:=jN [zh 3 0,zo 6] k170_3
theorem ok170:Ao Tryz.prog 170 c170 39 [.t 6]=true:=by kernel_rfl
def w170:=aW k170_0.eq_1 (aW k170_1.eq_1 (aW k170_2.eq_1 (oW k170_3.eq_1)))
def k171_0:=jO 26 (jN [zK 6 0,zK 7 1] jP) jQ
def k171_1:=jO 51 (jN [zK 6 0,zK 7 3] jP) jQ
def k171_2:=jR (jN [zF 43 0 11,zM 44 43,zk 45 44 2,zV 46 45,zz 47 46 2 11,zH 48 46 47,W2 49 46 false (.bin .rem (.t 48) (zI 2)),yw 50 46 49 0,zO 51 46 50] k171_1) (.region [zF 52 1 11,zM 53 52,zV 8 53])
def k171_3:=jN [zF 37 3 3,zM 38 37,zV 39 9,zX 40 5 38 39,zF 41 0 40,zL 42 4 41,zg 11,zS 4 11 42] k171_2
def k171_4:=jO 66 (jN [zK 6 0,zK 7 3] jP) jQ
def k171_5:AD:= .drawn [(0,zF 67 2 12),(1,zM 68 67),(2,zV 69 2),(3,zV 70 10),(4,zX 71 1 69 70),(5,zM 72 71),(6,z6 73 68 72),(7,zV 9 73)] [[],[0],[],[],[2,3],[4],[1,5],[6,0,1,2,3,4,5,6]] 0
def k171_6:=jR (jR (.drawn [(0,zV 59 2),(1,zV 60 10),(2,zX 61 1 59 60),(3,zM 62 61),(4,zF 63 1 12),(5,zM 64 63),(6,zd 65 151 64),(7,yD 66 62 65)] [[],[],[0,1],[2],[],[4],[5],[3,6]] 0) k171_4) k171_5
def k171_7:=jN [zF 54 4 3,zM 55 54,zV 56 8,zX 57 13 55 56,zL 58 13 57,zb 12,zS 13 12 58] k171_6
def k171_8:=jR (.block 1 (jR (jN [zV 35 10,yz 36 35 0] (jO 36 k171_3 jQ)) k171_7)) (.region [zV 33 10,zc 34 33,zV 10 34])
def b171_9:=jR (jN [zV 29 10,zV 30 2,zi 31 30,zj 32 29 31] (jO 32 jQ (.exit 0))) k171_8
def k171_10:=jN [zV 74 9,zV 6 74,zK 7 0] jP
def k171_11:=jR (jN [zK 10 0] (.block 0 (.loop b171_9))) k171_10
def k171_12:=jN [zV 27 1,jo 28 27,zV 8 28] (jN [zK 9 0] k171_11)
def k171_13:=jR (jN [zV 13 1,yk 14 13 0,zV 15 14,zY 16 1 15,zz 17 15 0 3,zz 18 15 0 17,zH 19 15 18,yx 20 15 16 19,zO 21 15 20,zV 22 21,zY 23 2 22,yp 24 22 158 23,
 ye 25 22 24,zO 26 22 25] k171_0) k171_12
def c171:=jN [zh 3 0,zK 6 0,zK 7 0] k171_13
theorem ok171:Ao Tryz.prog 171 c171 75 [.t 6,.t 7]=true:=by kernel_rfl
def w171:=aW k171_0.eq_1 (aW k171_1.eq_1 (aW k171_2.eq_1 (aW k171_3.eq_1 (aW k171_4.eq_1 (aW k171_5.eq_1 (aW k171_6.eq_1 (aW k171_7.eq_1 (aW k171_8.eq_1 (aW k171_10.eq_1 (aW k171_11.eq_1 (aW k171_12.eq_1 (oW k171_13.eq_1))))))))))))
def k172_0:=jN [zV 5 0,zd 6 154 5,zV 7 6,zw 8 1 7,yT 9 7 8,zA 10 7 9,zV 11 10,zw 12 1 11,zw 13 0 11,yB 14 11 13,yo 15 11 12 14,zA 16 11 15,zV 17 16,zw 18 0 17,
 zw 19 1 17,z7 20 17 1 18 19,zr 21 17 20,ya 22 17 21 (-2),zA 23 17 22,zV 4 23] jP
def c172:=jN [zo 4] k172_0
theorem ok172:Ao Tryz.prog 172 c172 24 [.t 4]=true:=by kernel_rfl
def k173_0:=jR (.drawn [(0,zF 5 0 2),(1,zM 6 5),(2,zQ 7 6 2),(3,zV 8 7),(5,zu 10 8 2 2),(6,zr 11 8 10),(4,zw 9 1 8),(7,js 12 8 9 11),(8,zA 13 8 12),(9,zV 14 13),(11,zu 16 14 2 2),(12,zr 17 14 16),
 (13,zu 18 14 1 2),(14,zr 19 14 18),(15,yj 20 14 151 19),(10,zw 15 1 14),(16,yX 21 14 17 20),(17,yo 22 14 15 21),(18,zA 23 14 22),(19,zV 4 23)]
 [[],[0],[1],[2],[3],[3],[5,3],[4,6,3],[3,7],[8,3],[9],[9],[11,9],[9],[13,9],[14,9,9],[12,15,9],[10,16,9],[9,17],[18,15,0,1,2,3,4,5,6,7,8,9,10,11,12,13,14,15,16,17,18]] 0) jP
def c173:=jN [zh 2 0,zo 4] k173_0
theorem ok173:Ao Tryz.prog 173 c173 24 [.t 4]=true:=by kernel_rfl
def k174_0:=jN [zV 5 0,zV 6 1,zd 7 220 6,W1 8 (.bin .quo (.t 5) (.t 7)),W1 9 (.bin .rem (.t 8) (.c (.int .u64 2))),W1 10 (.bin .eql (.t 9) (.c (.int .u64 1))),zV 4 10] jP
def c174:=jN [zo 4] k174_0
theorem ok174:Ao Tryz.prog 174 c174 11 [.t 4]=true:=by kernel_rfl
def k175_0:=jO 6 (jN [ym 2 0,zo 3] jP) jQ
def k175_1:=jN [zF 7 0 1,zM 8 7,yU 9 8,zF 10 2 1,zM 11 10,yU 12 11,jw 13 12 256,z6 14 9 13,zF 15 3 1,zM 16 15,yU 17 16,jw 18 17 65536,z6 19 14 18,zF 20 1 1,zM 21 20,yU 22 21,jw 23 22 4294967296,z6 24 19 23,
 zV 2 24,yu 3] jP
def k175_2:=jR (jN [zL 4 4 1,zd 5 152 4,zN 6 5] k175_0) k175_1
def c175:=jN [zh 1 0,ym 2 0,zo 3] k175_2
theorem ok175:Ao Tryz.prog 175 c175 25 [.t 2,.t 3]=true:=by kernel_rfl
def w175:=aW k175_0.eq_1 (aW k175_1.eq_1 (oW k175_2.eq_1))
def k176_0:=jO 10 (jN [zK 4 (-1)] jP) jQ
def k176_1:AD:= .region [zV 17 0,zV 18 6,zX 19 1 17 18,zM 20 19,zV 6 20]
def k176_2:=jR (.block 1 (.region [zV 21 5,zc 22 21,zV 5 22])) k176_1
def b176_3:=jR (jN [zV 15 6,zR 16 15 0] (jO 16 jQ (.exit 0))) k176_2
def k176_4:=jR (jN [zV 11 0,zV 12 1,zX 13 1 11 12,zM 14 13,zV 6 14] (.block 0 (.loop b176_3))) (jN [zV 23 5,zV 4 23] jP)
def k176_5:=jR (jN [zV 7 0,zV 8 1,ze 9 172 7 8,zN 10 9] k176_0) (jN [zK 5 0] k176_4)
def c176:=jN [zK 4 0] k176_5
theorem ok176:Ao Tryz.prog 176 c176 24 [.t 4]=true:=by kernel_rfl
def w176:=aW k176_0.eq_1 (aW k176_1.eq_1 (aW k176_2.eq_1 (aW k176_4.eq_1 (oW k176_5.eq_1))))
def k216_0:=jN [zV 5 0,zV 6 1,ze 7 253 5 6,zQ 8 7 0,zV 4 8] jP
def c216:=jN [zo 4] k216_0
theorem ok216:Ao Tryz.prog 216 c216 9 [.t 4]=true:=by kernel_rfl
def k217_0:AD:= .region [zV 53 5,zF 54 1 8,zM 55 54,zX 56 1 53 55,yA 56]
def k217_1:=jN [zF 40 0 8,zM 41 40,zQ 42 41 2,zV 43 42,zw 44 9 43,yT 45 43 44,zA 46 43 45,zV 47 46,zw 48 5 47,zw 49 9 47,z7 50 47 1 48 49,zr 51 47 50,zA 52 47 51] (jO 52
 k217_0 jQ)
def k217_2:=jN [zL 37 5 2,zV 38 7,ze 39 153 37 38,zV 9 39] k217_1
def k217_3:=jR (.block 3 (jN [zF 31 3 2,zM 32 31,zV 33 7,zX 34 5 32 33,zF 35 0 34,zL 36 4 35,zg 8,zS 4 8 36] k217_2)) (.region [zV 29 7,zc 30 29,zV 7 30])
def b217_4:=jR (jN [zV 24 7,zF 25 3 2,zM 26 25,zi 27 26,zj 28 24 27] (jO 28 jQ (.exit 2))) k217_3
def k217_5:=jR (.block 1 (jN [zK 7 0] (.block 2 (.loop b217_4)))) (.region [zV 22 6,zc 23 22,zV 6 23])
def b217_6:=jR (jN [zV 17 6,zF 18 4 2,zM 19 18,zi 20 19,zj 21 17 20] (jO 21 jQ (.exit 0))) k217_5
def k217_7:=jR (jN [zK 6 0] (.block 0 (.loop b217_6))) (jN [zV 57 5,zV 4 57] jP)
def k217_8:=jN [zV 14 5,zV 15 1,zX 16 1 14 15,yA 16] k217_7
def k217_9:=jN [zF 10 4 2,zM 11 10,zi 12 11,yZ 13 12,zV 5 13] k217_8
def c217:=jN [zh 2 0,zp 4] k217_9
theorem ok217:Ao Tryz.prog 217 c217 58 [.t 4]=true:=by kernel_rfl
def w217:=aW k217_0.eq_1 (aW k217_1.eq_1 (aW k217_2.eq_1 (aW k217_3.eq_1 (aW k217_5.eq_1 (aW k217_7.eq_1 (aW k217_8.eq_1 (oW k217_9.eq_1)))))))
def k218_0:AD:= .region [zV 24 5,zV 25 6,yt 26 25,yC 27 1 8 24 26,zV 5 27]
def k218_1:=jR (.block 1 (jN [zV 18 0,zV 19 6,zX 20 1 18 19,zM 21 20,zV 22 1,yy 23 21 22] (jO 23 k218_0 jQ))) (.region [zV 16 6,zc 17 16,zV 6 17])
def b218_2:=jR (jN [zV 7 6,zV 8 0,zi 9 8,zj 10 7 9,zV 11 10,zw 12 0 11,zw 13 1 11,zP 14 11 172 12 13,zA 15 11 14] (jO 15 jQ (.exit 0))) k218_1
def k218_3:=jR (jN [zK 6 0] (.block 0 (.loop b218_2))) (jN [zV 28 5,zV 4 28] jP)
def c218:=jN [zp 4] (jN [zp 5] k218_3)
theorem ok218:Ao Tryz.prog 218 c218 29 [.t 4]=true:=by kernel_rfl
def w218:=aW k218_0.eq_1 (aW k218_1.eq_1 (oW k218_3.eq_1))
def k219_0:AD:= .region [zV 27 5,zV 28 6,z6 29 27 28,zV 5 29]
def k219_1:=jR (.block 1 (jN [zV 15 0,zV 16 6,W1 17 (.bin .quo (.t 15) (.t 16)),yH 18 17 2,zQ 19 18 1,zV 20 19,zw 21 1 20,zw 22 6 20,W2 23 20 true (.bin .quo (.t 21) (.t 22)),jL 24 20 23 2,z8 25 20 24 1,zA 26 20 25] (jO 26
 k219_0 jQ))) (.region [zV 13 6,jx 14 2 13,zV 6 14])
def b219_2:=jR (jN [zV 11 6,W1 12 (.bin .leq (.t 11) (zI 4))] (jO 12 jQ (.exit 0))) k219_1
def k219_3:=jR (jN [zK 6 1] (.block 0 (.loop b219_2))) (jN [zV 30 5,zV 4 30] jP)
def k219_4:=jN [zV 7 0,zd 8 254 7,zV 9 1,zd 10 254 9,zV 0 8,zV 1 10] (jN [zK 5 0] k219_3)
def c219:=jN [zK 4 0] k219_4
theorem ok219:Ao Tryz.prog 219 c219 31 [.t 4]=true:=by kernel_rfl
def w219:=aW k219_0.eq_1 (aW k219_1.eq_1 (aW k219_3.eq_1 (oW k219_4.eq_1)))
def k220_0:=jR (.block 1 (.region [zV 10 3,W1 11 (.bin .mul (.c (.int .u64 2)) (.t 10)),zV 3 11])) (.region [zV 8 4,zc 9 8,zV 4 9])
def b220_1:=jR (jN [zV 5 4,zV 6 0,zj 7 5 6] (jO 7 jQ (.exit 0))) k220_0
def k220_2:=jR (jN [zK 4 0] (.block 0 (.loop b220_1))) (jN [zV 12 3,zV 2 12] jP)
def c220:=jN [ym 2 0] (jN [ym 3 1] k220_2)
theorem ok220:Ao Tryz.prog 220 c220 13 [.t 2]=true:=by kernel_rfl
def w220:=aW k220_0.eq_1 (oW k220_2.eq_1)
def k253_0:=jN [zV 5 0,zd 6 254 5,zV 7 0,zV 8 1,ze 9 219 7 8,jc 10 6 9,zV 4 10] jP
def c253:=jN [zK 4 0] k253_0
theorem ok253:Ao Tryz.prog 253 c253 11 [.t 4]=true:=by kernel_rfl
def k254_0:=jO 8 (jN [zK 2 0] jP) jQ
def k254_1:=jR (jN [zV 3 0,yk 4 3 0,zV 5 4,zY 6 0 5,yr 7 5 6 7,zO 8 5 7] k254_0) (jN [zV 9 0,zV 2 9] jP)
def c254:=jN [zK 2 0] k254_1
theorem ok254:Ao Tryz.prog 254 c254 10 [.t 2]=true:=by kernel_rfl
def w254:=aW k254_0.eq_1 (oW k254_1.eq_1)
end Go.Proofs.YtlaipllgmddkiaaGreat.Ax
namespace Go.Proofs.YtlaipllgmddkiaaGreat.Ax
open Go Go.Ax
set_option maxRecDepth 100000
def c2:AD:= .Nx
theorem ok2:Ao Tryz.prog 2 c2 1 []=true:=by kernel_rfl
def k78_0:=jO 4 (jN [zp 2] jP) jQ
def k78_1:=jN [W1 5 (.EO 5 0 [.int .i64 0,.int .i64 0,.int .i64 0,.int .i64 0,.int .i64 0] []),zV 6 0,yC 7 5 40 5 6,zV 2 7] jP
def k78_2:=jR (jN [zV 3 0,ju] k78_0) k78_1
def c78:=jN [zp 2] k78_2
theorem ok78:Ao Tryz.prog 78 c78 8 [.t 2]=true:=by kernel_rfl
def w78:=aW k78_0.eq_1 (aW k78_1.eq_1 (oW k78_2.eq_1))
def k79_0:=jO 4 (jN [zp 2] jP) jQ
def k79_1:=jN [W1 5 (.EO 13 0 [.int .i64 0,.int .i64 0,.int .i64 0,.int .i64 0,.int .i64 0,.int .i64 0,.int .i64 0,.bool false,.int .u64 0,.int .u64 0,.int .u64 0,.int .u64 0,.int .u64 0] []),zV 6 0,yC 7 13 104 5 6,zV 2 7] jP
def k79_2:=jR (jN [zV 3 0,ju] k79_0) k79_1
def c79:=jN [zp 2] k79_2
theorem ok79:Ao Tryz.prog 79 c79 8 [.t 2]=true:=by kernel_rfl
def w79:=aW k79_0.eq_1 (aW k79_1.eq_1 (oW k79_2.eq_1))
def k96_0:=jO 10 (jN [zo 4] jP) jQ
def k96_1:=jO 24 (jN [zo 4] jP) jQ
def k96_2:=jR (.drawn [(0,zV 16 0),(1,zV 17 5),(2,zX 18 5 16 17),(3,zL 19 5 18),(4,zV 20 1),(5,zV 21 5),(6,zX 22 5 20 21),(7,zL 23 5 22),(8,W1 24 (.eqs true [0,0,0,0,0] (.t 19) (.t 23)))] [[],[],[0,1],[2],[],[],[4,5],[6],[3,7]] 0) k96_1
def k96_3:=jR (.block 1 (jN [zV 15 13,zV 5 15] k96_2)) (.region [zc 25 13,zV 13 25])
def b96_4:=jN [zj 14 13 12] (jR (jO 14 jQ (.exit 0)) k96_3)
def k96_5:=jR (jN [zV 11 0,zi 12 11,zK 13 0] (.block 0 (.loop b96_4))) (jN [yu 4] jP)
def k96_6:=jR (jN [zV 6 0,zi 7 6,zV 8 1,zi 9 8,W1 10 (.bin .neq (.t 7) (.t 9))] k96_0) k96_5
def c96:=jN [zo 4] k96_6
theorem ok96:Ao Tryz.prog 96 c96 26 [.t 4]=true:=by kernel_rfl
def w96:=aW k96_0.eq_1 (aW k96_1.eq_1 (aW k96_2.eq_1 (aW k96_3.eq_1 (aW k96_5.eq_1 (oW k96_6.eq_1)))))
def k97_0:=jO 10 (jN [zo 4] jP) jQ
def k97_1:=jO 24 (jN [zo 4] jP) jQ
def k97_2:=jR (.drawn [(0,zV 16 0),(1,zV 17 5),(2,zX 18 13 16 17),(3,zL 19 13 18),(4,zV 20 1),(5,zV 21 5),(6,zX 22 13 20 21),(7,zL 23 13 22),(8,yM 24 19 23)] [[],[],[0,1],[2],[],[],[4,5],[6],[3,7]] 0) k97_1
def k97_3:=jR (.block 1 (jN [zV 15 13,zV 5 15] k97_2)) (.region [zc 25 13,zV 13 25])
def b97_4:=jN [zj 14 13 12] (jR (jO 14 jQ (.exit 0)) k97_3)
def k97_5:=jR (jN [zV 11 0,zi 12 11,zK 13 0] (.block 0 (.loop b97_4))) (jN [yu 4] jP)
def k97_6:=jR (jN [zV 6 0,zi 7 6,zV 8 1,zi 9 8,W1 10 (.bin .neq (.t 7) (.t 9))] k97_0) k97_5
def c97:=jN [zo 4] k97_6
theorem ok97:Ao Tryz.prog 97 c97 26 [.t 4]=true:=by kernel_rfl
def w97:=aW k97_0.eq_1 (aW k97_1.eq_1 (aW k97_2.eq_1 (aW k97_3.eq_1 (aW k97_5.eq_1 (oW k97_6.eq_1)))))
def k115_0:=jN [zV 5 0,zV 6 1,ze 7 190 5 6,zR 8 7 0,zV 4 8] jP
def c115:=jN [zo 4] k115_0
theorem ok115:Ao Tryz.prog 115 c115 9 [.t 4]=true:=by kernel_rfl
def k117_0:=jN [zV 5 0,zV 6 1,ze 7 193 5 6,zR 8 7 0,zV 4 8] jP
def c117:=jN [zo 4] k117_0
theorem ok117:Ao Tryz.prog 117 c117 9 [.t 4]=true:=by kernel_rfl
def k189_0:=jN [zV 7 0,zV 8 1,ze 9 227 7 8,zE 10 9 0,zE 11 9 1,zE 12 9 2,zV 4 10,zV 5 11,zV 6 12] jP
def c189:=jN [W1 4 (.mv (.c (.str []))),W1 5 (.mv (.c (.str []))),zo 6] k189_0
theorem ok189:Ao Tryz.prog 189 c189 13 [.t 4,.t 5,.t 6]=true:=by kernel_rfl
def k190_0:=jN [zV 5 0,zV 6 1,ze 7 228 5 6,zV 4 7] jP
def c190:=jN [zK 4 0] k190_0
theorem ok190:Ao Tryz.prog 190 c190 8 [.t 4]=true:=by kernel_rfl
def k192_0:=jN [zV 5 0,zV 6 1,ze 7 229 5 6,zR 8 7 0,zV 4 8] jP
def c192:=jN [zo 4] k192_0
theorem ok192:Ao Tryz.prog 192 c192 9 [.t 4]=true:=by kernel_rfl
def k193_0:=jO 12 (jN [zK 4 (-1)] jP) jQ
def k193_1:=jN [zV 21 0,zV 22 5,ze 23 230 21 22,zV 4 23] jP
def k193_2:=jR (jN [zV 19 5,W1 20 (.bin .geq (.t 19) (.c (.int .i32 128)))] (jO 20 (.region [W1 5 (.mv (.c (.int .i32 65533)))]) jQ)) k193_1
def k193_3:=jN [zV 16 1,jC 17 16 0,W1 18 (.Hp .i32 (.t 17)),zV 5 18] k193_2
def k193_4:=jO 42 (jN [zV 43 8,zV 4 43] jP) jQ
def k193_5:=jR (.block 1 (jN [zV 39 0,zV 40 8,yV 41 39 40,ze 42 233 6 41] k193_4)) (.region [zV 37 8,zc 38 37,zV 8 38])
def b193_6:=jR (jN [zV 33 8,zV 34 0,yK 35 34,zj 36 33 35] (jO 36 jQ (.exit 0))) k193_5
def k193_7:=jR (jN [zK 8 0] (.block 0 (.loop b193_6))) (jN [zK 4 (-1)] jP)
def k193_8:=jN [zV 32 7] (jO 32 k193_7 jQ)
def k193_9:=jN [zV 28 1,zd 29 232 28,zV 27 29,zE 30 27 0,zE 31 27 1,
 jE 6,
 zS 256 6 30,zV 7 31] k193_8
def k193_10:=jO 53 (jN [zV 54 9,zV 4 54] jP) jQ
def k193_11:=jN [zV 50 1,zV 51 10,ze 52 230 50 51,zR 53 52 0] k193_10
def k193_12:AD:= .block 3 (jN [zE 48 46 1,zE 49 46 2,zV 9 48,zV 10 49] k193_11)
def b193_13:=jN [W1 46 (.Ya (.t 45)),zE 47 46 0] (jR (jO 47 jQ (.exit 2)) k193_12)
def k193_14:=jR (jN [zV 44 0,W1 45 (.Yg (.t 44))] (.block 2 (.loop b193_13))) (jN [zK 4 (-1)] jP)
def k193_15:=jR (jN [zV 24 0,yK 25 24,zd 26 231 25] (jO 26 k193_9 jQ)) k193_14
def k193_16:=jR (jN [zV 13 1,yK 14 13,zQ 15 14 1] (jO 15 k193_3 jQ)) k193_15
def k193_17:=jR (jN [zV 11 1,W1 12 (.MG .eql (.t 11) (.c (.str [])))] k193_0) k193_16
def c193:=jN [zK 4 0] k193_17
theorem ok193:Ao Tryz.prog 193 c193 55 [.t 4]=true:=by kernel_rfl
def w193:=aW k193_0.eq_1 (aW k193_1.eq_1 (aW k193_2.eq_1 (aW k193_3.eq_1 (aW k193_4.eq_1 (aW k193_5.eq_1 (aW k193_7.eq_1 (aW k193_8.eq_1 (aW k193_9.eq_1 (aW k193_10.eq_1 (aW k193_11.eq_1 (aW k193_12.eq_1 (aW k193_14.eq_1 (aW k193_15.eq_1 (aW k193_16.eq_1 (oW k193_17.eq_1)))))))))))))))
def k204_0:=jO 4 (jN [zp 2] jP) jQ
def k204_1:=jN [W1 5 (.EO 1 0 [.int .i64 0] []),zV 6 0,yC 7 1 8 5 6,zV 2 7] jP
def k204_2:=jR (jN [zV 3 0,ju] k204_0) k204_1
def c204:=jN [zp 2] k204_2
theorem ok204:Ao Tryz.prog 204 c204 8 [.t 2]=true:=by kernel_rfl
def w204:=aW k204_0.eq_1 (aW k204_1.eq_1 (oW k204_2.eq_1))
def k222_0:=jO 16 (jN [zV 17 5,zV 4 17] jP) jQ
def k222_1:=jN [zV 11 1,zV 12 0,zV 13 5,zX 14 13 12 13,zL 15 13 14,jF] k222_0
def k222_2:=jR (.block 1 (jN [zV 10 8,zV 5 10] k222_1)) (.region [zc 18 8,zV 8 18])
def b222_3:=jN [zj 9 8 7] (jR (jO 9 jQ (.exit 0)) k222_2)
def k222_4:=jR (jN [zV 6 0,zi 7 6,zK 8 0] (.block 0 (.loop b222_3))) (jN [zK 4 (-1)] jP)
def c222:=jN [zK 4 0] k222_4
theorem ok222:Ao Tryz.prog 222 c222 19 [.t 4]=true:=by kernel_rfl
def w222:=aW k222_0.eq_1 (aW k222_1.eq_1 (aW k222_2.eq_1 (oW k222_4.eq_1)))
def k227_0:=jR (.drawn [(0,zV 13 0),(1,zV 14 7),(2,W1 15 (.Km (.t 13) none (some (.t 14)))),(3,zV 16 0),(4,zV 17 7),(5,zV 18 1),(6,yK 19 18),(7,z6 20 17 19),(8,W1 21 (.Km (.t 16) (some (.t 20)) none)),(9,zV 4 15),(10,zV 5 21),(11,yu 6)] [[],[],[0,1],[],[],[],[5],[4,6],[3,7],[2,0,1,2],[8,9,0,1,2,3,4,5,6,7,8,9],[10,0,1,2,3,4,5,6,7,8,9,10]] 0) jP
def k227_1:=jN [zV 11 7,zR 12 11 0] (jO 12 k227_0 jQ)
def k227_2:=jN [zV 22 0,zV 4 22,W1 5 (.mv (.c (.str []))),zo 6] jP
def k227_3:=jR (jN [zV 8 0,zV 9 1,ze 10 228 8 9,zV 7 10] k227_1) k227_2
def c227:=jN [W1 4 (.mv (.c (.str []))),W1 5 (.mv (.c (.str []))),zo 6] k227_3
theorem ok227:Ao Tryz.prog 227 c227 23 [.t 4,.t 5,.t 6]=true:=by kernel_rfl
def w227:=aW k227_0.eq_1 (aW k227_1.eq_1 (aW k227_2.eq_1 (oW k227_3.eq_1)))
def k228_0:=jN [zV 27 0,zV 28 1,jC 29 28 0,ze 30 256 27 29,zV 4 30] jP
def k228_1:=jR (.Nx) (jO 36 (jR (.Nx) jP) jQ)
def k228_2:=jO 31 (jN [zK 4 (-1)] jP) k228_1
def k228_3:=jN [zV 32 5,zV 33 0,yK 34 33,yD 35 32 34,zV 31 35] k228_2
def k228_4:=jN [zV 25 5,zQ 26 25 1,zV 24 26] (jO 24 k228_0 k228_3)
def k228_5:=jO 16 (jN [zK 4 0] jP) k228_4
def k228_6:=jO 73 (jN [zK 4 (-1)] jP) jQ
def k228_7:AD:= .region [zV 74 8,zV 75 11,zc 76 75,z6 77 74 76,zV 8 77]
def k228_8:=jR (jN [zV 72 11,yk 73 72 0] k228_6) k228_7
def k228_9:=jN [zV 65 0,zV 66 8,zc 67 66,zV 68 9,W1 69 (.Km (.t 65) (some (.t 67)) (some (.t 68))),zV 70 6,ze 71 256 69 70,zV 11 71] k228_8
def k228_10:=jO 93 (jN [zV 94 8,zV 4 94] jP) jQ
def k228_11:=jN [zV 115 12,zV 116 8,z6 117 115 116,zV 4 117] jP
def k228_12:=jR (jN [zV 113 12,zR 114 113 0] (jO 114 k228_11 jQ)) (jN [zK 4 (-1)] jP)
def k228_13:=jO 139 (jN [zK 4 (-1)] jP) jQ
def k228_14:=jN [zV 140 8,zV 141 13,z6 142 140 141,zV 4 142] jP
def k228_15:=jR (jN [zV 138 13,yk 139 138 0] k228_13) k228_14
def k228_16:=jN [zV 133 0,zV 134 8,W1 135 (.Km (.t 133) (some (.t 134)) none),zV 136 1,ze 137 259 135 136,zV 13 137] k228_15
def k228_17:=jO 107 (jR (.Nx) k228_12) (jR (.Nx) (jO 132 k228_16 jQ))
def k228_18:=jN [zV 97 10,zc 98 97,zV 10 98] (jR (.Nx) k228_17)
def k228_19:=jN [zV 95 8,zc 96 95,zV 8 96] k228_18
def k228_20:=jR (jN [zV 78 0,zV 79 8,zc 80 79,yV 81 78 80,zV 82 7,yy 83 81 82,zV 84 83,zw 85 0 84,zw 86 8 84,zw 87 8 84,zw 88 5 84,yX 89 84 87 88,W2 90 84 true (.Km (.t 85) (some (.t 86)) (some (.t 89))),zw 91 1 84,
 jI 92 84 90 91,zA 93 84 92] k228_10) k228_19
def k228_21:AD:= .block 2 (jR (jN [zV 60 0,zV 61 8,yV 62 60 61,zV 63 6,W1 64 (.bin .neq (.t 62) (.t 63))] (jO 64 k228_9 jQ)) k228_20)
def b228_22:=jR (jN [zV 57 8,zV 58 9,zj 59 57 58] (jO 59 jQ (.exit 1))) k228_21
def k228_23:=jR (.block 1 (.loop b228_22)) (jN [zK 4 (-1)] jP)
def k228_24:=jN [zV 52 0,yK 53 52,zV 54 5,jc 55 53 54,zc 56 55,zV 9 56] (jN [zK 10 0] k228_23)
def k228_25:=jN [zV 50 1,jC 51 50 1,zV 7 51] (jN [zK 8 0] k228_24)
def k228_26:=jN [zV 48 1,jC 49 48 0,zV 6 49] k228_25
def k228_27:=jR (.block 0 (jN [zV 17 5,zQ 18 17 0,zV 19 18,zY 20 1 19,zY 21 0 19,W2 22 19 false (.MG .eql (.t 20) (.t 21)),zO 23 19 22,zV 16 23] k228_5)) k228_26
def k228_28:=jN [zV 14 1,yK 15 14,zV 5 15] k228_27
def c228:=jN [zK 4 0] k228_28
theorem ok228:Ao Tryz.prog 228 c228 143 [.t 4]=true:=by kernel_rfl
def w228:=aW k228_0.eq_1 (aW k228_1.eq_1 (aW k228_2.eq_1 (aW k228_3.eq_1 (aW k228_4.eq_1 (aW k228_5.eq_1 (aW k228_6.eq_1 (aW k228_7.eq_1 (aW k228_8.eq_1 (aW k228_9.eq_1 (aW k228_10.eq_1 (aW k228_11.eq_1 (aW k228_12.eq_1 (aW k228_13.eq_1 (aW k228_14.eq_1 (aW k228_15.eq_1 (aW k228_16.eq_1 (aW k228_17.eq_1 (aW k228_18.eq_1 (aW k228_19.eq_1 (aW k228_20.eq_1 (aW k228_21.eq_1 (aW k228_23.eq_1 (aW k228_24.eq_1 (aW k228_25.eq_1 (aW k228_26.eq_1 (aW k228_27.eq_1 (oW k228_28.eq_1)))))))))))))))))))))))))))
def k229_0:=jO 16 (jN [zV 17 5,zV 4 17] jP) jQ
def k229_1:=jN [zV 11 1,zV 12 0,zV 13 5,zX 14 1 12 13,zM 15 14,jF] k229_0
def k229_2:=jR (.block 1 (jN [zV 10 8,zV 5 10] k229_1)) (.region [zc 18 8,zV 8 18])
def b229_3:=jN [zj 9 8 7] (jR (jO 9 jQ (.exit 0)) k229_2)
def k229_4:=jR (jN [zV 6 0,zi 7 6,zK 8 0] (.block 0 (.loop b229_3))) (jN [zK 4 (-1)] jP)
def c229:=jN [zK 4 0] k229_4
theorem ok229:Ao Tryz.prog 229 c229 19 [.t 4]=true:=by kernel_rfl
def w229:=aW k229_0.eq_1 (aW k229_1.eq_1 (aW k229_2.eq_1 (oW k229_4.eq_1)))
def k230_0:=jN [zV 167 0,zV 168 1,W1 169 (.Hp .u8 (.t 168)),ze 170 260 167 169,zV 4 170] jP
def k230_1:=jO 181 (jN [zV 182 5,zV 4 182] jP) jQ
def k230_2:AD:= .block 10 (jN [zE 178 176 1,zE 179 176 2,zV 5 178,zV 6 179] (jN [zV 180 6,jG 181 180] k230_1))
def b230_3:=jN [W1 176 (.Ya (.t 175)),zE 177 176 0] (jR (jO 177 jQ (.exit 9)) k230_2)
def k230_4:=jR (jN [zV 174 0,W1 175 (.Yg (.t 174))] (.block 9 (.loop b230_3))) (jN [zK 4 (-1)] jP)
def k230_5:=jO 183 (jN [zK 4 (-1)] jP) (.Nx)
def k230_6:=jN [zV 184 1,zd 185 261 184,zN 186 185,zV 183 186] k230_5
def k230_7:=jN [zV 172 1,jG 173 172,zV 171 173] (jO 171 k230_4 k230_6)
def k230_8:AD:= .block 0 (jN [zV 161 1,W1 162 (.bin .leq (.c (.int .i32 0)) (.t 161)),zV 163 162,zw 164 1 163,W2 165 163 true (.bin .lss (.t 164) (.c (.int .i32 128))),zA 166 163 165,zV 160 166] (jO 160 k230_0 k230_7))
def c230:=jN [zK 4 0] k230_8
theorem ok230:Ao Tryz.prog 230 c230 187 [.t 4]=true:=by kernel_rfl
def w230:=aW k230_0.eq_1 (aW k230_1.eq_1 (aW k230_2.eq_1 (aW k230_4.eq_1 (aW k230_5.eq_1 (aW k230_6.eq_1 (aW k230_7.eq_1 (oW k230_8.eq_1)))))))
def k231_0:=jN [zV 3 0,yz 4 3 8,zV 2 4] jP
def c231:=jN [zo 2] k231_0
theorem ok231:Ao Tryz.prog 231 c231 5 [.t 2]=true:=by kernel_rfl
def k232_0:=jN [zL 17 256 2,zS 256 2 17,zo 3] jP
def k232_1:=jR (jN [zV 15 5,W1 16 (.bin .geq (.t 15) (.c (.int .u8 128)))] (jO 16 k232_0 jQ)) (.region [zV 18 5,jm 19 256 2 18,yA 19])
def k232_2:=jR (.block 1 (jN [zV 12 0,zV 13 4,yV 14 12 13,zV 5 14] k232_1)) (.region [zV 10 4,zc 11 10,zV 4 11])
def b232_3:=jR (jN [zV 6 4,zV 7 0,yK 8 7,zj 9 6 8] (jO 9 jQ (.exit 0))) k232_2
def k232_4:=jN [zL 20 256 2,zS 256 2 20,yu 3] jP
def k232_5:=jR (jN [zK 4 0] (.block 0 (.loop b232_3))) k232_4
def c232:=jN [
 jE 2,
 zo 3] k232_5
theorem ok232:Ao Tryz.prog 232 c232 21 [.c 2 (some 256),.t 3]=true:=by kernel_rfl
def w232:=aW k232_0.eq_1 (aW k232_1.eq_1 (aW k232_2.eq_1 (aW k232_4.eq_1 (oW k232_5.eq_1))))
def k233_0:=jN [zV 5 0,zV 6 1,W1 7 (.Pb (.t 5)),jm 8 256 7 6,zM 9 8,zV 4 9] jP
def c233:=jN [zo 4] k233_0
theorem ok233:Ao Tryz.prog 233 c233 10 [.t 4]=true:=by kernel_rfl
def c256:=jN [zK 4 0] (jR (.Nx) jP)
theorem ok256:Ao Tryz.prog 256 c256 8 [.t 4]=true:=by kernel_rfl
def k259_0:=jR (.block 1 (.region [zV 23 8,jj 24 23,zV 25 0,zV 26 9,yV 27 25 26,jB 28 27,z6 29 24 28,zV 8 29])) (.region [zV 21 9,zc 22 21,zV 9 22])
def b259_1:=jR (jN [zV 18 9,zV 19 7,zj 20 18 19] (jO 20 jQ (.exit 0))) k259_0
def k259_2:=jO 39 (jN [zK 4 0] jP) jQ
def k259_3:=jN [zV 78 10,zV 79 7,jc 80 78 79,zV 4 80] jP
def k259_4:=jN [zV 65 8,zV 66 5,yy 67 65 66,zV 68 67,zw 69 0 68,zw 70 10 68,zw 71 7 68,W2 72 68 true (.bin .sub (.t 70) (.t 71)),zw 73 10 68,W2 74 68 true (.Km (.t 69) (some (.t 72)) (some (.t 73))),zw 75 1 68,jI 76 68 74 75,
 zA 77 68 76] (jO 77 k259_3 jQ)
def k259_5:=jN [zV 63 10,zc 64 63,zV 10 64] k259_4
def k259_6:=jN [zV 53 8,zV 54 6,zV 55 0,zV 56 10,zV 57 7,jc 58 56 57,yV 59 55 58,jB 60 59,W1 61 (.bin .mul (.t 54) (.t 60)),jc 62 53 61,zV 8 62] k259_5
def k259_7:=jN [zV 47 8,zV 48 0,zV 49 10,yV 50 48 49,jB 51 50,z6 52 47 51,zV 8 52] k259_6
def k259_8:AD:= .block 3 (jN [zV 45 8,jj 46 45,zV 8 46] k259_7)
def b259_9:=jR (jN [zV 41 10,zV 42 0,yK 43 42,zj 44 41 43] (jO 44 jQ (.exit 2))) k259_8
def k259_10:=jR (jN [zV 40 7,zV 10 40] (.block 2 (.loop b259_9))) (jN [zK 4 (-1)] jP)
def k259_11:=jR (jN [zV 30 8,zV 31 5,yy 32 30 31,zV 33 32,zw 34 0 33,zw 35 7 33,W2 36 33 true (.Km (.t 34) none (some (.t 35))),zw 37 1 33,jI 38 33 36 37,zA 39 33 38] k259_2) k259_10
def k259_12:=jR (jN [zK 9 0] (.block 0 (.loop b259_1))) k259_11
def k259_13:=jN [zV 16 1,yK 17 16,zV 7 17] (jN [ja 8 0] k259_12)
def k259_14:=jN [zV 12 1,zd 13 270 12,zV 11 13,zE 14 11 0,zE 15 11 1,zV 5 14,zV 6 15] k259_13
def c259:=jN [zK 4 0] k259_14
theorem ok259:Ao Tryz.prog 259 c259 81 [.t 4]=true:=by kernel_rfl
def w259:=aW k259_0.eq_1 (aW k259_2.eq_1 (aW k259_3.eq_1 (aW k259_4.eq_1 (aW k259_5.eq_1 (aW k259_6.eq_1 (aW k259_7.eq_1 (aW k259_8.eq_1 (aW k259_10.eq_1 (aW k259_11.eq_1 (aW k259_12.eq_1 (aW k259_13.eq_1 (oW k259_14.eq_1))))))))))))
def k260_0:=jN [zV 5 0,zV 6 1,ze 7 256 5 6,zV 4 7] jP
def c260:=jN [zK 4 0] k260_0
theorem ok260:Ao Tryz.prog 260 c260 8 [.t 4]=true:=by kernel_rfl
def k261_0:=jO 10 (jN [yu 2] jP) jQ
def k261_1:=jN [zV 11 0,W1 12 (.bin .lss (.c (.int .i32 57343)) (.t 11)),zV 13 12,zw 14 0 13,W2 15 13 true (.bin .leq (.t 14) (.c (.int .i32 1114111))),zA 16 13 15,zV 10 16] k261_0
def k261_2:=jO 3 (jN [yu 2] jP) k261_1
def k261_3:=jR (.block 0 (jN [zV 4 0,W1 5 (.bin .leq (.c (.int .i32 0)) (.t 4)),zV 6 5,zw 7 0 6,W2 8 6 true (.bin .lss (.t 7) (.c (.int .i32 55296))),zA 9 6 8,zV 3 9] k261_2)) (jN [zo 2] jP)
def c261:=jN [zo 2] k261_3
theorem ok261:Ao Tryz.prog 261 c261 17 [.t 2]=true:=by kernel_rfl
def w261:=aW k261_0.eq_1 (aW k261_1.eq_1 (aW k261_2.eq_1 (oW k261_3.eq_1)))
def k270_0:=jR (.block 1 (.region [zV 15 4,jj 16 15,zV 17 0,zV 18 5,yV 19 17 18,jB 20 19,z6 21 16 20,zV 4 21])) (.region [zV 13 5,zc 14 13,zV 5 14])
def b270_1:=jR (jN [zV 9 5,zV 10 0,yK 11 10,zj 12 9 11] (jO 12 jQ (.exit 0))) k270_0
def k270_2:AD:= .region [zV 31 6,zV 32 7,W1 33 (.bin .mul (.t 31) (.t 32)),zV 6 33]
def k270_3:AD:= .region [zV 34 7,zV 35 7,W1 36 (.bin .mul (.t 34) (.t 35)),zV 7 36]
def k270_4:=jR (.block 3 (jR (jN [zV 28 8,W1 29 (.bin .and (.t 28) (zI 1)),zk 30 29 0] (jO 30 k270_2 jQ)) k270_3)) (.region [zV 26 8,W1 27 (.bin .shr (.t 26) (.c (.int .u64 1))),zV 8 27])
def b270_5:=jR (jN [zV 24 8,yz 25 24 0] (jO 25 jQ (.exit 2))) k270_4
def k270_6:=jN [zV 37 4,zV 38 6,zV 2 37,zV 3 38] jP
def k270_7:=jR (jN [zV 22 0,yK 23 22,zV 8 23] (.block 2 (.loop b270_5))) k270_6
def k270_8:=jR (jN [zK 5 0] (.block 0 (.loop b270_1))) (jN [ja 6 1,ja 7 16777619] k270_7)
def c270:=jN [ja 2 0,ja 3 0] (jN [ja 4 0] k270_8)
theorem ok270:Ao Tryz.prog 270 c270 39 [.t 2,.t 3]=true:=by kernel_rfl
def w270:=aW k270_0.eq_1 (aW k270_2.eq_1 (aW k270_3.eq_1 (aW k270_4.eq_1 (aW k270_6.eq_1 (aW k270_7.eq_1 (oW k270_8.eq_1))))))
end Go.Proofs.YtlaipllgmddkiaaGreat.Ax
