/- Texts put behind one another: AxCBase. Conditions: none. -/
import Derived.Test.YtlaipllgmddkiaaGreatAxEnterZ
import Derived.Test.YtlaipllgmddkiaaGreatProg
import Derived.KernelRfl
set_option linter.all false
namespace Go.Proofs.YtlaipllgmddkiaaGreat.Ax
open Go Go.Ax
abbrev za(a:Nat):A6:=W1 a (.new [.int .i64 0,.int .i64 0,.int .i64 0,.lit (.slice none 0 0),.lit (.slice none 0 0)])
abbrev zb(a:Nat):A6:=W1 a (.new [.int .i64 0,.int .i64 0,.int .i64 0,.int .i64 0,.int .i64 0,.int .i64 0,.int .i64 0,.bool false,.int .u64 0,.int .u64 0,.int .u64 0,.int .u64 0,.int .u64 0])
abbrev zc(a b:Nat):A6:=W1 a (.bin .add (.t b) (zI 1))
abbrev zd(a:Nat):A6:=W1 a (.new [.int .i64 0,.int .i64 0,.int .i64 0,.int .i64 0])
abbrev ze(a b c d:Nat):A6:=W1 a (.call b [(.t c),(.t d)])
abbrev zg(a b:Nat):A6:=W1 a (.len false (.t b))
abbrev zh(a b c:Nat):A6:=W1 a (.bin .lss (.t b) (.t c))
abbrev zi(a b:Nat):A6:=W1 a (.box (.t b))
abbrev zj(a b c:Nat):A6:=W1 a (.call b [(.t c)])
abbrev zk(a:Nat):A6:=W1 a (.build [.int .i64 0,.int .i64 0,.int .i64 0,.int .i64 0,.int .i64 0,.int .i64 0,.int .i64 0,.bool false,.int .u64 0,.int .u64 0,.int .u64 0,.int .u64 0,.int .u64 0] [])
abbrev zl(a b:Nat)(c:Int):A6:=W1 a (.bin .neq (.t b) (zI c))
abbrev zm(a:Nat):A6:=zB a false
abbrev zn(a:Nat):A6:=W1 a (.build [.int .i64 0,.int .i64 0,.int .i64 0,.int .i64 0] [])
abbrev zo(a b c d e:Nat):A6:=W1 a (.call b [(.t c),(.t d),(.t e)])
abbrev zp(a b c d:Nat):A6:=W2 a b true (.ld (some c) (.t d))
abbrev zq(a b c:Nat):A6:=zD a b true c
abbrev zr(a b c d:Nat):A6:=zG a b true c d
abbrev zu(a b c:Nat):A6:=zU a b c true
abbrev zv(a b:Nat):A6:=W1 a (.build [.int .i64 0,.int .i64 0,.int .i64 0,.int .i64 0,.int .i64 0,.int .i64 0,.int .i64 0,.bool false,.int .u64 0,.int .u64 0,.int .u64 0,.int .u64 0,.int .u64 0] [(0,1,(.t b))])
abbrev zw(a b c:Nat):A6:=W1 a (.build [.int .i64 0,.int .u64 0,.int .i64 0] [(b,1,(.t c))])
abbrev zx(a:Nat):A6:=W1 a (.new [.int .i64 0,.int .u64 0,.int .i64 0])
abbrev zy(a b c d:Nat):A6:=W2 a b true (.pick (.t c) (.c (.bool true)) (.t d))
abbrev zz(a:Nat):A6:=W1 a (.mv (.c (.lit (.slice none 0 0))))
abbrev zC(a b c d e:Nat):A6:=W2 a b true (.call c [(.t d),(.t e)])
abbrev zH(a b c d:Nat):A6:=zG a b false c d
abbrev zJ(a b:Nat)(c:Int):A6:=W1 a (.bin .geq (.t b) (zI c))
abbrev zP(a b c:Nat):A6:=zD a b false c
abbrev zR(a:Nat)(b:Int):A6:=W1 a (.build [.int .i64 0,.int .u64 0,.int .i64 0] [(0,1,(zI b))])
abbrev zT(a:Nat):A6:=W1 a (.new [.int .i64 0,.int .i64 0,.int .i64 0,.int .i64 0,.int .i64 0])
abbrev zW(a b c:Nat):A6:=W1 a (.build [.int .i64 0,.int .i64 0,.int .i64 0,.int .i64 0,.int .i64 0] [(0,4,(.t b)),(4,1,(.t c))])
abbrev zY(a b c:Nat)(d:Int):A6:=W1 a (.call b [(.t c),(zI d)])
abbrev zZ(a b c:Nat):A6:=W2 a b false (.len false (.t c))
abbrev z3(a b c d e:Nat):A6:=W2 a b true (.A9 c (.t d) (.t e))
abbrev z4(a b c:Nat):A6:=W1 a (.bin .add (.t b) (.t c))
abbrev z5(a b c:Nat)(d:Int):A6:=W2 a b true (.bin .eql (.t c) (zI d))
abbrev z6(a b c d e:Nat):A6:=W2 a b false (.A9 c (.t d) (.t e))
abbrev z7(a b c:Nat):A6:=W2 a b false (.un .not (.t c))
abbrev z8(a b c:Nat):A6:=zU a b c false
abbrev z9(a b:Nat):A6:=W1 a (.born b (.new [.int .i64 0,.int .i64 0,.int .i64 0,.lit (.slice none 0 0),.lit (.slice none 0 0)]))
abbrev ya(a b c d:Nat):A6:=W2 a b true (.call c [(.t d)])
abbrev yb(a b c:Nat)(d e:Int):A6:=W1 a (.call b [(.t c),(zI d),(zI e)])
abbrev yc(a b c d:Nat)(e f:Int):A6:=W2 a b true (.call c [(.t d),(zI e),(zI f)])
abbrev yd(a b c d:Nat):A6:=W2 a b true (.bin .lss (.t c) (.t d))
abbrev ye(a b c:Nat)(d:Int):A6:=W2 a b true (.bin .neq (.t c) (zI d))
abbrev yf(a b:Nat)(c:Int):A6:=W1 a (.bin .gtr (.t b) (zI c))
abbrev yg(a b:Nat)(c:Int):A6:=W1 a (.bin .lss (.t b) (zI c))
abbrev yh(a b c d:Nat):A6:=W1 a (.build [.int .i64 0,.int .i64 0,.int .i64 0,.lit (.slice none 0 0),.lit (.slice none 0 0)] [(0,3,(.t b)),(3,1,(.t c)),(4,1,(.t d))])
abbrev yi(a b c:Nat)(d:Int):A6:=W2 a b false (.bin .eql (.t c) (zI d))
abbrev yj(a:Nat):A6:=W1 a (.build [.int .i64 0,.int .u64 0,.int .i64 0] [])
abbrev yk(a b c d:Nat):A6:=W2 a b false (.call c [(.t d)])
abbrev yl(a b c d:Nat):A6:=W1 a (.build [.int .i64 0,.int .i64 0,.int .i64 0,.int .i64 0,.int .i64 0,.int .i64 0,.int .i64 0,.bool false,.int .u64 0,.int .u64 0,.int .u64 0,.int .u64 0,.int .u64 0] [(0,1,(zI 3)),(7,1,(.c (.bool true))),(8,1,(.t b)),(6,1,(.t c)),(5,1,(.t d))])
abbrev ym(a b c d:Nat):A6:=W2 a b false (.ld (some c) (.t d))
abbrev yn(a b c:Nat)(d:Int):A6:=W2 a b false (.bin .gtr (.t c) (zI d))
abbrev yo(a:Nat):A6:=⟨none,.st 1 (.t a) (.c (.bool true)),none⟩
abbrev yp(a b c:Nat):A6:=W2 a b true (.len false (.t c))
abbrev yq(a b:Nat):A6:=W1 a (.EO 1 1 [.int .i64 0] [(0,(.t b))])
abbrev yr(a:Nat):A6:=zB a true
abbrev yt(a b c:Nat):A6:=W1 a (.bin .geq (.t b) (.t c))
abbrev yu(a b c:Nat)(d:Int):A6:=W2 a b false (.bin .lss (.t c) (zI d))
abbrev yw(a b c:Nat)(d:Int):A6:=W2 a b true (.bin .leq (.t c) (zI d))
abbrev yx(a b c d:Nat):A6:=W2 a b false (.pick (.t c) (.t d) (.c (.bool false)))
abbrev yy(a:Nat):A6:=W1 a (.build [.int .i64 0,.int .i64 0,.int .i64 0,.int .i64 0,.int .i64 0,.int .i64 0,.int .i64 0,.bool false,.int .u64 0,.int .u64 0,.int .u64 0,.int .u64 0,.int .u64 0] [(0,1,(zI 3))])
abbrev yz(a b c d e f:Nat):A6:=W1 a (.build [.int .i64 0,.int .i64 0,.int .i64 0,.int .i64 0,.int .i64 0,.int .i64 0,.int .i64 0,.bool false,.int .u64 0,.int .u64 0,.int .u64 0,.int .u64 0,.int .u64 0] [(0,1,(.t b)),(c,1,(.t d)),(e,1,(.t f))])
abbrev yA(a b:Nat)(c:Int):A6:=W1 a (.bin .rem (.t b) (zI c))
abbrev yB(a b:Nat):A6:=W1 a (.len true (.t b))
abbrev yC(a b c d e:Nat):A6:=W1 a (.app b c (.t d) (.t e))
abbrev yD(a b c d e:Nat):A6:=W1 a (.build [.int .i64 0,.int .i64 0,.int .i64 0,.int .i64 0,.int .i64 0,.int .i64 0,.int .i64 0,.bool false,.int .u64 0,.int .u64 0,.int .u64 0,.int .u64 0,.int .u64 0] [(0,1,(.t b)),(c,d,(.t e))])
abbrev yE(a b c d:Nat):A6:=W2 a b false (.bin .geq (.t c) (.t d))
abbrev yF(a b c d:Nat):A6:=W2 a b false (.bin .neq (.t c) (.t d))
abbrev yG(a b c:Nat):A6:=W1 a (.eqs true [0,0,0,0,0,0,0,1,0,0,0,0,0] (.t b) (.t c))
abbrev yH(a b c d:Nat):A6:=W2 a b true (.bin .eql (.t c) (.t d))
abbrev yI(a b c:Nat):A6:=W1 a (.bin .eql (.t b) (.t c))
abbrev yJ(a b c:Nat):A6:=W1 a (.build [.int .i64 0,.int .u64 0,.int .i64 0] [(1,1,(.t b)),(2,1,(.t c))])
abbrev yK(a b c d:Nat):A6:=W2 a b true (.bin .leq (.t c) (.t d))
abbrev yL(a b c:Nat):A6:=W2 a b true (.bin .geq (.t c) (zI 0))
abbrev yM(a b c:Nat):A6:=W1 a (.FA (.t b) (.t c))
abbrev yN(a b c d:Nat):A6:=W2 a b true (.bin .add (.t c) (.t d))
abbrev yO(a b c:Nat):A6:=W2 a b true (.un .not (.t c))
abbrev yP(a b:Nat):A6:=W1 a (.MM 1 1 [.bool false] (.t b) (.t b))
abbrev yQ(a:Nat)(b:Int):A6:=W1 a (.mv (.c (.int .u32 b)))
abbrev yR(a b c d e f:Nat):A6:=W1 a (.call b [(.t c),(.t d),(.t e),(.t f)])
abbrev yS(a:Nat):A6:=W1 a (.build [.int .i64 0,.int .i64 0,.int .i64 0,.int .i64 0,.int .i64 0] [(4,1,(zI (-1)))])
abbrev yT(a b c d e f:Nat):A6:=W2 a b true (.call c [(.t d),(.t e),(.t f)])
abbrev yU(a b c:Nat):A6:=W1 a (.eqs false [0,0,0,0] (.t b) (.t c))
abbrev yV(a:Nat)(b c:Int):A6:=W1 a (.build [.int .i64 0,.int .i64 0,.int .i64 0,.int .i64 0] [(0,1,(zI b)),(1,1,(zI c)),(2,1,(zI 7))])
abbrev yW(a b:Nat):A6:=W1 a (.bin .mul (.t b) (.c (.int .u32 16777619)))
abbrev yX(a:Nat)(b:Int):A6:=⟨none,.st 1 (.t a) (zI b),none⟩
abbrev yY(a b c d e:Nat):A6:=W2 a b false (.call c [(.t d),(zI 0),(.t e)])
abbrev yZ(a b c:Nat):A6:=W2 a b false (.bin .sub (.t c) (zI 1))
abbrev ja(a b c:Nat):A6:=W1 a (.bin .sub (.t b) (.t c))
abbrev jb(a b:Nat):A6:=W1 a (.bin .add (zI 2) (.t b))
abbrev jc(a b:Nat):A6:=W1 a (.bin .quo (.t b) (zI 2))
abbrev jd(a b:Nat):A6:=W1 a (.bin .sub (.t b) (zI 1))
abbrev je(a b c d:Nat):A6:=W2 a b false (.bin .eql (.t c) (.t d))
abbrev jf(a b c:Nat)(d:Int):A6:=W2 a b false (.bin .neq (.t c) (zI d))
abbrev jg(a:Nat):A6:=W1 a (.new [.lit (.slice none 0 0)])
abbrev jh(a:Nat)(b:Int):A6:=W1 a (.mv (.c (.int .u64 b)))
abbrev ji(a b c d:Nat):A6:=W2 a b true (.bin .geq (.t c) (.t d))
abbrev jj(a b c:Nat)(d:Int):A6:=W2 a b true (.bin .lss (.t c) (zI d))
abbrev jk(a b:Nat):A6:=W1 a (.Hp .u64 (.t b))
abbrev jl(a b:Nat)(c:Int):A6:=W1 a (.bin .mul (.t b) (.c (.int .u64 c)))
abbrev jm(a:Nat)(b:Int)(c:Nat):A6:=W1 a (.bin .mul (zI b) (.t c))
abbrev jn(a b:Nat):A6:=W1 a (.born b (.new [.int .i64 0,.int .u64 0,.int .i64 0]))
abbrev jo(a:Nat):A6:=W1 a (.new [.int .i64 0,.int .i64 0,.int .i64 0])
abbrev jp(a b c:Nat):A6:=W2 a b true (.bin .add (zI 2) (.t c))
abbrev jq(a b:Nat):A6:=W1 a (.Hp .u32 (.t b))
abbrev jr(a b:Nat)(c:Int):A6:=W1 a (.FA (.t b) (zI c))
abbrev js(a:Nat):A6:=W1 a (.new (.replicate 256 (.bool false)))
abbrev jt:A6:=W1 16 (.Ha (.t 11) [(.t 15)])
abbrev ju(a b c d:Nat):A6:=W1 a (.U7 b 1 (.t c) (.t d))
abbrev jv(a b:Nat):A6:=W1 a (.bin .eql (.t b) (.c (.int .i32 65533)))
abbrev jw(a b c d:Nat):A6:=W2 a b true (.MG .eql (.t c) (.t d))
abbrev jx(a b c d:Nat):A6:=W2 a b true (.bin .gtr (.t c) (.t d))
abbrev jy(a b c:Nat)(d:Int):A6:=W2 a b true (.bin .rem (.t c) (zI d))
abbrev jz(l:List A6)(c:AD):AD:= .seq (.region l) c
abbrev jA(n:Nat)(a b:AD):AD:= .cond (.t n) a b
abbrev jB:AD:= .ret
abbrev jC:AD:= .skip
abbrev jD(a b:AD):AD:= .seq a b
set_option maxRecDepth 100000
def k15_0:=jA 24 (jz [zm 2] jB) jC
def k15_1:=jz [zL 25 5 1,zj 26 71 25,zV 27 26,zp 28 27 5 1,ya 29 27 72 28,zA 30 27 29,zV 31 30,zp 32 31 5 1,ya 33 31 73 32,zA 34 31 33,zV 35 34,zp 36 35 5 1,ya 37 35 74 36,
 yO 38 35 37,zA 39 35 38,zV 40 39,zp 41 40 5 1,ya 42 40 76 41,ya 43 40 75 42,zA 44 40 43,zV 45 44,zp 46 45 5 1,ya 47 45 77 46,zA 48 45 47,zV 2 48] jB
def k15_2:=jD (jz [zF 3 0 1,zL 4 3 3,zj 5 70 4,zN 6 5,zV 7 6,zH 8 7 3 1,zP 9 7 8,zZ 10 7 9,zH 11 7 0 1,zH 12 7 1 11,zP 13 7 12,yF 14 7 10 13,zO 15 7 14,zV 16 15,
 zH 17 16 4 1,zP 18 16 17,zZ 19 16 18,zH 20 16 0 1,zH 21 16 2 20,zP 22 16 21,yF 23 16 19 22,zO 24 16 23] k15_0) k15_1
def c15:=jz [zi 1 0,zm 2] k15_2
theorem ok15:Ao Tryz.prog 15 c15 49 [.t 2]=true:=by kernel_rfl
def w15:=aW k15_0.eq_1 (aW k15_1.eq_1 (oW k15_2.eq_1))
def k16_0:=jD (.drawn [(0,zF 3 0 1),(1,zL 4 3 3),(2,zF 5 3 1),(3,zM 6 5),(5,zF 8 4 1),(6,zM 9 8),(4,zj 7 78 6),(7,zj 10 79 9),(8,yh 11 4 7 10),(9,zS 5 2 11)] [[],[0],[],[2],[3],[],[5],[6,4],[1,4,7],[8,7,0,1,2,3,4,5,6,7,8]] 0) jB
def c16:=jz [zi 1 0,za 2] k16_0
theorem ok16:Ao Tryz.prog 16 c16 12 [.c 2 (some 5)]=true:=by kernel_rfl
def k23_0:=jz [zF 5 0 2,zL 6 3 5,zF 7 0 3,zL 8 3 7,W1 9 (.eqs false [0,0,0] (.t 6) (.t 8)),zV 10 9,zr 11 10 3 2,zq 12 10 11,zr 13 10 3 3,zq 14 10 13,zC 15 10 96 12 14,zA 16 10 15,zV 17 16,zr 18 17 4 2,
 zq 19 17 18,zr 20 17 4 3,zq 21 17 20,zC 22 17 97 19 21,zA 23 17 22,zV 4 23] jB
def c23:=jz [zi 2 0,zi 3 1,zm 4] k23_0
theorem ok23:Ao Tryz.prog 23 c23 24 [.t 4]=true:=by kernel_rfl
def k50_0:=jz [zV 31 4,W1 32 (.MG .neq (.t 31) (.c (.str []))),zV 33 32,zr 34 33 1 1,zp 35 33 1 34,ya 36 33 116 35,zA 37 33 36,zV 38 37,zu 39 5 38,zA 40 38 39,zV 41 40,zp 42 41 6 1,ya 43 41 118 42,
 zA 44 41 43,zV 45 44,zr 46 45 5 1,zq 47 45 46,W2 48 45 true (.bin .eql (.t 47) (.c (.int .u64 0))),zu 49 48 45,z8 50 4 49,W2 51 49 false (.call 115 [(.t 50),(.c (.str [87]))]),zy 52 45 49 51,zA 53 45 52,zV 2 53] jB
def k50_1:=jz [zF 12 2 1,zF 13 0 12,zM 14 13,zg 15 14,zQ 16 15 0,zV 17 16,zu 18 4 17,W2 19 17 true (.call 115 [(.t 18),(.c (.str [66]))]),yO 20 17 19,zA 21 17 20,zV 22 21,zH 23 22 2 1,ym 24 22 1 23,yk 25 22 116 24,
 z8 26 25 22,zu 27 4 26,W2 28 26 true (.call 117 [(.t 27),(.c (.str [66,98]))]),yx 29 22 26 28,zO 30 22 29,zV 5 30] k50_0
def k50_2:=jz [zF 7 0 1,zM 8 7,zj 9 114 8,zV 6 9,zE 10 6 0,zE 11 6 1,zV 3 10,zV 4 11] k50_1
def c50:=jz [zi 1 0,zm 2] k50_2
theorem ok50:Ao Tryz.prog 50 c50 54 [.t 2]=true:=by kernel_rfl
def w50:=aW k50_0.eq_1 (aW k50_1.eq_1 (oW k50_2.eq_1))
def k59_0:=jz [zL 3 4 1,zn 4,yU 5 3 4,zV 2 5] jB
def c59:=jz [zi 1 0,zm 2] k59_0
theorem ok59:Ao Tryz.prog 59 c59 6 [.t 2]=true:=by kernel_rfl
def k60_0:=jz [W1 25 (.build [.int .i64 0,.int .i64 0,.int .i64 0,.lit (.slice none 0 0),.lit (.slice none 0 0)] []),zS 5 4 25,zK 5 1] jB
def k60_1:AD:= .region [zF 40 3 8,zM 41 40,zV 42 9,zX 43 5 41 42,zF 44 4 43,yX 44 (-1)]
def k60_2:=jD (.block 1 (jz [zV 39 37,zV 9 39] k60_1)) (.region [zc 45 37,zV 37 45])
def b60_3:=jz [zh 38 37 36] (jD (jA 38 jC (.exit 0)) k60_2)
def k60_4:AD:= .region [zF 83 3 8,zM 84 83,zV 85 12,zc 86 85,yV 87 3 1,zV 88 10,zc 89 88,zW 90 87 89,zX 91 5 84 86,zS 5 91 90]
def k60_5:=jD (.drawn [(0,zF 74 4 8),(1,zM 75 74),(4,zV 78 12),(5,W1 79 (.call 128 [(zI 2),(zI 3),(.t 78)])),(2,zV 76 11),(3,jb 77 76),(6,zV 73 79),(7,zE 80 73 0),(9,zX 82 13 75 77),(10,zS 13 82 80),(8,zE 81 73 1)] [[],[0],[],[2],[],[4],[5],[6],[6],[1,3,0,1,2,3,4,5,6,7],[9,7,5,0,1,2,3,4,5,6,7]] 0) k60_4
def k60_6:=jz [zL 70 3 2,zV 71 11,ze 72 129 70 71,zV 12 72] k60_5
def k60_7:=jD (.block 3 (jz [zV 69 67,zV 11 69] k60_6)) (.region [zc 92 67,zV 67 92])
def b60_8:=jz [zh 68 67 66] (jD (jA 68 jC (.exit 2)) k60_7)
def k60_9:=jz [zL 99 5 8,zS 5 4 99,zK 5 0] jB
def k60_10:=jz [zF 93 3 8,zM 94 93,zV 95 10,zc 96 95,zX 97 5 94 96,zF 98 4 97,yX 98 (-1)] k60_9
def k60_11:=jD (jz [zF 65 0 2,zM 66 65,zK 67 0] (.block 2 (.loop b60_8))) k60_10
def k60_12:=jz [zF 59 3 8,zM 60 59,zV 61 10,yV 62 1 0,zX 63 5 60 61,zF 64 0 63,zS 4 64 62] k60_11
def k60_13:=jz [zL 57 3 2,zY 58 129 57 0,zV 10 58] k60_12
def k60_14:=jD (.drawn [(0,zF 51 4 8),(1,zM 52 51),(2,W1 53 (.call 128 [(zI 3),(zI 0),(zI 0)])),(3,zV 50 53),(4,zE 54 50 0),(6,W1 56 (.A9 13 (.t 52) (zI 1))),(7,zS 13 56 54),(5,zE 55 50 1)] [[],[0],[],[2],[3],[3],[1,0,1,2,3,4],[6,4,2,0,1,2,3,4]] 0) k60_13
def k60_15:=jz [zF 46 4 8,zM 47 46,zL 48 13 6,W1 49 (.A9 13 (.t 47) (zI 0)),zS 13 49 48] k60_14
def k60_16:=jD (jz [zF 34 3 8,zM 35 34,zg 36 35,zK 37 0] (.block 0 (.loop b60_3))) k60_15
def k60_17:=jD (.drawn [(0,zL 26 3 2),(1,zF 27 1 2),(2,zM 28 27),(4,zF 30 2 2),(5,zM 31 30),(3,W1 29 (.born 0 (.MM 5 40 [.int .i64 0,.int .i64 0,.int .i64 0,.int .i64 0,.int .i64 0] (.t 28) (.t 28)))),(6,W1 32 (.born 1 (.MM 13 104 [.int .i64 0,.int .i64 0,.int .i64 0,.int .i64 0,.int .i64 0,.int .i64 0,.int .i64 0,.bool false,.int .u64 0,.int .u64 0,.int .u64 0,.int .u64 0,.int .u64 0] (.t 31) (.t 31)))),
 (7,yh 33 26 29 32),(8,z9 8 2),(9,zS 5 8 33)] [[],[],[1],[2,2],[],[4],[5,5],[0,3,6],[],[8,7,0,1,2,3,4,5,6,7,8]] 3) k60_16
def k60_18:=jD (jz [zL 18 3 2,zj 19 70 18,zN 20 19,zV 21 20,z8 22 7 21,z7 23 21 22,zO 24 21 23] (jA 24 k60_0 jC)) k60_17
def k60_19:=jz [zV 14 1,W1 15 (.call 128 [(zI 1),(.t 14),(zI 0)]),zV 13 15,zE 16 13 0,zE 17 13 1,zb 6,zS 13 6 16,zV 7 17] k60_18
def c60:=jz [zi 2 0,za 4,zK 5 0] k60_19
theorem ok60:Ao Tryz.prog 60 c60 100 [.c 4 (some 5),.t 5]=true:=by kernel_rfl
def w60:=aW k60_0.eq_1 (aW k60_1.eq_1 (aW k60_2.eq_1 (aW k60_4.eq_1 (aW k60_5.eq_1 (aW k60_6.eq_1 (aW k60_7.eq_1 (aW k60_9.eq_1 (aW k60_10.eq_1 (aW k60_11.eq_1 (aW k60_12.eq_1 (aW k60_13.eq_1 (aW k60_14.eq_1 (aW k60_15.eq_1 (aW k60_16.eq_1 (aW k60_17.eq_1 (aW k60_18.eq_1 (oW k60_19.eq_1)))))))))))))))))
def k65_0:=jz [zn 21,zV 22 10,zK 6 0,zS 4 7 21,zV 8 22] jB
def k65_1:=jz [zn 31,zK 6 0,zS 4 7 31,zK 8 4] jB
def k65_2:=jz [zF 24 3 3,zM 25 24,zV 26 9,zX 27 5 25 26,zF 28 0 27,zL 29 4 28,zj 30 59 29,zV 23 30] (jA 23 k65_1 jC)
def k65_3:=jD (.drawn [(1,zF 33 3 3),(2,zM 34 33),(3,zV 35 9),(4,zX 36 5 34 35),(5,zF 37 0 36),(6,zL 38 4 37),(0,zV 32 9),(7,zV 6 32),(8,zS 4 7 38),(9,zK 8 0)] [[],[],[1],[],[2,3],[4],[5],[0,0],[6,7,0,1,2,3,4,5,6,7],[8,0,1,2,3,4,5,6,7,8]] 0) jB
def k65_4:=jD (.block 0 (jz [zV 19 10,zl 20 19 0,zV 18 20] (jA 18 k65_0 k65_2))) k65_3
def k65_5:=jz [zL 12 5 3,zV 13 1,zL 14 1 5,zo 15 134 12 13 14,zV 11 15,zE 16 11 0,zE 17 11 1,zV 9 16,zV 10 17] k65_4
def c65:=jz [zi 3 0,zi 5 2,zK 6 0,zd 7,zK 8 0] k65_5
theorem ok65:Ao Tryz.prog 65 c65 39 [.t 6,.c 7 (some 4),.t 8]=true:=by kernel_rfl
def w65:=aW k65_0.eq_1 (aW k65_1.eq_1 (aW k65_2.eq_1 (aW k65_3.eq_1 (aW k65_4.eq_1 (oW k65_5.eq_1)))))
def k67_0:=jA 6 (jz [yr 4] jB) jC
def k67_1:=jz [zF 7 0 2,zM 8 7,zF 9 0 3,zM 10 9,yI 11 8 10,zV 12 11,zr 13 12 1 2,zq 14 12 13,zr 15 12 1 3,zq 16 12 15,yH 17 12 14 16,zA 18 12 17,zV 19 18,zr 20 19 2 2,
 zq 21 19 20,zr 22 19 2 3,zq 23 19 22,zC 24 19 80 21 23,zA 25 19 24,zV 26 25,zr 27 26 3 3,zq 28 26 27,z5 29 26 28 0,zu 30 29 26,zH 31 30 3 3,zP 32 30 31,
 zH 33 30 3 2,zP 34 30 33,je 35 30 32 34,zy 36 26 30 35,zA 37 26 36,zV 4 37] jB
def k67_2:=jD (jz [zL 5 4 2,zj 6 59 5] k67_0) k67_1
def c67:=jz [zi 2 0,zi 3 1,zm 4] k67_2
theorem ok67:Ao Tryz.prog 67 c67 38 [.t 4]=true:=by kernel_rfl
def w67:=aW k67_0.eq_1 (aW k67_1.eq_1 (oW k67_2.eq_1))
def k70_0:=jz [zF 3 0 1,zM 4 3,yb 5 140 4 1 4,zV 6 5,zr 7 6 1 1,zq 8 6 7,zr 9 6 0 1,zq 10 6 9,W2 11 6 true (.bin .mul (zI 8) (.t 10)),W2 12 6 true (.call 140 [(.t 8),(.t 11),(zI 96)]),zA 13 6 12,zV 14 13,
 zr 15 14 1 1,zq 16 14 15,jy 17 14 16 8,z5 18 14 17 0,zA 19 14 18,zV 20 19,zr 21 20 2 1,zq 22 20 21,zr 23 20 0 1,zq 24 20 23,W2 25 20 true (.bin .add (.t 24) (zI 2)),
 W2 26 20 true (.call 140 [(.t 22),(.t 25),(zI 48)]),zA 27 20 26,zV 2 27] jB
def c70:=jz [zi 1 0,zm 2] k70_0
theorem ok70:Ao Tryz.prog 70 c70 28 [.t 2]=true:=by kernel_rfl
def k71_0:AD:= .region [zL 27 4 5,zj 28 59 27,zN 29 28,zV 30 29,zr 31 30 4 4,zq 32 30 31,jj 33 30 32 (-1),zA 34 30 33,zV 19 34]
def k71_1:=jA 35 (jz [zm 2] jB) jC
def k71_2:=jD (.drawn [(0,zL 36 4 5),(1,zj 37 59 36),(2,zN 38 37),(3,zV 39 38),(4,zp 40 39 5 1),(5,zr 41 39 1 5),(6,zq 42 39 41),(7,zC 43 39 142 40 42),(8,yO 44 39 43),(9,zu 45 44 39),(10,zH 46 45 4 1),
 (11,zP 47 45 46),(12,zH 48 45 1 5),(13,zP 49 45 48),(14,z6 50 45 13 47 49),(15,zH 51 45 0 50),(16,zP 52 45 51),(17,zH 53 45 0 5),(18,zP 54 45 53),(19,yF 55 45 52 54),
 (20,zy 56 39 45 55),(21,zA 57 39 56),(22,zV 35 57)] [[],[0],[1],[2,1],[3],[3],[5,3],[4,6,3,3],[7,3],[8,7,3],[9],[10,9],[9],[12,9],[11,13,9],[14,9],[15,9],[9],[17,9],[16,18,9],[9,19,3],[3,20],[21,9]] 0) k71_1
def k71_3:=jA 19 (jz [zm 2] jB) k71_2
def k71_4:=jD (jz [zL 20 4 5,zj 21 59 20,zV 22 21,zr 23 22 4 4,zq 24 22 23,ye 25 22 24 (-1),zA 26 22 25,zV 19 26] (jA 19 jC k71_0)) k71_3
def k71_5:=jA 15 (jz [zm 2] jB) k71_4
def k71_6:AD:= .block 2 (jz [zL 16 4 5,zj 17 141 16,zN 18 17,zV 15 18] k71_5)
def k71_7:=jz [zF 13 0 4,zL 14 4 13,zd 5,zS 4 5 14] k71_6
def k71_8:=jD (.block 1 (jz [zX 11 5 7 9,zL 12 5 11,zT 4,zS 5 4 12] k71_7)) (.region [zc 58 9,zV 9 58])
def b71_9:=jz [zh 10 9 8] (jD (jA 10 jC (.exit 0)) k71_8)
def k71_10:=jD (jz [zF 6 3 1,zM 7 6,zg 8 7,zK 9 0] (.block 0 (.loop b71_9))) (jz [yr 2] jB)
def c71:=jz [zi 1 0,zm 2] k71_10
theorem ok71:Ao Tryz.prog 71 c71 59 [.t 2]=true:=by kernel_rfl
def w71:=aW k71_0.eq_1 (aW k71_1.eq_1 (aW k71_2.eq_1 (aW k71_3.eq_1 (aW k71_4.eq_1 (aW k71_5.eq_1 (aW k71_6.eq_1 (aW k71_7.eq_1 (aW k71_8.eq_1 (oW k71_10.eq_1)))))))))
def k72_0:=jA 16 (jz [zm 2] jB) jC
def k72_1:=jA 38 (jz [zm 2] jB) jC
def k72_2:=jA 59 (jz [zm 2] jB) jC
def k72_3:=jA 73 (jz [zm 2] jB) jC
def k72_4:=jz [zV 60 5,zN 61 60,zV 62 61,zr 63 62 0 4,zq 64 62 63,ye 65 62 64 0,zA 66 62 65,zV 67 66,zp 68 67 5 1,zu 69 3 67,zC 70 67 144 68 69,yp 71 67 70,
 z5 72 67 71 0,zA 73 67 72] k72_3
def k72_5:=jD (jD (.drawn [(0,zV 49 5),(1,zV 50 49),(2,zp 51 50 13 4),(3,zr 52 50 0 1),(4,zp 53 50 3 52),(5,zu 54 3 50),(6,W2 55 50 true (.bin .sub (.t 54) (zI 2))),(7,zC 56 50 129 53 55),
 (8,W2 57 50 true (.build [.int .i64 0,.int .i64 0,.int .i64 0,.int .i64 0,.int .i64 0,.int .i64 0,.int .i64 0,.bool false,.int .u64 0,.int .u64 0,.int .u64 0,.int .u64 0,.int .u64 0] [(0,1,(zI 2)),(1,1,(zI 3)),(2,1,(.t 56))])),(9,W2 58 50 true (.eqs true [0,0,0,0,0,0,0,1,0,0,0,0,0] (.t 51) (.t 57))),(10,zA 59 50 58)] [[],[0],[1],[1],[3,1],[1],[5,1],[4,6,1,1],[7,1],[2,8,1],[1,9]] 0) k72_2) k72_4
def k72_6:=jz [zV 39 3,zJ 40 39 2,zV 41 40,zu 42 3 41,zr 43 41 0 1,zr 44 41 0 43,zq 45 41 44,jp 46 41 45,yd 47 41 42 46,zA 48 41 47,zV 5 48] k72_5
def k72_7:=jD (jz [zF 17 5 4,zM 18 17,yf 19 18 0,zV 20 19,zr 21 20 5 4,zq 22 20 21,zr 23 20 3 1,zq 24 20 23,yp 25 20 24,jx 26 20 22 25,zu 27 26 20,zH 28 27 3 1,
 zP 29 27 28,zH 30 27 5 4,zP 31 27 30,yZ 32 27 31,z6 33 27 5 29 32,zH 34 27 0 33,ym 35 27 4 34,yk 36 27 59 35,zy 37 20 27 36,zA 38 20 37] k72_1) k72_6
def k72_8:=jD (jz [zL 14 13 4,zj 15 143 14,zN 16 15] k72_0) k72_7
def k72_9:=jD (.block 1 (jz [zV 11 9,zX 12 13 7 9,zL 13 13 12,zb 4,zV 3 11,zS 13 4 13] k72_8)) (.region [zc 74 9,zV 9 74])
def b72_10:=jz [zh 10 9 8] (jD (jA 10 jC (.exit 0)) k72_9)
def k72_11:=jD (jz [zF 6 4 1,zM 7 6,zg 8 7,zK 9 0] (.block 0 (.loop b72_10))) (jz [yr 2] jB)
def c72:=jz [zi 1 0,zm 2] k72_11
theorem ok72:Ao Tryz.prog 72 c72 75 [.t 2]=true:=by kernel_rfl
def w72:=aW k72_0.eq_1 (aW k72_1.eq_1 (aW k72_2.eq_1 (aW k72_3.eq_1 (aW k72_4.eq_1 (aW k72_5.eq_1 (aW k72_6.eq_1 (aW k72_7.eq_1 (aW k72_8.eq_1 (aW k72_9.eq_1 (oW k72_11.eq_1))))))))))
def k73_0:=jA 43 (jz [zm 2] jB) jC
def k73_1:AD:= .region [zV 44 3,zV 45 7,zX 46 1 44 45,yo 46]
def k73_2:=jD (jz [zV 34 7,zV 35 3,zg 36 35,yt 37 34 36,zV 38 37,z8 39 3 38,z8 40 7 38,z6 41 38 1 39 40,zP 42 38 41,zO 43 38 42] k73_0) k73_1
def k73_3:=jz [zF 30 2 5,zM 31 30,zV 32 6,z4 33 31 32,zV 7 33] k73_2
def k73_4:=jD (.block 3 (jz [zV 29 27,zV 6 29] k73_3)) (.region [zc 47 27,zV 27 47])
def b73_5:=jz [zh 28 27 26] (jD (jA 28 jC (.exit 2)) k73_4)
def k73_6:=jz [zF 24 1 5,zM 25 24,W1 26 (.bin .shl (zI 1) (.t 25)),zK 27 0] (.block 2 (.loop b73_5))
def k73_7:=jD (jz [zF 21 0 5,zM 22 21,zl 23 22 2] (jA 23 (.exit 1) jC)) k73_6
def k73_8:=jD (.block 1 (jz [zX 19 13 15 17,zL 20 13 19,zb 5,zS 13 5 20] k73_7)) (.region [zc 48 17,zV 17 48])
def b73_9:=jz [zh 18 17 16] (jD (jA 18 jC (.exit 0)) k73_8)
def k73_10:=jA 67 (jz [zm 2] jB) jC
def k73_11:=jz [zV 57 3,zV 58 8,zX 59 1 57 58,zM 60 59,zN 61 60,zV 62 61,zr 63 62 0 9,zp 64 62 4 63,ya 65 62 59 64,yO 66 62 65,zA 67 62 66] k73_10
def k73_12:=jD (.block 5 (jz [zV 54 52,zX 55 5 50 52,zL 56 5 55,zT 9,zV 8 54,zS 5 9 56] k73_11)) (.region [zc 68 52,zV 52 68])
def b73_13:=jz [zh 53 52 51] (jD (jA 53 jC (.exit 4)) k73_12)
def k73_14:=jD (jz [zF 49 3 1,zM 50 49,zg 51 50,zK 52 0] (.block 4 (.loop b73_13))) (jz [yr 2] jB)
def k73_15:=jD (jz [zF 14 4 1,zM 15 14,zg 16 15,zK 17 0] (.block 0 (.loop b73_9))) k73_14
def k73_16:=jz [zF 10 3 1,zM 11 10,zg 12 11,yP 13 12,zV 3 13] k73_15
def c73:=jz [zi 1 0,zm 2] k73_16
theorem ok73:Ao Tryz.prog 73 c73 69 [.t 2]=true:=by kernel_rfl
def w73:=aW k73_0.eq_1 (aW k73_1.eq_1 (aW k73_2.eq_1 (aW k73_3.eq_1 (aW k73_4.eq_1 (aW k73_6.eq_1 (aW k73_7.eq_1 (aW k73_8.eq_1 (aW k73_10.eq_1 (aW k73_11.eq_1 (aW k73_12.eq_1 (aW k73_14.eq_1 (aW k73_15.eq_1 (oW k73_16.eq_1)))))))))))))
def k74_0:=jA 24 (jz [yr 2] jB) jC
def k74_1:=jz [zF 13 0 4,zF 14 0 13,zM 15 14,zQ 16 15 2,zV 17 16,zp 18 17 5 1,zr 19 17 0 4,zr 20 17 1 19,zq 21 17 20,zu 22 3 17,yT 23 17 145 18 21 22,zA 24 17 23] k74_0
def k74_2:=jD (.block 1 (jz [zV 10 8,zX 11 5 6 8,zL 12 5 11,zT 4,zV 3 10,zS 5 4 12] k74_1)) (.region [zc 25 8,zV 8 25])
def b74_3:=jz [zh 9 8 7] (jD (jA 9 jC (.exit 0)) k74_2)
def k74_4:=jD (jz [zF 5 3 1,zM 6 5,zg 7 6,zK 8 0] (.block 0 (.loop b74_3))) (jz [zm 2] jB)
def c74:=jz [zi 1 0,zm 2] k74_4
theorem ok74:Ao Tryz.prog 74 c74 26 [.t 2]=true:=by kernel_rfl
def w74:=aW k74_0.eq_1 (aW k74_1.eq_1 (aW k74_2.eq_1 (oW k74_4.eq_1)))
def k75_0:=jA 11 (jz [zm 2] jB) jC
def k75_1:=jA 30 (jz [zm 2] jB) jC
def k75_2:=jz [zV 19 4,zl 20 19 (-2),zV 21 20,zu 22 4 21,ye 23 21 22 (-1),zA 24 21 23,zV 25 24,zp 26 25 1 1,zu 27 4 25,zC 28 25 146 26 27,yO 29 25 28,zA 30 25 29] k75_1
def k75_3:=jD (.block 1 (jz [zX 17 1 13 15,zM 18 17,zV 4 18] k75_2)) (.region [zc 31 15,zV 15 31])
def b75_4:=jz [zh 16 15 14] (jD (jA 16 jC (.exit 0)) k75_3)
def k75_5:=jA 51 (jz [zm 2] jB) jC
def k75_6:AD:= .region [zF 42 0 1,zM 43 42,zV 44 7,zX 45 1 43 44,zM 46 45,zV 7 46]
def k75_7:=jD (.block 5 (jD (jz [zV 47 6,zF 48 0 1,zM 49 48,zg 50 49,W1 51 (.bin .gtr (.t 47) (.t 50))] k75_5) (.region [zV 52 6,zc 53 52,zV 6 53]))) k75_6
def b75_8:=jD (jz [zL 39 1 1,zV 40 7,ze 41 146 39 40] (jA 41 jC (.exit 4))) k75_7
def k75_9:=jz [zV 38 5,zV 7 38] (.block 4 (.loop b75_8))
def k75_10:=jD (.block 3 (jz [zV 37 35,zV 5 37] (jz [zK 6 0] k75_9))) (.region [zc 54 35,zV 35 54])
def b75_11:=jz [zh 36 35 34] (jD (jA 36 jC (.exit 2)) k75_10)
def k75_12:=jD (jz [zF 32 0 1,zM 33 32,zg 34 33,zK 35 0] (.block 2 (.loop b75_11))) (jz [yr 2] jB)
def k75_13:=jD (jz [zF 12 0 1,zM 13 12,zg 14 13,zK 15 0] (.block 0 (.loop b75_4))) k75_12
def k75_14:=jD (jz [zF 8 0 1,zM 9 8,zg 10 9,yf 11 10 96] k75_0) k75_13
def c75:=jz [zi 1 0,zm 2] k75_14
theorem ok75:Ao Tryz.prog 75 c75 55 [.t 2]=true:=by kernel_rfl
def w75:=aW k75_0.eq_1 (aW k75_1.eq_1 (aW k75_2.eq_1 (aW k75_3.eq_1 (aW k75_5.eq_1 (aW k75_6.eq_1 (aW k75_7.eq_1 (aW k75_9.eq_1 (aW k75_10.eq_1 (aW k75_12.eq_1 (aW k75_13.eq_1 (oW k75_14.eq_1)))))))))))
def k76_0:=jA 15 (.region [zF 16 4 5,yX 16 (-2)]) jC
def k76_1:AD:= .region [zF 17 0 3,zM 18 17,zF 19 4 5,zM 20 19,yq 21 20,yC 22 1 8 18 21,zF 23 0 3,zS 1 23 22]
def k76_2:=jD (jz [zF 13 0 5,zL 14 4 13,zj 15 59 14] k76_0) k76_1
def k76_3:=jD (.block 1 (jz [zX 11 5 7 9,zL 12 5 11,zT 5,zS 5 5 12] k76_2)) (.region [zc 24 9,zV 9 24])
def b76_4:=jz [zh 10 9 8] (jD (jA 10 jC (.exit 0)) k76_3)
def k76_5:=jD (jz [zF 6 3 1,zM 7 6,zg 8 7,zK 9 0] (.block 0 (.loop b76_4))) (jz [zL 25 1 3,zS 1 2 25] jB)
def c76:=jz [zi 1 0,jg 2] (jz [jg 3] k76_5)
theorem ok76:Ao Tryz.prog 76 c76 26 [.c 2 (some 1)]=true:=by kernel_rfl
def w76:=aW k76_0.eq_1 (aW k76_1.eq_1 (aW k76_2.eq_1 (aW k76_3.eq_1 (oW k76_5.eq_1))))
def k77_0:=jA 40 (jz [zm 2] jB) jC
def k77_1:=jz [zF 23 0 4,zL 24 4 23,zL 25 4 5,ze 26 67 24 25,zN 27 26,zV 28 27,zr 29 28 0 5,zq 30 28 29,ye 31 28 30 1,zu 32 31 28,zH 33 32 0 4,zH 34 32 1 33,zP 35 32 34,
 zH 36 32 1 5,zP 37 32 36,je 38 32 35 37,zy 39 28 32 38,zA 40 28 39] k77_0
def k77_2:=jz [zF 16 3 1,zM 17 16,zF 18 4 4,zM 19 18,zX 20 5 17 19,zF 21 0 20,zL 22 4 21,zd 5,zS 4 5 22] k77_1
def k77_3:=jD (jz [zF 13 4 4,zM 14 13,yg 15 14 0] (jA 15 (.exit 1) jC)) k77_2
def k77_4:=jD (.block 1 (jz [zX 11 5 7 9,zL 12 5 11,zT 4,zS 5 4 12] k77_3)) (.region [zc 41 9,zV 9 41])
def b77_5:=jz [zh 10 9 8] (jD (jA 10 jC (.exit 0)) k77_4)
def k77_6:=jD (jz [zF 6 3 1,zM 7 6,zg 8 7,zK 9 0] (.block 0 (.loop b77_5))) (jz [yr 2] jB)
def c77:=jz [zi 1 0,zm 2] k77_6
theorem ok77:Ao Tryz.prog 77 c77 42 [.t 2]=true:=by kernel_rfl
def w77:=aW k77_0.eq_1 (aW k77_1.eq_1 (aW k77_2.eq_1 (aW k77_3.eq_1 (aW k77_4.eq_1 (oW k77_6.eq_1)))))
def k80_0:=jz [zV 5 0,zV 6 1,ze 7 147 5 6,zQ 8 7 0,zV 4 8] jB
def c80:=jz [zm 4] k80_0
theorem ok80:Ao Tryz.prog 80 c80 9 [.t 4]=true:=by kernel_rfl
def k114_0:=jA 11 (jz [W1 2 (.mv (.c (.str []))),W1 3 (.mv (.c (.str [])))] jB) jC
def k114_1:=jz [zV 21 2,zV 22 3,zV 2 21,zV 3 22] jB
def k114_2:=jz [zV 13 4,zV 14 0,zX 15 1 13 14,zM 16 15,W1 17 (.call 189 [(.t 16),(.c (.str [32]))]),zV 12 17,zE 18 12 0,zE 19 12 1,zE 20 12 2,zV 2 18,zV 3 19] k114_1
def k114_3:=jD (jz [zV 6 0,yg 7 6 1,zV 8 7,z8 9 0 8,yn 10 8 9 13,zO 11 8 10] k114_0) k114_2
def c114:=jz [W1 2 (.mv (.c (.str []))),W1 3 (.mv (.c (.str [])))] (jz [
 W1 5 (.EO 1 14 [.str []] [(0,(.c (.str []))),(1,(.c (.str [109,97,107,101,32,65,66,88,89]))),(2,(.c (.str [99,111,112,121,32,65,66,88]))),(3,(.c (.str [109,105,110,116,32,65,66,88,89]))),(4,(.c (.str [109,111,118,101,32,65,66]))),(5,(.c (.str [100,101,108,101,116,101,32,65]))),(6,(.c (.str [114,101,118,111,107,101,32,65]))),(7,(.c (.str [115,101,110,100,32,65,98,87]))),(8,(.c (.str [114,101,99,118,32,65,98]))),(9,(.c (.str [114,105,110,103,32,65]))),(10,(.c (.str [112,111,108,108,32,65]))),(11,(.c (.str [119,114,105,116,101,32,65,88,87]))),(12,(.c (.str [114,101,97,100,32,65,88]))),(13,(.c (.str [116,101,108,108,32,65])))]),
 zV 4 5] k114_3)
theorem ok114:Ao Tryz.prog 114 c114 23 [.t 2,.t 3]=true:=by kernel_rfl
def w114:=aW k114_0.eq_1 (aW k114_1.eq_1 (aW k114_2.eq_1 (oW k114_3.eq_1)))
def k116_0:=jz [zF 4 0 1,zM 5 4,zg 6 5,zJ 7 6 1,zV 8 7,zr 9 8 0 1,zq 10 8 9,yp 11 8 10,yw 12 8 11 3,zA 13 8 12,zV 14 13,zr 15 14 0 1,zq 16 14 15,zu 17 3 14,
 zC 18 14 192 16 17,yO 19 14 18,zA 20 14 19,zV 2 20] jB
def c116:=jz [zi 1 0,zm 2] (jz [W1 3 (.mv (.c (.func 191 [])))] k116_0)
theorem ok116:Ao Tryz.prog 116 c116 21 [.t 2]=true:=by kernel_rfl
def k118_0:=jz [zF 7 3 1,zM 8 7,yb 9 194 8 1 5,zV 10 9,zr 11 10 4 1,zq 12 10 11,yc 13 10 194 12 0 4096,zA 14 10 13,zV 2 14] jB
def k118_1:=jz [zF 17 3 1,zM 18 17,zj 19 195 18,zV 20 19,zr 21 20 4 1,zq 22 20 21,z5 23 20 22 0,zA 24 20 23,zV 2 24] jB
def k118_2:=jz [zF 27 3 1,zM 28 27,zj 29 195 28,zV 30 29,zr 31 30 4 1,zq 32 30 31,yc 33 30 194 32 1 65535,zA 34 30 33,zV 2 34] jB
def k118_3:=jA 35 jC (.region [zQ 37 4 12,zV 35 37])
def k118_4:=jz [zF 38 3 1,zM 39 38,yb 40 194 39 0 3,zV 41 40,zr 42 41 4 1,zq 43 41 42,z5 44 41 43 0,zA 45 41 44,zV 2 45] jB
def k118_5:=jD (jz [zQ 36 4 11,zV 35 36] k118_3) (jA 35 k118_4 jC)
def k118_6:=jz [zQ 26 4 3,zV 25 26] (jA 25 k118_2 k118_5)
def k118_7:=jz [zQ 16 4 2,zV 15 16] (jA 15 k118_1 k118_6)
def k118_8:AD:= .block 0 (jz [zQ 6 4 1,zV 5 6] (jA 5 k118_0 k118_7))
def k118_9:=jz [zF 46 3 1,zM 47 46,zQ 48 47 0,zV 49 48,zr 50 49 4 1,zq 51 49 50,z5 52 49 51 0,zA 53 49 52,zV 2 53] jB
def k118_10:=jD (jz [zF 3 0 1,zM 4 3] k118_8) k118_9
def c118:=jz [zi 1 0,zm 2] k118_10
theorem ok118:Ao Tryz.prog 118 c118 54 [.t 2]=true:=by kernel_rfl
def w118:=aW k118_0.eq_1 (aW k118_1.eq_1 (aW k118_2.eq_1 (aW k118_3.eq_1 (aW k118_4.eq_1 (aW k118_5.eq_1 (aW k118_6.eq_1 (aW k118_7.eq_1 (aW k118_8.eq_1 (aW k118_9.eq_1 (oW k118_10.eq_1))))))))))
def c124:=jz [jo 0] (jz [W1 1 (.build [.int .i64 0,.int .i64 0,.int .i64 0] [(0,1,(zI 2)),(1,1,(zI 32)),(2,1,(zI 16))]),zS 3 0 1] jB)
theorem ok124:Ao Tryz.prog 124 c124 2 [.c 0 (some 3)]=true:=by kernel_rfl
def k128_0:AD:= .region [zV 19 1,zV 20 2,zF 21 1 8,zS 1 21 19,zF 22 2 8,zS 1 22 20]
def k128_1:=jA 23 jC (.region [zQ 26 11 5,zV 23 26])
def k128_2:=jA 23 jC (jz [zQ 25 11 4,zV 23 25] k128_1)
def k128_3:=jz [zk 12,zS 13 6 12,zm 7] jB
def k128_4:=jD (jz [zQ 24 11 3,zV 23 24] k128_2) (jA 23 jC k128_3)
def k128_5:=jz [zQ 18 11 2,zV 17 18] (jA 17 k128_0 k128_4)
def k128_6:=jA 13 (.region [zV 15 1,zF 16 3 8,zS 1 16 15]) k128_5
def k128_7:AD:= .block 0 (jz [zQ 14 11 1,zV 13 14] k128_6)
def k128_8:=jz [zk 30,zS 13 6 30,zm 7] jB
def k128_9:=jz [zL 31 13 8,zS 13 6 31,yr 7] jB
def k128_10:=jD (jz [zL 27 13 8,zj 28 143 27,zN 29 28] (jA 29 k128_8 jC)) k128_9
def k128_11:=jz [zV 9 0,zv 10 9,zb 8,zS 13 8 10] (jD (jz [zV 11 0] k128_7) k128_10)
def c128:=jz [zb 6,zm 7] k128_11
theorem ok128:Ao Tryz.prog 128 c128 32 [.c 6 (some 13),.t 7]=true:=by kernel_rfl
def w128:=aW k128_0.eq_1 (aW k128_1.eq_1 (aW k128_2.eq_1 (aW k128_3.eq_1 (aW k128_4.eq_1 (aW k128_5.eq_1 (aW k128_6.eq_1 (aW k128_7.eq_1 (aW k128_8.eq_1 (aW k128_9.eq_1 (aW k128_10.eq_1 (oW k128_11.eq_1)))))))))))
def k129_0:=jA 15 (jz [zK 4 0] jB) jC
def k129_1:=jz [zV 16 1,jm 17 8 16,zV 4 17] jB
def k129_2:=jD (jz [zL 5 3 2,zj 6 70 5,zN 7 6,zV 8 7,z8 9 1 8,zH 10 8 0 2,zP 11 8 10,yZ 12 8 11,yY 13 8 140 9 12,z7 14 8 13,zO 15 8 14] k129_0) k129_1
def c129:=jz [zi 2 0,zK 4 0] k129_2
theorem ok129:Ao Tryz.prog 129 c129 18 [.t 4]=true:=by kernel_rfl
def w129:=aW k129_0.eq_1 (aW k129_1.eq_1 (oW k129_2.eq_1))
def k134_0:=jA 29 (jz [zK 6 0,zK 7 1] jB) jC
def k134_1:AD:= .region [zL 47 5 3,zV 48 10,ze 49 202 47 48,zV 46 49,zE 50 46 0,zE 51 46 1,zS 13 8 50,zV 9 51]
def k134_2:=jA 59 (jz [zK 6 0,zK 7 3] jB) jC
def k134_3:AD:= .region [zL 60 13 8,zV 61 12,ze 62 203 60 61,zV 10 62]
def k134_4:=jD (jz [zV 52 9,zN 53 52,zV 54 53,ym 55 54 13 8,z8 56 12 54,W2 57 54 false (.call 203 [(.t 55),(.t 56)]),yu 58 54 57 0,zO 59 54 58] k134_2) k134_3
def k134_5:=jD (jz [zV 44 11,yf 45 44 0] (jA 45 k134_1 jC)) k134_4
def k134_6:=jD (.block 1 (jz [zV 41 39,zX 42 1 37 39,zM 43 42,zV 11 41,zV 12 43] k134_5)) (.region [zc 63 39,zV 39 63])
def b134_7:=jz [zh 40 39 38] (jD (jA 40 jC (.exit 0)) k134_6)
def k134_8:=jz [zV 64 10,zV 6 64,zK 7 0] jB
def k134_9:=jD (jz [zF 36 0 5,zM 37 36,zg 38 37,zK 39 0] (.block 0 (.loop b134_7))) k134_8
def k134_10:=jz [zF 30 4 3,zM 31 30,zV 32 1,jb 33 32,zX 34 13 31 33,zL 35 13 34,zb 8,zS 13 8 35,yr 9] (jz [zK 10 0] k134_9)
def k134_11:=jD (jz [zL 13 5 3,zj 14 15 13,zN 15 14,zV 16 15,z8 17 1 16,zH 18 16 0 3,zH 19 16 0 18,zP 20 16 19,yZ 21 16 20,yY 22 16 135 17 21,z7 23 16 22,zO 24 16 23,
 zV 25 24,ym 26 25 1 5,yk 27 25 116 26,z7 28 25 27,zO 29 25 28] k134_0) k134_10
def c134:=jz [zi 3 0,zi 5 2,zK 6 0,zK 7 0] k134_11
theorem ok134:Ao Tryz.prog 134 c134 65 [.t 6,.t 7]=true:=by kernel_rfl
def w134:=aW k134_0.eq_1 (aW k134_1.eq_1 (aW k134_2.eq_1 (aW k134_3.eq_1 (aW k134_4.eq_1 (aW k134_5.eq_1 (aW k134_6.eq_1 (aW k134_8.eq_1 (aW k134_9.eq_1 (aW k134_10.eq_1 (oW k134_11.eq_1))))))))))
def k135_0:=jz [zV 7 0,zV 8 1,yt 9 7 8,zV 10 9,zu 11 0 10,zu 12 2 10,yK 13 10 11 12,zA 14 10 13,zV 6 14] jB
def c135:=jz [zm 6] k135_0
theorem ok135:Ao Tryz.prog 135 c135 15 [.t 6]=true:=by kernel_rfl
def k140_0:=jz [zV 7 0,zV 8 1,yt 9 7 8,zV 10 9,zu 11 0 10,zu 12 2 10,yK 13 10 11 12,zA 14 10 13,zV 6 14] jB
def c140:=jz [zm 6] k140_0
theorem ok140:Ao Tryz.prog 140 c140 15 [.t 6]=true:=by kernel_rfl
def k141_0:=jA 4 (jz [yr 2] jB) jC
def k141_1:=jz [zF 5 0 1,zM 6 5,yb 7 207 6 1 5,zV 8 7,zr 9 8 1 1,zq 10 8 9,yc 11 8 207 10 0 47,zA 12 8 11,zV 13 12,zr 14 13 2 1,zq 15 13 14,ya 16 13 195 15,
 zA 17 13 16,zV 18 17,zr 19 18 3 1,zq 20 18 19,ya 21 18 208 20,zA 22 18 21,zV 23 22,zr 24 23 3 1,zq 25 23 24,z5 26 23 25 0,zu 27 26 23,zH 28 27 0 1,
 zP 29 27 28,yk 30 27 209 29,zy 31 23 27 30,zA 32 23 31,zV 2 32] jB
def k141_2:=jD (jz [zL 3 4 1,zj 4 59 3] k141_0) k141_1
def c141:=jz [zi 1 0,zm 2] k141_2
theorem ok141:Ao Tryz.prog 141 c141 33 [.t 2]=true:=by kernel_rfl
def w141:=aW k141_0.eq_1 (aW k141_1.eq_1 (oW k141_2.eq_1))
def k142_0:=jz [zV 5 1,zJ 6 5 0,zV 7 6,zu 8 1 7,zr 9 7 4 2,zq 10 7 9,yp 11 7 10,yd 12 7 8 11,zA 13 7 12,zV 14 13,zr 15 14 4 2,zq 16 14 15,zu 17 1 14,
 z3 18 14 13 16 17,zr 19 14 0 18,zq 20 14 19,ye 21 14 20 0,zA 22 14 21,zV 4 22] jB
def c142:=jz [zi 2 0,zm 4] k142_0
theorem ok142:Ao Tryz.prog 142 c142 23 [.t 4]=true:=by kernel_rfl
def k143_0:=jA 6 (jz [zm 2] jB) jC
def k143_1:=jz [zF 11 3 1,zM 12 11,yb 13 211 12 1 4096,zV 14 13,zr 15 14 4 1,zq 16 14 15,zr 17 14 3 1,zq 18 14 17,W2 19 14 true (.call 211 [(.t 16),(zI 0),(.t 18)]),zA 20 14 19,zV 2 20] jB
def k143_2:=jD (.drawn [(0,zF 23 1 1),(1,zM 24 23),(2,yb 25 211 24 1 4),(3,zV 26 25),(4,zr 27 26 2 1),(5,zq 28 26 27),(6,zr 29 26 1 1),(7,zq 30 26 29),(8,W2 31 26 true (.bin .shl (zI 1) (.t 30))),(9,W2 32 26 true (.bin .sub (zI 96) (.t 31))),
 (10,W2 33 26 true (.call 211 [(.t 28),(zI 0),(.t 32)])),(11,zA 34 26 33),(12,zV 2 34)] [[],[0],[1],[2,2],[3],[4,3],[3],[6,3],[7,3],[8,3],[5,9,3,3],[3,10],[11,10,0,1,2,3,4,5,6,7,8,9,10,11]] 0) jB
def k143_3:=jz [zF 37 6 1,zM 38 37,yb 39 211 38 0 65535,zV 40 39,zr 41 40 5 1,zq 42 40 41,yc 43 40 211 42 0 96,zA 44 40 43,zV 2 44] jB
def k143_4:=jz [zQ 36 8 3,zV 35 36] (jA 35 k143_3 jC)
def k143_5:=jz [zQ 22 8 2,zV 21 22] (jA 21 k143_2 k143_4)
def k143_6:AD:= .block 0 (jz [zQ 10 8 1,zV 9 10] (jA 9 k143_1 k143_5))
def k143_7:=jD (jz [zF 7 0 1,zM 8 7] k143_6) (jz [yr 2] jB)
def k143_8:=jD (jD (.drawn [(0,zL 3 13 1),(2,zL 5 13 1),(1,zj 4 210 3),(3,yG 6 4 5)] [[],[0],[],[1,2]] 0) k143_0) k143_7
def c143:=jz [zi 1 0,zm 2] k143_8
theorem ok143:Ao Tryz.prog 143 c143 45 [.t 2]=true:=by kernel_rfl
def w143:=aW k143_0.eq_1 (aW k143_1.eq_1 (aW k143_2.eq_1 (aW k143_3.eq_1 (aW k143_4.eq_1 (aW k143_5.eq_1 (aW k143_6.eq_1 (aW k143_7.eq_1 (oW k143_8.eq_1))))))))
def k144_0:AD:= .region [zV 27 5,zV 28 6,yq 29 28,yC 30 1 8 27 29,zV 5 30]
def k144_1:=jz [zF 16 0 7,zL 17 4 16,zj 18 59 17,zN 19 18,zV 20 19,zr 21 20 0 7,zr 22 20 1 21,zq 23 20 22,zu 24 1 20,yH 25 20 23 24,zA 26 20 25] (jA 26 k144_0 jC)
def k144_2:=jD (.block 1 (jz [zV 13 11,zX 14 5 9 11,zL 15 5 14,zT 7,zV 6 13,zS 5 7 15] k144_1)) (.region [zc 31 11,zV 11 31])
def b144_3:=jz [zh 12 11 10] (jD (jA 12 jC (.exit 0)) k144_2)
def k144_4:=jD (jz [zF 8 3 2,zM 9 8,zg 10 9,zK 11 0] (.block 0 (.loop b144_3))) (jz [zV 32 5,zV 4 32] jB)
def c144:=jz [zi 2 0,zz 4] (jz [zz 5] k144_4)
theorem ok144:Ao Tryz.prog 144 c144 33 [.t 4]=true:=by kernel_rfl
def w144:=aW k144_0.eq_1 (aW k144_1.eq_1 (aW k144_2.eq_1 (oW k144_4.eq_1)))
def k145_0:=jA 20 (jz [zm 6] jB) jC
def k145_1:=jz [zV 26 7,zL 27 5 3,zV 28 2,ze 29 213 27 28,W1 30 (.Wb (.bool false) (.t 26) (.t 29)),zV 6 30] jB
def k145_2:=jz [zL 22 5 3,zV 23 1,zV 24 7,zo 25 212 22 23 24] k145_1
def k145_3:=jD (jz [zL 8 5 3,zV 9 1,ze 10 142 8 9,zN 11 10,zV 12 11,zH 13 12 4 3,zP 14 12 13,z8 15 1 12,z6 16 12 13 14 15,zH 17 12 0 16,zP 18 12 17,jf 19 12 18 2,zO 20 12 19]
 k145_0) (jz [W1 21 (.Pa),zV 7 21] k145_2)
def c145:=jz [zi 3 0,zm 6] k145_3
theorem ok145:Ao Tryz.prog 145 c145 31 [.t 6]=true:=by kernel_rfl
def w145:=aW k145_0.eq_1 (aW k145_1.eq_1 (aW k145_2.eq_1 (oW k145_3.eq_1)))
def k146_0:=jz [zV 5 1,zJ 6 5 0,zV 7 6,zu 8 1 7,zr 9 7 0 2,zq 10 7 9,yp 11 7 10,yd 12 7 8 11,zA 13 7 12,zV 14 13,zr 15 14 0 2,zq 16 14 15,zu 17 1 14,
 z3 18 14 1 16 17,zq 19 14 18,ye 20 14 19 (-2),zA 21 14 20,zV 4 21] jB
def c146:=jz [zi 2 0,zm 4] k146_0
theorem ok146:Ao Tryz.prog 146 c146 22 [.t 4]=true:=by kernel_rfl
def k147_0:=jz [zV 5 0,zj 6 214 5,zV 7 1,zj 8 214 7,W1 9 (.bin .andNot (.t 6) (.t 8)),zV 4 9] jB
def c147:=jz [zK 4 0] k147_0
theorem ok147:Ao Tryz.prog 147 c147 10 [.t 4]=true:=by kernel_rfl
def k148_0:=jz [zV 20 9,zK 6 0,zV 7 20] jB
def k148_1:=jA 21 (jz [zK 6 0,zK 7 5] jB) jC
def k148_2:=jz [zF 22 3 3,zM 23 22,zV 24 8,zX 25 5 23 24,zF 26 0 25,zL 27 4 26,zj 28 59 27,zN 29 28,zV 21 29] k148_1
def k148_3:=jz [zV 30 8,zV 6 30,zK 7 0] jB
def k148_4:=jD (.block 0 (jz [zV 18 9,zl 19 18 0,zV 17 19] (jA 17 k148_0 k148_2))) k148_3
def k148_5:=jz [zL 11 5 3,zV 12 1,zL 13 1 5,zo 14 134 11 12 13,zV 10 14,zE 15 10 0,zE 16 10 1,zV 8 15,zV 9 16] k148_4
def c148:=jz [zi 3 0,zi 5 2,zK 6 0,zK 7 0] k148_5
theorem ok148:Ao Tryz.prog 148 c148 31 [.t 6,.t 7]=true:=by kernel_rfl
def w148:=aW k148_0.eq_1 (aW k148_1.eq_1 (aW k148_2.eq_1 (aW k148_3.eq_1 (aW k148_4.eq_1 (oW k148_5.eq_1)))))
def k191_0:=jz [zV 3 0,yg 4 3 0,zV 5 4,z8 6 0 5,yn 7 5 6 15,zO 8 5 7,zV 2 8] jB
def c191:=jz [zm 2] k191_0
theorem ok191:Ao Tryz.prog 191 c191 9 [.t 2]=true:=by kernel_rfl
def k194_0:=jz [zV 7 0,zV 8 1,yt 9 7 8,zV 10 9,zu 11 0 10,zu 12 2 10,yK 13 10 11 12,zA 14 10 13,zV 6 14] jB
def c194:=jz [zm 6] k194_0
theorem ok194:Ao Tryz.prog 194 c194 15 [.t 6]=true:=by kernel_rfl
def k195_0:=jz [zV 3 0,zJ 4 3 0,zV 5 4,zu 6 0 5,yw 7 5 6 7,zA 8 5 7,zV 2 8] jB
def c195:=jz [zm 2] k195_0
theorem ok195:Ao Tryz.prog 195 c195 9 [.t 2]=true:=by kernel_rfl
def k202_0:=jz [zk 22,zS 13 4 22,zm 5] jB
def k202_1:=jz [zF 23 4 2,zM 24 23,zF 25 1 6,zM 26 25,zX 27 13 24 26,zL 28 13 27,zS 13 4 28,yr 5] jB
def k202_2:=jD (jz [zF 13 0 6,zM 14 13,zl 15 14 2,zV 16 15,zH 17 16 2 6,zP 18 16 17,W2 19 16 false (.call 80 [(zI 1),(.t 18)]),z7 20 16 19,zO 21 16 20] (jA 21 k202_0 jC)) k202_1
def k202_3:=jz [zF 7 3 2,zM 8 7,zV 9 1,zX 10 5 8 9,zF 11 0 10,zL 12 4 11,zd 6,zS 4 6 12] k202_2
def c202:=jz [zi 2 0,zb 4,zm 5] k202_3
theorem ok202:Ao Tryz.prog 202 c202 29 [.c 4 (some 13),.t 5]=true:=by kernel_rfl
def w202:=aW k202_0.eq_1 (aW k202_1.eq_1 (aW k202_2.eq_1 (oW k202_3.eq_1)))
def k203_0:=jA 9 (jz [zK 4 (-1)] jB) jC
def k203_1:=jz [zF 10 2 2,zM 11 10,zV 12 1,z4 13 11 12,zV 4 13] jB
def k203_2:=jD (jz [zV 5 1,zF 6 1 2,zM 7 6,W1 8 (.bin .shl (zI 1) (.t 7)),yt 9 5 8] k203_0) k203_1
def c203:=jz [zi 2 0,zK 4 0] k203_2
theorem ok203:Ao Tryz.prog 203 c203 14 [.t 4]=true:=by kernel_rfl
def w203:=aW k203_0.eq_1 (aW k203_1.eq_1 (oW k203_2.eq_1))
def k207_0:=jz [zV 7 0,zV 8 1,yt 9 7 8,zV 10 9,zu 11 0 10,zu 12 2 10,yK 13 10 11 12,zA 14 10 13,zV 6 14] jB
def c207:=jz [zm 6] k207_0
theorem ok207:Ao Tryz.prog 207 c207 15 [.t 6]=true:=by kernel_rfl
def k208_0:=jz [zV 3 0,zJ 4 3 0,zV 5 4,zu 6 0 5,yw 7 5 6 65535,zA 8 5 7,zV 2 8] jB
def c208:=jz [zm 2] k208_0
theorem ok208:Ao Tryz.prog 208 c208 9 [.t 2]=true:=by kernel_rfl
def k209_0:=jz [zV 3 0,zQ 4 3 3,zV 5 4,z8 6 0 5,yi 7 5 6 4,zO 8 5 7,zV 2 8] jB
def c209:=jz [zm 2] k209_0
theorem ok209:Ao Tryz.prog 209 c209 9 [.t 2]=true:=by kernel_rfl
def k210_0:=jz [zF 7 0 1,zM 8 7,zF 9 3 1,zM 10 9,zF 11 4 1,zM 12 11,yz 13 8 3 10 4 12,zS 13 2 13] jB
def k210_1:=jz [zF 16 0 1,zM 17 16,zF 18 1 1,zM 19 18,zF 20 2 1,zM 21 20,yz 22 17 1 19 2 21,zS 13 2 22] jB
def k210_2:=jz [zF 28 0 1,zM 29 28,zv 30 29,zS 13 2 30] jB
def k210_3:=jz [zF 31 0 1,zM 32 31,zF 33 8 1,zM 34 33,zF 35 6 1,zM 36 35,zF 37 5 1,zM 38 37,W1 39 (.build [.int .i64 0,.int .i64 0,.int .i64 0,.int .i64 0,.int .i64 0,.int .i64 0,.int .i64 0,.bool false,.int .u64 0,.int .u64 0,.int .u64 0,.int .u64 0,.int .u64 0] [(0,1,(.t 32)),(7,1,(.c (.bool true))),(8,1,(.t 34)),(6,1,(.t 36)),(5,1,(.t 38))]),zS 13 2 39] jB
def k210_4:=jD (jz [zF 25 7 1,zM 26 25,zN 27 26] (jA 27 k210_2 jC)) k210_3
def k210_5:=jz [zF 42 0 1,zM 43 42,zF 44 8 1,zM 45 44,yD 46 43 8 1 45,zS 13 2 46] jB
def k210_6:=jz [zF 49 0 1,zM 50 49,zF 51 9 1,zL 52 4 51,yD 53 50 9 4 52,zS 13 2 53] jB
def k210_7:=jz [zQ 48 4 5,zV 47 48] (jA 47 k210_6 jC)
def k210_8:=jz [zQ 41 4 4,zV 40 41] (jA 40 k210_5 k210_7)
def k210_9:=jz [zQ 24 4 3,zV 23 24] (jA 23 k210_4 k210_8)
def k210_10:=jz [zQ 15 4 2,zV 14 15] (jA 14 k210_1 k210_9)
def k210_11:AD:= .block 0 (jz [zQ 6 4 1,zV 5 6] (jA 5 k210_0 k210_10))
def k210_12:=jD (jz [zF 3 0 1,zM 4 3] k210_11) (jz [zk 54,zS 13 2 54] jB)
def c210:=jz [zi 1 0,zb 2] k210_12
theorem ok210:Ao Tryz.prog 210 c210 55 [.c 2 (some 13)]=true:=by kernel_rfl
def w210:=aW k210_0.eq_1 (aW k210_1.eq_1 (aW k210_2.eq_1 (aW k210_3.eq_1 (aW k210_4.eq_1 (aW k210_5.eq_1 (aW k210_6.eq_1 (aW k210_7.eq_1 (aW k210_8.eq_1 (aW k210_9.eq_1 (aW k210_10.eq_1 (aW k210_11.eq_1 (oW k210_12.eq_1))))))))))))
def k211_0:=jz [zV 7 0,zV 8 1,yt 9 7 8,zV 10 9,zu 11 0 10,zu 12 2 10,yK 13 10 11 12,zA 14 10 13,zV 6 14] jB
def c211:=jz [zm 6] k211_0
theorem ok211:Ao Tryz.prog 211 c211 15 [.t 6]=true:=by kernel_rfl
def k212_0:AD:= .region [zL 41 5 3,zF 42 0 7,zF 43 1 42,zM 44 43,zV 45 2,zo 46 212 41 44 45]
def k212_1:=jz [zF 21 0 7,zF 22 0 21,zM 23 22,zQ 24 23 2,zV 25 24,zr 26 25 4 3,zq 27 25 26,zu 28 1 25,z3 29 25 13 27 28,zp 30 25 13 29,zu 31 6 25,zC 32 25 251 30 31,zA 33 25 32,
 zV 34 33,zp 35 34 5 3,zr 36 34 0 7,zr 37 34 1 36,zq 38 34 37,zC 39 34 142 35 38,zA 40 34 39] (jA 40 k212_0 jC)
def k212_2:=jD (.block 1 (jz [zV 18 16,zX 19 5 14 16,zL 20 5 19,zT 7,zV 6 18,zS 5 7 20] k212_1)) (.region [zc 47 16,zV 16 47])
def b212_3:=jz [zh 17 16 15] (jD (jA 17 jC (.exit 0)) k212_2)
def k212_4:=jz [zF 13 3 3,zM 14 13,zg 15 14,zK 16 0] (.block 0 (.loop b212_3))
def k212_5:=jz [zV 11 2,zV 12 1,⟨none,.ZR (.t 11) (.t 12) (.c (.bool true)),none⟩] k212_4
def k212_6:=jD (jz [zV 8 2,zV 9 1,W1 10 (.Wb (.bool false) (.t 8) (.t 9))] (jA 10 jB jC)) k212_5
def c212:=jz [zi 3 0] k212_6
theorem ok212:Ao Tryz.prog 212 c212 48 []=true:=by kernel_rfl
def w212:=aW k212_0.eq_1 (aW k212_1.eq_1 (aW k212_2.eq_1 (aW k212_4.eq_1 (aW k212_5.eq_1 (oW k212_6.eq_1)))))
def k213_0:=jz [zF 5 4 2,zM 6 5,W1 7 (.YY 252 [(.t 3)]),ze 8 222 6 7,zV 4 8] jB
def c213:=jz [zi 2 0,zi 3 1,zK 4 0] k213_0
theorem ok213:Ao Tryz.prog 213 c213 9 [.t 4]=true:=by kernel_rfl
def k214_0:=jA 5 (jz [zK 2 0] jB) jC
def k214_1:=jD (jz [zV 3 0,zj 4 195 3,zN 5 4] k214_0) (jz [zV 6 0,zV 2 6] jB)
def c214:=jz [zK 2 0] k214_1
theorem ok214:Ao Tryz.prog 214 c214 7 [.t 2]=true:=by kernel_rfl
def w214:=aW k214_0.eq_1 (oW k214_1.eq_1)
def k215_0:=jA 18 (jz [zK 4 (-1)] jB) jC
def k215_1:=jz [zL 19 5 2,zV 20 1,ze 21 213 19 20,zV 4 21] jB
def k215_2:=jD (jz [zL 5 5 2,zj 6 15 5,zN 7 6,zV 8 7,z8 9 1 8,yu 10 8 9 0,zO 11 8 10,zV 12 11,z8 13 1 12,zH 14 12 3 2,zP 15 12 14,zZ 16 12 15,yE 17 12 13 16,
 zO 18 12 17] k215_0) k215_1
def c215:=jz [zi 2 0,zK 4 0] k215_2
theorem ok215:Ao Tryz.prog 215 c215 22 [.t 4]=true:=by kernel_rfl
def w215:=aW k215_0.eq_1 (aW k215_1.eq_1 (oW k215_2.eq_1))
def k225_0:=jz [zL 7 5 3,zj 8 15 7,zV 9 8,zu 10 2 9,yL 11 9 10,zA 12 9 11,zV 13 12,zu 14 2 13,zr 15 13 3 3,zq 16 13 15,yp 17 13 16,yd 18 13 14 17,zA 19 13 18,
 zV 20 19,zp 21 20 5 3,zu 22 1 20,zu 23 2 20,yT 24 20 145 21 22 23,zA 25 20 24,zV 6 25] jB
def c225:=jz [zi 3 0,zm 6] k225_0
theorem ok225:Ao Tryz.prog 225 c225 26 [.t 6]=true:=by kernel_rfl
def k251_0:=jD (.drawn [(0,zF 5 0 2),(1,zM 6 5),(2,zQ 7 6 2),(3,zV 8 7),(5,zr 10 8 2 2),(6,zq 11 8 10),(4,zu 9 1 8),(7,ji 12 8 9 11),(8,zA 13 8 12),(9,zV 14 13),(11,zr 16 14 2 2),(12,zq 17 14 16),
 (13,zr 18 14 1 2),(14,zq 19 14 18),(10,zu 15 1 14),(15,W2 20 14 true (.bin .shl (zI 1) (.t 19))),(16,yN 21 14 17 20),(17,yd 22 14 15 21),(18,zA 23 14 22),(19,zV 4 23)]
 [[],[0],[1],[2],[3],[3],[5,3],[4,6,3],[3,7],[8,3],[9],[9],[11,9],[9],[13,9],[14,9],[12,15,9],[10,16,9],[9,17],[18,9,0,1,2,3,4,5,6,7,8,9,10,11,12,13,14,15,16,17,18]] 0) jB
def c251:=jz [zi 2 0,zm 4] k251_0
theorem ok251:Ao Tryz.prog 251 c251 24 [.t 4]=true:=by kernel_rfl
def k252_0:=jz [zL 4 13 2,zM 5 1,ze 6 251 4 5,zV 3 6] jB
def c252:=jz [zi 2 0,zm 3] k252_0
theorem ok252:Ao Tryz.prog 252 c252 7 [.t 3]=true:=by kernel_rfl
end Go.Proofs.YtlaipllgmddkiaaGreat.Ax
