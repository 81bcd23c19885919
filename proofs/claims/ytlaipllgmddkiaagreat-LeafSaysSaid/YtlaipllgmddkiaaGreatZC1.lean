/- Texts put behind one another: AxCBase. Conditions: none. -/
import Derived.Test.YtlaipllgmddkiaaGreatAxEnterZ
import Derived.Test.YtlaipllgmddkiaaGreatProg
import Derived.KernelRfl
set_option linter.all false
namespace Go.Proofs.YtlaipllgmddkiaaGreat.Ax
open Go Go.Ax
abbrev za(a:Nat):A6:=W1 a (.new [.int .i64 0,.int .i64 0,.int .i64 0,.lit (.slice none 0 0),.lit (.slice none 0 0)])
abbrev zb(a:Nat):A6:=W1 a (.new [.int .i64 0,.int .i64 0,.int .i64 0,.int .i64 0,.int .i64 0,.int .i64 0,.int .i64 0,.bool false,.int .u64 0,.int .u64 0,.int .u64 0,.int .u64 0,.int .u64 0])
abbrev zc(a b:Nat):A6:=W1 a (.bin .add (.t b) (zI 1))
abbrev zd(a b c:Nat):A6:=W1 a (.call b [(.t c)])
abbrev ze(a b c d:Nat):A6:=W1 a (.call b [(.t c),(.t d)])
abbrev zg(a:Nat):A6:=W1 a (.new [.int .i64 0,.int .i64 0,.int .i64 0,.int .i64 0])
abbrev zh(a b:Nat):A6:=W1 a (.box (.t b))
abbrev zi(a b:Nat):A6:=W1 a (.len false (.t b))
abbrev zj(a b c:Nat):A6:=W1 a (.bin .lss (.t b) (.t c))
abbrev zk(a b:Nat)(c:Int):A6:=W1 a (.bin .neq (.t b) (zI c))
abbrev zl(a:Nat):A6:=W1 a (.build [.int .i64 0,.int .i64 0,.int .i64 0,.int .i64 0] [])
abbrev zm(a b c d e:Nat):A6:=W1 a (.call b [(.t c),(.t d),(.t e)])
abbrev zn(a:Nat):A6:=W1 a (.build [.int .i64 0,.int .i64 0,.int .i64 0,.int .i64 0,.int .i64 0,.int .i64 0,.int .i64 0,.bool false,.int .u64 0,.int .u64 0,.int .u64 0,.int .u64 0,.int .u64 0] [])
abbrev zo(a:Nat):A6:=zB a false
abbrev zp(a:Nat):A6:=W1 a (.mv (.c (.lit (.slice none 0 0))))
abbrev zq(a b c d:Nat):A6:=W2 a b true (.ld (some c) (.t d))
abbrev zr(a b c:Nat):A6:=zD a b true c
abbrev zu(a b c d:Nat):A6:=zG a b true c d
abbrev zv(a b c:Nat):A6:=W1 a (.build [.int .i64 0,.int .u64 0,.int .i64 0] [(b,1,(.t c))])
abbrev zw(a b c:Nat):A6:=zU a b c true
abbrev zx(a b:Nat):A6:=W1 a (.build [.int .i64 0,.int .i64 0,.int .i64 0,.int .i64 0,.int .i64 0,.int .i64 0,.int .i64 0,.bool false,.int .u64 0,.int .u64 0,.int .u64 0,.int .u64 0,.int .u64 0] [(0,1,(.t b))])
abbrev zy(a:Nat):A6:=W1 a (.new [.int .i64 0,.int .u64 0,.int .i64 0])
abbrev zz(a b c d:Nat):A6:=zG a b false c d
abbrev zC(a b c d:Nat):A6:=W2 a b true (.pick (.t c) (.c (.bool true)) (.t d))
abbrev zH(a b c:Nat):A6:=zD a b false c
abbrev zJ(a b c:Nat):A6:=W1 a (.build [.int .i64 0,.int .i64 0,.int .i64 0,.int .i64 0,.int .i64 0] [(0,4,(.t b)),(4,1,(.t c))])
abbrev zP(a b c d e:Nat):A6:=W2 a b true (.call c [(.t d),(.t e)])
abbrev zR(a b:Nat)(c:Int):A6:=W1 a (.bin .geq (.t b) (zI c))
abbrev zT(a b c:Nat):A6:=W2 a b false (.len false (.t c))
abbrev zW(a:Nat):A6:=W1 a (.new [.int .i64 0,.int .i64 0,.int .i64 0,.int .i64 0,.int .i64 0])
abbrev zY(a b c:Nat):A6:=zU a b c false
abbrev zZ(a b c:Nat)(d:Int):A6:=W1 a (.call b [(.t c),(zI d)])
abbrev z6(a b c:Nat):A6:=W1 a (.bin .add (.t b) (.t c))
abbrev z7(a b c d e:Nat):A6:=W2 a b true (.A9 c (.t d) (.t e))
abbrev z8(a b c:Nat)(d:Int):A6:=W2 a b true (.bin .eql (.t c) (zI d))
abbrev ya(a b c:Nat)(d:Int):A6:=W2 a b true (.bin .neq (.t c) (zI d))
abbrev yb(a b c:Nat)(d e:Int):A6:=W1 a (.call b [(.t c),(zI d),(zI e)])
abbrev yc(a b c:Nat)(d:Int):A6:=W2 a b false (.bin .lss (.t c) (zI d))
abbrev yd(a b c d e:Nat):A6:=W2 a b false (.A9 c (.t d) (.t e))
abbrev ye(a b c:Nat):A6:=W2 a b false (.un .not (.t c))
abbrev yf(a b c d:Nat):A6:=W2 a b false (.pick (.t c) (.t d) (.c (.bool false)))
abbrev yg(a:Nat):A6:=W1 a (.build [.int .i64 0,.int .u64 0,.int .i64 0] [])
abbrev yh(a:Nat)(b:Int)(c d:Nat)(e:Int):A6:=W1 a (.build [.int .i64 0,.lit (.slice none 0 0),.lit (.slice none 0 0),.int .i64 0,.int .i64 0,.int .u64 0] [(0,1,(zI b)),(1,1,(.t c)),(2,1,(.t d)),(3,1,(zI e))])
abbrev yi(a b:Nat):A6:=W1 a (.born b (.new [.int .i64 0,.int .i64 0,.int .i64 0,.lit (.slice none 0 0),.lit (.slice none 0 0)]))
abbrev yj(a b c d:Nat):A6:=W2 a b true (.call c [(.t d)])
abbrev yk(a b:Nat)(c:Int):A6:=W1 a (.bin .lss (.t b) (zI c))
abbrev yl(a b c d:Nat):A6:=W2 a b false (.ld (some c) (.t d))
abbrev ym(a:Nat)(b:Int):A6:=W1 a (.mv (.c (.int .u64 b)))
abbrev yn(a b c d:Nat)(e f:Int):A6:=W2 a b true (.call c [(.t d),(zI e),(zI f)])
abbrev yo(a b c d:Nat):A6:=W2 a b true (.bin .lss (.t c) (.t d))
abbrev yp(a b c d:Nat):A6:=W2 a b false (.call c [(.t d)])
abbrev yq(a b c d:Nat):A6:=W1 a (.build [.int .i64 0,.int .i64 0,.int .i64 0,.lit (.slice none 0 0),.lit (.slice none 0 0)] [(0,3,(.t b)),(3,1,(.t c)),(4,1,(.t d))])
abbrev yr(a b c:Nat)(d:Int):A6:=W2 a b false (.bin .gtr (.t c) (zI d))
abbrev yt(a b:Nat):A6:=W1 a (.EO 1 1 [.int .i64 0] [(0,(.t b))])
abbrev yu(a:Nat):A6:=zB a true
abbrev yw(a b c:Nat)(d:Int):A6:=W2 a b false (.bin .eql (.t c) (zI d))
abbrev yx(a b c d:Nat):A6:=W2 a b false (.bin .geq (.t c) (.t d))
abbrev yy(a b c:Nat):A6:=W1 a (.bin .eql (.t b) (.t c))
abbrev yz(a b:Nat)(c:Int):A6:=W1 a (.bin .gtr (.t b) (zI c))
abbrev yA(a:Nat):A6:=⟨none,.st 1 (.t a) (.c (.bool true)),none⟩
abbrev yB(a b c:Nat):A6:=W2 a b true (.len false (.t c))
abbrev yC(a b c d e:Nat):A6:=W1 a (.app b c (.t d) (.t e))
abbrev yD(a b c:Nat):A6:=W1 a (.bin .geq (.t b) (.t c))
abbrev yE(a b c d:Nat):A6:=W2 a b false (.bin .neq (.t c) (.t d))
abbrev yF(a b c:Nat)(d:Int):A6:=W2 a b true (.bin .leq (.t c) (zI d))
abbrev yG(a b c d e f:Nat):A6:=W1 a (.build [.int .i64 0,.int .i64 0,.int .i64 0,.int .i64 0,.int .i64 0,.int .i64 0,.int .i64 0,.bool false,.int .u64 0,.int .u64 0,.int .u64 0,.int .u64 0,.int .u64 0] [(0,1,(.t b)),(c,1,(.t d)),(e,1,(.t f))])
abbrev yH(a b:Nat)(c:Int):A6:=W1 a (.bin .rem (.t b) (zI c))
abbrev yI(a:Nat)(b:Int):A6:=W1 a (.build [.int .i64 0,.int .u64 0,.int .i64 0] [(0,1,(zI b))])
abbrev yJ(a:Nat)(b c:Int):A6:=W1 a (.build [.int .i64 0,.int .i64 0] [(0,1,(zI b)),(1,1,(zI c))])
abbrev yK(a b:Nat):A6:=W1 a (.len true (.t b))
abbrev yL(a b c d e:Nat):A6:=W1 a (.build [.int .i64 0,.int .i64 0,.int .i64 0,.int .i64 0,.int .i64 0,.int .i64 0,.int .i64 0,.bool false,.int .u64 0,.int .u64 0,.int .u64 0,.int .u64 0,.int .u64 0] [(0,1,(.t b)),(c,d,(.t e))])
abbrev yM(a b c:Nat):A6:=W1 a (.eqs true [0,0,0,0,0,0,0,1,0,0,0,0,0] (.t b) (.t c))
abbrev yN(a b c d:Nat):A6:=W2 a b true (.bin .eql (.t c) (.t d))
abbrev yO(a b:Nat)(c:Int):A6:=W1 a (.born b (.EO 1 1 [.int .i64 0] [(0,(zI c))]))
abbrev yP(a:Nat):A6:=W1 a (.new [.lit (.slice none 0 0)])
abbrev yQ(a b c:Nat)(d:Int):A6:=W2 a b false (.bin .neq (.t c) (zI d))
abbrev yR(a b c:Nat):A6:=W1 a (.build [.int .i64 0,.int .u64 0,.int .i64 0] [(1,1,(.t b)),(2,1,(.t c))])
abbrev yS(a b c d:Nat):A6:=W2 a b true (.bin .leq (.t c) (.t d))
abbrev yT(a b c:Nat):A6:=W2 a b true (.bin .geq (.t c) (zI 0))
abbrev yU(a b:Nat):A6:=W1 a (.Hp .u64 (.t b))
abbrev yV(a b c:Nat):A6:=W1 a (.FA (.t b) (.t c))
abbrev yW(a:Nat)(b:Int):A6:=⟨none,.st 1 (.t a) (zI b),none⟩
abbrev yX(a b c d:Nat):A6:=W2 a b true (.bin .add (.t c) (.t d))
abbrev yY(a b c:Nat):A6:=W2 a b true (.un .not (.t c))
abbrev yZ(a b:Nat):A6:=W1 a (.MM 1 1 [.bool false] (.t b) (.t b))
abbrev ja(a:Nat)(b:Int):A6:=W1 a (.mv (.c (.int .u32 b)))
abbrev jb(a:Nat)(b:Int):A6:=W1 a (.EO 1 1 [.int .i64 0] [(0,(zI b))])
abbrev jc(a b c:Nat):A6:=W1 a (.bin .sub (.t b) (.t c))
abbrev jd(a:Nat):A6:=W1 a (.build [.int .i64 0,.int .i64 0,.int .i64 0,.int .i64 0,.int .i64 0] [(4,1,(zI (-1)))])
abbrev je(a b c d:Nat):A6:=W1 a (.call b [(.t c),(zI 0),(.t d)])
abbrev jf(a b c d e f:Nat):A6:=W2 a b true (.call c [(.t d),(.t e),(.t f)])
abbrev jg(a b c:Nat):A6:=W1 a (.eqs false [0,0,0,0] (.t b) (.t c))
abbrev jh(a b c:Nat):A6:=W1 a (.build [.int .i64 0,.int .i64 0,.int .i64 0,.int .i64 0] [(0,1,(.t b)),(1,1,(.t c)),(2,1,(zI 7))])
abbrev ji(a:Nat)(b c:Int):A6:=W1 a (.build [.int .i64 0,.int .i64 0,.int .i64 0,.int .i64 0] [(0,1,(zI b)),(1,1,(zI c)),(2,1,(zI 7))])
abbrev jj(a b:Nat):A6:=W1 a (.bin .mul (.t b) (.c (.int .u32 16777619)))
abbrev jk(a b c d e:Nat):A6:=W2 a b false (.call c [(.t d),(zI 0),(.t e)])
abbrev jl(a b c:Nat):A6:=W2 a b false (.bin .sub (.t c) (zI 1))
abbrev jm(a b c d:Nat):A6:=W1 a (.U7 b 1 (.t c) (.t d))
abbrev jn(a b c:Nat):A6:=W1 a (.bin .gtr (.t b) (.t c))
abbrev jo(a b:Nat):A6:=W1 a (.bin .add (zI 2) (.t b))
abbrev jp(a b:Nat):A6:=W1 a (.bin .quo (.t b) (zI 2))
abbrev jq(a b:Nat):A6:=W1 a (.bin .shl (zI 1) (.t b))
abbrev jr(a b c d:Nat):A6:=W2 a b false (.bin .eql (.t c) (.t d))
abbrev js(a b c d:Nat):A6:=W2 a b true (.bin .geq (.t c) (.t d))
abbrev jt(a b c:Nat)(d:Int):A6:=W2 a b true (.bin .lss (.t c) (zI d))
abbrev ju:A6:=W1 4 (.isNil false 1 (.t 3))
abbrev jv(a b c d e:Nat):A6:=W2 a b false (.call c [(.t d),(.t e)])
abbrev jw(a b:Nat)(c:Int):A6:=W1 a (.bin .mul (.t b) (.c (.int .u64 c)))
abbrev jx(a:Nat)(b:Int)(c:Nat):A6:=W1 a (.bin .mul (zI b) (.t c))
abbrev jy(a b:Nat):A6:=W1 a (.born b (.new [.int .i64 0,.int .u64 0,.int .i64 0]))
abbrev jz(a:Nat):A6:=W1 a (.new [.int .i64 0,.int .i64 0,.int .i64 0])
abbrev jA(a b c:Nat):A6:=W2 a b true (.bin .add (zI 2) (.t c))
abbrev jB(a b:Nat):A6:=W1 a (.Hp .u32 (.t b))
abbrev jC(a b:Nat)(c:Int):A6:=W1 a (.FA (.t b) (zI c))
abbrev jD(a b:Nat):A6:=W1 a (.build [.lit (.slice none 0 0)] [(0,1,(.t b))])
abbrev jE(a:Nat):A6:=W1 a (.new (.replicate 256 (.bool false)))
abbrev jF:A6:=W1 16 (.Ha (.t 11) [(.t 15)])
abbrev jG(a b:Nat):A6:=W1 a (.bin .eql (.t b) (.c (.int .i32 65533)))
abbrev jH(a b:Nat):A6:=W1 a (.call b [])
abbrev jI(a b c d:Nat):A6:=W2 a b true (.MG .eql (.t c) (.t d))
abbrev jJ(a b c d e f:Nat):A6:=W1 a (.call b [(.t c),(.t d),(.t e),(.t f)])
abbrev jK(a b c d:Nat):A6:=W2 a b true (.bin .gtr (.t c) (.t d))
abbrev jL(a b c:Nat)(d:Int):A6:=W2 a b true (.bin .rem (.t c) (zI d))
abbrev jM(a:Nat):A6:=W1 a (.new [.int .i64 0,.int .i64 0])
abbrev jN(l:List A6)(c:AD):AD:= .seq (.region l) c
abbrev jO(n:Nat)(a b:AD):AD:= .cond (.t n) a b
abbrev jP:AD:= .ret
abbrev jQ:AD:= .skip
abbrev jR(a b:AD):AD:= .seq a b
set_option maxRecDepth 100000
def k15_0:=jO 24 (jN [zo 2] jP) jQ
def k15_1:=jN [zL 25 5 1,zd 26 71 25,zV 27 26,zq 28 27 5 1,yj 29 27 72 28,zA 30 27 29,zV 31 30,zq 32 31 5 1,yj 33 31 73 32,zA 34 31 33,zV 35 34,zq 36 35 5 1,yj 37 35 74 36,
 yY 38 35 37,zA 39 35 38,zV 40 39,zq 41 40 5 1,yj 42 40 76 41,yj 43 40 75 42,zA 44 40 43,zV 45 44,zq 46 45 5 1,yj 47 45 77 46,zA 48 45 47,zV 2 48] jP
def k15_2:=jR (jN [zF 3 0 1,zL 4 3 3,zd 5 70 4,zN 6 5,zV 7 6,zz 8 7 3 1,zH 9 7 8,zT 10 7 9,zz 11 7 0 1,zz 12 7 1 11,zH 13 7 12,yE 14 7 10 13,zO 15 7 14,zV 16 15,
 zz 17 16 4 1,zH 18 16 17,zT 19 16 18,zz 20 16 0 1,zz 21 16 2 20,zH 22 16 21,yE 23 16 19 22,zO 24 16 23] k15_0) k15_1
def c15:=jN [zh 1 0,zo 2] k15_2
theorem ok15:Ao Tryz.prog 15 c15 49 [.t 2]=true:=by kernel_rfl
def w15:=aW k15_0.eq_1 (aW k15_1.eq_1 (oW k15_2.eq_1))
def k16_0:=jR (.drawn [(0,zF 3 0 1),(1,zL 4 3 3),(2,zF 5 3 1),(3,zM 6 5),(5,zF 8 4 1),(6,zM 9 8),(4,zd 7 78 6),(7,zd 10 79 9),(8,yq 11 4 7 10),(9,zS 5 2 11)] [[],[0],[],[2],[3],[],[5],[6,4],[1,4,7],[8,7,0,1,2,3,4,5,6,7,8]] 0) jP
def c16:=jN [zh 1 0,za 2] k16_0
theorem ok16:Ao Tryz.prog 16 c16 12 [.c 2 (some 5)]=true:=by kernel_rfl
def k23_0:=jN [zF 5 0 2,zL 6 3 5,zF 7 0 3,zL 8 3 7,W1 9 (.eqs false [0,0,0] (.t 6) (.t 8)),zV 10 9,zu 11 10 3 2,zr 12 10 11,zu 13 10 3 3,zr 14 10 13,zP 15 10 96 12 14,zA 16 10 15,zV 17 16,zu 18 17 4 2,
 zr 19 17 18,zu 20 17 4 3,zr 21 17 20,zP 22 17 97 19 21,zA 23 17 22,zV 4 23] jP
def c23:=jN [zh 2 0,zh 3 1,zo 4] k23_0
theorem ok23:Ao Tryz.prog 23 c23 24 [.t 4]=true:=by kernel_rfl
def k50_0:=jN [zV 31 4,W1 32 (.MG .neq (.t 31) (.c (.str []))),zV 33 32,zu 34 33 1 1,zq 35 33 1 34,yj 36 33 116 35,zA 37 33 36,zV 38 37,zw 39 5 38,zA 40 38 39,zV 41 40,zq 42 41 6 1,yj 43 41 118 42,
 zA 44 41 43,zV 45 44,zu 46 45 5 1,zr 47 45 46,W2 48 45 true (.bin .eql (.t 47) (.c (.int .u64 0))),zw 49 48 45,zY 50 4 49,W2 51 49 false (.call 115 [(.t 50),(.c (.str [87]))]),zC 52 45 49 51,zA 53 45 52,zV 2 53] jP
def k50_1:=jN [zF 12 2 1,zF 13 0 12,zM 14 13,zi 15 14,zQ 16 15 0,zV 17 16,zw 18 4 17,W2 19 17 true (.call 115 [(.t 18),(.c (.str [66]))]),yY 20 17 19,zA 21 17 20,zV 22 21,zz 23 22 2 1,yl 24 22 1 23,yp 25 22 116 24,
 zY 26 25 22,zw 27 4 26,W2 28 26 true (.call 117 [(.t 27),(.c (.str [66,98]))]),yf 29 22 26 28,zO 30 22 29,zV 5 30] k50_0
def k50_2:=jN [zF 7 0 1,zM 8 7,zd 9 114 8,zV 6 9,zE 10 6 0,zE 11 6 1,zV 3 10,zV 4 11] k50_1
def c50:=jN [zh 1 0,zo 2] k50_2
theorem ok50:Ao Tryz.prog 50 c50 54 [.t 2]=true:=by kernel_rfl
def w50:=aW k50_0.eq_1 (aW k50_1.eq_1 (oW k50_2.eq_1))
def k59_0:=jN [zL 3 4 1,zl 4,jg 5 3 4,zV 2 5] jP
def c59:=jN [zh 1 0,zo 2] k59_0
theorem ok59:Ao Tryz.prog 59 c59 6 [.t 2]=true:=by kernel_rfl
def k60_0:=jN [W1 25 (.build [.int .i64 0,.int .i64 0,.int .i64 0,.lit (.slice none 0 0),.lit (.slice none 0 0)] []),zS 5 4 25,zK 5 1] jP
def k60_1:AD:= .region [zF 40 3 8,zM 41 40,zV 42 9,zX 43 5 41 42,zF 44 4 43,yW 44 (-1)]
def k60_2:=jR (.block 1 (jN [zV 39 37,zV 9 39] k60_1)) (.region [zc 45 37,zV 37 45])
def b60_3:=jN [zj 38 37 36] (jR (jO 38 jQ (.exit 0)) k60_2)
def k60_4:AD:= .region [zF 83 3 8,zM 84 83,zV 85 12,zc 86 85,ji 87 3 1,zV 88 10,zc 89 88,zJ 90 87 89,zX 91 5 84 86,zS 5 91 90]
def k60_5:=jR (.drawn [(0,zF 74 4 8),(1,zM 75 74),(4,zV 78 12),(5,W1 79 (.call 128 [(zI 2),(zI 3),(.t 78)])),(2,zV 76 11),(3,jo 77 76),(6,zV 73 79),(7,zE 80 73 0),(9,zX 82 13 75 77),(10,zS 13 82 80),(8,zE 81 73 1)] [[],[0],[],[2],[],[4],[5],[6],[6],[1,3,0,1,2,3,4,5,6,7],[9,7,5,0,1,2,3,4,5,6,7]] 0) k60_4
def k60_6:=jN [zL 70 3 2,zV 71 11,ze 72 129 70 71,zV 12 72] k60_5
def k60_7:=jR (.block 3 (jN [zV 69 67,zV 11 69] k60_6)) (.region [zc 92 67,zV 67 92])
def b60_8:=jN [zj 68 67 66] (jR (jO 68 jQ (.exit 2)) k60_7)
def k60_9:=jN [zL 99 5 8,zS 5 4 99,zK 5 0] jP
def k60_10:=jN [zF 93 3 8,zM 94 93,zV 95 10,zc 96 95,zX 97 5 94 96,zF 98 4 97,yW 98 (-1)] k60_9
def k60_11:=jR (jN [zF 65 0 2,zM 66 65,zK 67 0] (.block 2 (.loop b60_8))) k60_10
def k60_12:=jN [zF 59 3 8,zM 60 59,zV 61 10,ji 62 1 0,zX 63 5 60 61,zF 64 0 63,zS 4 64 62] k60_11
def k60_13:=jN [zL 57 3 2,zZ 58 129 57 0,zV 10 58] k60_12
def k60_14:=jR (.drawn [(0,zF 51 4 8),(1,zM 52 51),(2,W1 53 (.call 128 [(zI 3),(zI 0),(zI 0)])),(3,zV 50 53),(4,zE 54 50 0),(6,W1 56 (.A9 13 (.t 52) (zI 1))),(7,zS 13 56 54),(5,zE 55 50 1)] [[],[0],[],[2],[3],[3],[1,0,1,2,3,4],[6,4,2,0,1,2,3,4]] 0) k60_13
def k60_15:=jN [zF 46 4 8,zM 47 46,zL 48 13 6,W1 49 (.A9 13 (.t 47) (zI 0)),zS 13 49 48] k60_14
def k60_16:=jR (jN [zF 34 3 8,zM 35 34,zi 36 35,zK 37 0] (.block 0 (.loop b60_3))) k60_15
def k60_17:=jR (.drawn [(0,zL 26 3 2),(1,zF 27 1 2),(2,zM 28 27),(4,zF 30 2 2),(5,zM 31 30),(3,W1 29 (.born 0 (.MM 5 40 [.int .i64 0,.int .i64 0,.int .i64 0,.int .i64 0,.int .i64 0] (.t 28) (.t 28)))),(6,W1 32 (.born 1 (.MM 13 104 [.int .i64 0,.int .i64 0,.int .i64 0,.int .i64 0,.int .i64 0,.int .i64 0,.int .i64 0,.bool false,.int .u64 0,.int .u64 0,.int .u64 0,.int .u64 0,.int .u64 0] (.t 31) (.t 31)))),
 (7,yq 33 26 29 32),(8,yi 8 2),(9,zS 5 8 33)] [[],[],[1],[2,2],[],[4],[5,5],[0,3,6],[],[8,7,0,1,2,3,4,5,6,7,8]] 3) k60_16
def k60_18:=jR (jN [zL 18 3 2,zd 19 70 18,zN 20 19,zV 21 20,zY 22 7 21,ye 23 21 22,zO 24 21 23] (jO 24 k60_0 jQ)) k60_17
def k60_19:=jN [zV 14 1,W1 15 (.call 128 [(zI 1),(.t 14),(zI 0)]),zV 13 15,zE 16 13 0,zE 17 13 1,zb 6,zS 13 6 16,zV 7 17] k60_18
def c60:=jN [zh 2 0,za 4,zK 5 0] k60_19
theorem ok60:Ao Tryz.prog 60 c60 100 [.c 4 (some 5),.t 5]=true:=by kernel_rfl
def w60:=aW k60_0.eq_1 (aW k60_1.eq_1 (aW k60_2.eq_1 (aW k60_4.eq_1 (aW k60_5.eq_1 (aW k60_6.eq_1 (aW k60_7.eq_1 (aW k60_9.eq_1 (aW k60_10.eq_1 (aW k60_11.eq_1 (aW k60_12.eq_1 (aW k60_13.eq_1 (aW k60_14.eq_1 (aW k60_15.eq_1 (aW k60_16.eq_1 (aW k60_17.eq_1 (aW k60_18.eq_1 (oW k60_19.eq_1)))))))))))))))))
def k65_0:=jN [zl 21,zV 22 10,zK 6 0,zS 4 7 21,zV 8 22] jP
def k65_1:=jN [zl 31,zK 6 0,zS 4 7 31,zK 8 4] jP
def k65_2:=jN [zF 24 3 3,zM 25 24,zV 26 9,zX 27 5 25 26,zF 28 0 27,zL 29 4 28,zd 30 59 29,zV 23 30] (jO 23 k65_1 jQ)
def k65_3:=jR (.drawn [(1,zF 33 3 3),(2,zM 34 33),(3,zV 35 9),(4,zX 36 5 34 35),(5,zF 37 0 36),(6,zL 38 4 37),(0,zV 32 9),(7,zV 6 32),(8,zS 4 7 38),(9,zK 8 0)] [[],[],[1],[],[2,3],[4],[5],[0,0],[6,7,0,1,2,3,4,5,6,7],[8,0,1,2,3,4,5,6,7,8]] 0) jP
def k65_4:=jR (.block 0 (jN [zV 19 10,zk 20 19 0,zV 18 20] (jO 18 k65_0 k65_2))) k65_3
def k65_5:=jN [zL 12 5 3,zV 13 1,zL 14 1 5,zm 15 134 12 13 14,zV 11 15,zE 16 11 0,zE 17 11 1,zV 9 16,zV 10 17] k65_4
def c65:=jN [zh 3 0,zh 5 2,zK 6 0,zg 7,zK 8 0] k65_5
theorem ok65:Ao Tryz.prog 65 c65 39 [.t 6,.c 7 (some 4),.t 8]=true:=by kernel_rfl
def w65:=aW k65_0.eq_1 (aW k65_1.eq_1 (aW k65_2.eq_1 (aW k65_3.eq_1 (aW k65_4.eq_1 (oW k65_5.eq_1)))))
def k67_0:=jO 6 (jN [yu 4] jP) jQ
def k67_1:=jN [zF 7 0 2,zM 8 7,zF 9 0 3,zM 10 9,yy 11 8 10,zV 12 11,zu 13 12 1 2,zr 14 12 13,zu 15 12 1 3,zr 16 12 15,yN 17 12 14 16,zA 18 12 17,zV 19 18,zu 20 19 2 2,
 zr 21 19 20,zu 22 19 2 3,zr 23 19 22,zP 24 19 80 21 23,zA 25 19 24,zV 26 25,zu 27 26 3 3,zr 28 26 27,z8 29 26 28 0,zw 30 29 26,zz 31 30 3 3,zH 32 30 31,
 zz 33 30 3 2,zH 34 30 33,jr 35 30 32 34,zC 36 26 30 35,zA 37 26 36,zV 4 37] jP
def k67_2:=jR (jN [zL 5 4 2,zd 6 59 5] k67_0) k67_1
def c67:=jN [zh 2 0,zh 3 1,zo 4] k67_2
theorem ok67:Ao Tryz.prog 67 c67 38 [.t 4]=true:=by kernel_rfl
def w67:=aW k67_0.eq_1 (aW k67_1.eq_1 (oW k67_2.eq_1))
def k70_0:=jN [zF 3 0 1,zM 4 3,yb 5 140 4 1 4,zV 6 5,zu 7 6 1 1,zr 8 6 7,zu 9 6 0 1,zr 10 6 9,W2 11 6 true (.bin .mul (zI 8) (.t 10)),W2 12 6 true (.call 140 [(.t 8),(.t 11),(zI 96)]),zA 13 6 12,zV 14 13,
 zu 15 14 1 1,zr 16 14 15,jL 17 14 16 8,z8 18 14 17 0,zA 19 14 18,zV 20 19,zu 21 20 2 1,zr 22 20 21,zu 23 20 0 1,zr 24 20 23,W2 25 20 true (.bin .add (.t 24) (zI 2)),
 W2 26 20 true (.call 140 [(.t 22),(.t 25),(zI 48)]),zA 27 20 26,zV 2 27] jP
def c70:=jN [zh 1 0,zo 2] k70_0
theorem ok70:Ao Tryz.prog 70 c70 28 [.t 2]=true:=by kernel_rfl
def k71_0:AD:= .region [zL 27 4 5,zd 28 59 27,zN 29 28,zV 30 29,zu 31 30 4 4,zr 32 30 31,jt 33 30 32 (-1),zA 34 30 33,zV 19 34]
def k71_1:=jO 35 (jN [zo 2] jP) jQ
def k71_2:=jR (.drawn [(0,zL 36 4 5),(1,zd 37 59 36),(2,zN 38 37),(3,zV 39 38),(4,zq 40 39 5 1),(5,zu 41 39 1 5),(6,zr 42 39 41),(7,zP 43 39 142 40 42),(8,yY 44 39 43),(9,zw 45 44 39),(10,zz 46 45 4 1),
 (11,zH 47 45 46),(12,zz 48 45 1 5),(13,zH 49 45 48),(14,yd 50 45 13 47 49),(15,zz 51 45 0 50),(16,zH 52 45 51),(17,zz 53 45 0 5),(18,zH 54 45 53),(19,yE 55 45 52 54),
 (20,zC 56 39 45 55),(21,zA 57 39 56),(22,zV 35 57)] [[],[0],[1],[2,1],[3],[3],[5,3],[4,6,3,3],[7,3],[8,7,3],[9],[10,9],[9],[12,9],[11,13,9],[14,9],[15,9],[9],[17,9],[16,18,9],[9,19,3],[3,20],[21,9]] 0) k71_1
def k71_3:=jO 19 (jN [zo 2] jP) k71_2
def k71_4:=jR (jN [zL 20 4 5,zd 21 59 20,zV 22 21,zu 23 22 4 4,zr 24 22 23,ya 25 22 24 (-1),zA 26 22 25,zV 19 26] (jO 19 jQ k71_0)) k71_3
def k71_5:=jO 15 (jN [zo 2] jP) k71_4
def k71_6:AD:= .block 2 (jN [zL 16 4 5,zd 17 141 16,zN 18 17,zV 15 18] k71_5)
def k71_7:=jN [zF 13 0 4,zL 14 4 13,zg 5,zS 4 5 14] k71_6
def k71_8:=jR (.block 1 (jN [zX 11 5 7 9,zL 12 5 11,zW 4,zS 5 4 12] k71_7)) (.region [zc 58 9,zV 9 58])
def b71_9:=jN [zj 10 9 8] (jR (jO 10 jQ (.exit 0)) k71_8)
def k71_10:=jR (jN [zF 6 3 1,zM 7 6,zi 8 7,zK 9 0] (.block 0 (.loop b71_9))) (jN [yu 2] jP)
def c71:=jN [zh 1 0,zo 2] k71_10
theorem ok71:Ao Tryz.prog 71 c71 59 [.t 2]=true:=by kernel_rfl
def w71:=aW k71_0.eq_1 (aW k71_1.eq_1 (aW k71_2.eq_1 (aW k71_3.eq_1 (aW k71_4.eq_1 (aW k71_5.eq_1 (aW k71_6.eq_1 (aW k71_7.eq_1 (aW k71_8.eq_1 (oW k71_10.eq_1)))))))))
def k72_0:=jO 16 (jN [zo 2] jP) jQ
def k72_1:=jO 38 (jN [zo 2] jP) jQ
def k72_2:=jO 59 (jN [zo 2] jP) jQ
def k72_3:=jO 73 (jN [zo 2] jP) jQ
def k72_4:=jN [zV 60 5,zN 61 60,zV 62 61,zu 63 62 0 4,zr 64 62 63,ya 65 62 64 0,zA 66 62 65,zV 67 66,zq 68 67 5 1,zw 69 3 67,zP 70 67 144 68 69,yB 71 67 70,
 z8 72 67 71 0,zA 73 67 72] k72_3
def k72_5:=jR (jR (.drawn [(0,zV 49 5),(1,zV 50 49),(2,zq 51 50 13 4),(3,zu 52 50 0 1),(4,zq 53 50 3 52),(5,zw 54 3 50),(6,W2 55 50 true (.bin .sub (.t 54) (zI 2))),(7,zP 56 50 129 53 55),
 (8,W2 57 50 true (.build [.int .i64 0,.int .i64 0,.int .i64 0,.int .i64 0,.int .i64 0,.int .i64 0,.int .i64 0,.bool false,.int .u64 0,.int .u64 0,.int .u64 0,.int .u64 0,.int .u64 0] [(0,1,(zI 2)),(1,1,(zI 3)),(2,1,(.t 56))])),(9,W2 58 50 true (.eqs true [0,0,0,0,0,0,0,1,0,0,0,0,0] (.t 51) (.t 57))),(10,zA 59 50 58)] [[],[0],[1],[1],[3,1],[1],[5,1],[4,6,1,1],[7,1],[2,8,1],[1,9]] 0) k72_2) k72_4
def k72_6:=jN [zV 39 3,zR 40 39 2,zV 41 40,zw 42 3 41,zu 43 41 0 1,zu 44 41 0 43,zr 45 41 44,jA 46 41 45,yo 47 41 42 46,zA 48 41 47,zV 5 48] k72_5
def k72_7:=jR (jN [zF 17 5 4,zM 18 17,yz 19 18 0,zV 20 19,zu 21 20 5 4,zr 22 20 21,zu 23 20 3 1,zr 24 20 23,yB 25 20 24,jK 26 20 22 25,zw 27 26 20,zz 28 27 3 1,
 zH 29 27 28,zz 30 27 5 4,zH 31 27 30,jl 32 27 31,yd 33 27 5 29 32,zz 34 27 0 33,yl 35 27 4 34,yp 36 27 59 35,zC 37 20 27 36,zA 38 20 37] k72_1) k72_6
def k72_8:=jR (jN [zL 14 13 4,zd 15 143 14,zN 16 15] k72_0) k72_7
def k72_9:=jR (.block 1 (jN [zV 11 9,zX 12 13 7 9,zL 13 13 12,zb 4,zV 3 11,zS 13 4 13] k72_8)) (.region [zc 74 9,zV 9 74])
def b72_10:=jN [zj 10 9 8] (jR (jO 10 jQ (.exit 0)) k72_9)
def k72_11:=jR (jN [zF 6 4 1,zM 7 6,zi 8 7,zK 9 0] (.block 0 (.loop b72_10))) (jN [yu 2] jP)
def c72:=jN [zh 1 0,zo 2] k72_11
theorem ok72:Ao Tryz.prog 72 c72 75 [.t 2]=true:=by kernel_rfl
def w72:=aW k72_0.eq_1 (aW k72_1.eq_1 (aW k72_2.eq_1 (aW k72_3.eq_1 (aW k72_4.eq_1 (aW k72_5.eq_1 (aW k72_6.eq_1 (aW k72_7.eq_1 (aW k72_8.eq_1 (aW k72_9.eq_1 (oW k72_11.eq_1))))))))))
def k73_0:=jO 43 (jN [zo 2] jP) jQ
def k73_1:AD:= .region [zV 44 3,zV 45 7,zX 46 1 44 45,yA 46]
def k73_2:=jR (jN [zV 34 7,zV 35 3,zi 36 35,yD 37 34 36,zV 38 37,zY 39 3 38,zY 40 7 38,yd 41 38 1 39 40,zH 42 38 41,zO 43 38 42] k73_0) k73_1
def k73_3:=jN [zF 30 2 5,zM 31 30,zV 32 6,z6 33 31 32,zV 7 33] k73_2
def k73_4:=jR (.block 3 (jN [zV 29 27,zV 6 29] k73_3)) (.region [zc 47 27,zV 27 47])
def b73_5:=jN [zj 28 27 26] (jR (jO 28 jQ (.exit 2)) k73_4)
def k73_6:=jN [zF 24 1 5,zM 25 24,jq 26 25,zK 27 0] (.block 2 (.loop b73_5))
def k73_7:=jR (jN [zF 21 0 5,zM 22 21,zk 23 22 2] (jO 23 (.exit 1) jQ)) k73_6
def k73_8:=jR (.block 1 (jN [zX 19 13 15 17,zL 20 13 19,zb 5,zS 13 5 20] k73_7)) (.region [zc 48 17,zV 17 48])
def b73_9:=jN [zj 18 17 16] (jR (jO 18 jQ (.exit 0)) k73_8)
def k73_10:=jO 67 (jN [zo 2] jP) jQ
def k73_11:=jN [zV 57 3,zV 58 8,zX 59 1 57 58,zM 60 59,zN 61 60,zV 62 61,zu 63 62 0 9,zq 64 62 4 63,yj 65 62 59 64,yY 66 62 65,zA 67 62 66] k73_10
def k73_12:=jR (.block 5 (jN [zV 54 52,zX 55 5 50 52,zL 56 5 55,zW 9,zV 8 54,zS 5 9 56] k73_11)) (.region [zc 68 52,zV 52 68])
def b73_13:=jN [zj 53 52 51] (jR (jO 53 jQ (.exit 4)) k73_12)
def k73_14:=jR (jN [zF 49 3 1,zM 50 49,zi 51 50,zK 52 0] (.block 4 (.loop b73_13))) (jN [yu 2] jP)
def k73_15:=jR (jN [zF 14 4 1,zM 15 14,zi 16 15,zK 17 0] (.block 0 (.loop b73_9))) k73_14
def k73_16:=jN [zF 10 3 1,zM 11 10,zi 12 11,yZ 13 12,zV 3 13] k73_15
def c73:=jN [zh 1 0,zo 2] k73_16
theorem ok73:Ao Tryz.prog 73 c73 69 [.t 2]=true:=by kernel_rfl
def w73:=aW k73_0.eq_1 (aW k73_1.eq_1 (aW k73_2.eq_1 (aW k73_3.eq_1 (aW k73_4.eq_1 (aW k73_6.eq_1 (aW k73_7.eq_1 (aW k73_8.eq_1 (aW k73_10.eq_1 (aW k73_11.eq_1 (aW k73_12.eq_1 (aW k73_14.eq_1 (aW k73_15.eq_1 (oW k73_16.eq_1)))))))))))))
def k74_0:=jO 24 (jN [yu 2] jP) jQ
def k74_1:=jN [zF 13 0 4,zF 14 0 13,zM 15 14,zQ 16 15 2,zV 17 16,zq 18 17 5 1,zu 19 17 0 4,zu 20 17 1 19,zr 21 17 20,zw 22 3 17,jf 23 17 145 18 21 22,zA 24 17 23] k74_0
def k74_2:=jR (.block 1 (jN [zV 10 8,zX 11 5 6 8,zL 12 5 11,zW 4,zV 3 10,zS 5 4 12] k74_1)) (.region [zc 25 8,zV 8 25])
def b74_3:=jN [zj 9 8 7] (jR (jO 9 jQ (.exit 0)) k74_2)
def k74_4:=jR (jN [zF 5 3 1,zM 6 5,zi 7 6,zK 8 0] (.block 0 (.loop b74_3))) (jN [zo 2] jP)
def c74:=jN [zh 1 0,zo 2] k74_4
theorem ok74:Ao Tryz.prog 74 c74 26 [.t 2]=true:=by kernel_rfl
def w74:=aW k74_0.eq_1 (aW k74_1.eq_1 (aW k74_2.eq_1 (oW k74_4.eq_1)))
def k75_0:=jO 11 (jN [zo 2] jP) jQ
def k75_1:=jO 30 (jN [zo 2] jP) jQ
def k75_2:=jN [zV 19 4,zk 20 19 (-2),zV 21 20,zw 22 4 21,ya 23 21 22 (-1),zA 24 21 23,zV 25 24,zq 26 25 1 1,zw 27 4 25,zP 28 25 146 26 27,yY 29 25 28,zA 30 25 29] k75_1
def k75_3:=jR (.block 1 (jN [zX 17 1 13 15,zM 18 17,zV 4 18] k75_2)) (.region [zc 31 15,zV 15 31])
def b75_4:=jN [zj 16 15 14] (jR (jO 16 jQ (.exit 0)) k75_3)
def k75_5:=jO 51 (jN [zo 2] jP) jQ
def k75_6:AD:= .region [zF 42 0 1,zM 43 42,zV 44 7,zX 45 1 43 44,zM 46 45,zV 7 46]
def k75_7:=jR (.block 5 (jR (jN [zV 47 6,zF 48 0 1,zM 49 48,zi 50 49,jn 51 47 50] k75_5) (.region [zV 52 6,zc 53 52,zV 6 53]))) k75_6
def b75_8:=jR (jN [zL 39 1 1,zV 40 7,ze 41 146 39 40] (jO 41 jQ (.exit 4))) k75_7
def k75_9:=jN [zV 38 5,zV 7 38] (.block 4 (.loop b75_8))
def k75_10:=jR (.block 3 (jN [zV 37 35,zV 5 37] (jN [zK 6 0] k75_9))) (.region [zc 54 35,zV 35 54])
def b75_11:=jN [zj 36 35 34] (jR (jO 36 jQ (.exit 2)) k75_10)
def k75_12:=jR (jN [zF 32 0 1,zM 33 32,zi 34 33,zK 35 0] (.block 2 (.loop b75_11))) (jN [yu 2] jP)
def k75_13:=jR (jN [zF 12 0 1,zM 13 12,zi 14 13,zK 15 0] (.block 0 (.loop b75_4))) k75_12
def k75_14:=jR (jN [zF 8 0 1,zM 9 8,zi 10 9,yz 11 10 96] k75_0) k75_13
def c75:=jN [zh 1 0,zo 2] k75_14
theorem ok75:Ao Tryz.prog 75 c75 55 [.t 2]=true:=by kernel_rfl
def w75:=aW k75_0.eq_1 (aW k75_1.eq_1 (aW k75_2.eq_1 (aW k75_3.eq_1 (aW k75_5.eq_1 (aW k75_6.eq_1 (aW k75_7.eq_1 (aW k75_9.eq_1 (aW k75_10.eq_1 (aW k75_12.eq_1 (aW k75_13.eq_1 (oW k75_14.eq_1)))))))))))
def k76_0:=jO 15 (.region [zF 16 4 5,yW 16 (-2)]) jQ
def k76_1:AD:= .region [zF 17 0 3,zM 18 17,zF 19 4 5,zM 20 19,yt 21 20,yC 22 1 8 18 21,zF 23 0 3,zS 1 23 22]
def k76_2:=jR (jN [zF 13 0 5,zL 14 4 13,zd 15 59 14] k76_0) k76_1
def k76_3:=jR (.block 1 (jN [zX 11 5 7 9,zL 12 5 11,zW 5,zS 5 5 12] k76_2)) (.region [zc 24 9,zV 9 24])
def b76_4:=jN [zj 10 9 8] (jR (jO 10 jQ (.exit 0)) k76_3)
def k76_5:=jR (jN [zF 6 3 1,zM 7 6,zi 8 7,zK 9 0] (.block 0 (.loop b76_4))) (jN [zL 25 1 3,zS 1 2 25] jP)
def c76:=jN [zh 1 0,yP 2] (jN [yP 3] k76_5)
theorem ok76:Ao Tryz.prog 76 c76 26 [.c 2 (some 1)]=true:=by kernel_rfl
def w76:=aW k76_0.eq_1 (aW k76_1.eq_1 (aW k76_2.eq_1 (aW k76_3.eq_1 (oW k76_5.eq_1))))
def k77_0:=jO 40 (jN [zo 2] jP) jQ
def k77_1:=jN [zF 23 0 4,zL 24 4 23,zL 25 4 5,ze 26 67 24 25,zN 27 26,zV 28 27,zu 29 28 0 5,zr 30 28 29,ya 31 28 30 1,zw 32 31 28,zz 33 32 0 4,zz 34 32 1 33,zH 35 32 34,
 zz 36 32 1 5,zH 37 32 36,jr 38 32 35 37,zC 39 28 32 38,zA 40 28 39] k77_0
def k77_2:=jN [zF 16 3 1,zM 17 16,zF 18 4 4,zM 19 18,zX 20 5 17 19,zF 21 0 20,zL 22 4 21,zg 5,zS 4 5 22] k77_1
def k77_3:=jR (jN [zF 13 4 4,zM 14 13,yk 15 14 0] (jO 15 (.exit 1) jQ)) k77_2
def k77_4:=jR (.block 1 (jN [zX 11 5 7 9,zL 12 5 11,zW 4,zS 5 4 12] k77_3)) (.region [zc 41 9,zV 9 41])
def b77_5:=jN [zj 10 9 8] (jR (jO 10 jQ (.exit 0)) k77_4)
def k77_6:=jR (jN [zF 6 3 1,zM 7 6,zi 8 7,zK 9 0] (.block 0 (.loop b77_5))) (jN [yu 2] jP)
def c77:=jN [zh 1 0,zo 2] k77_6
theorem ok77:Ao Tryz.prog 77 c77 42 [.t 2]=true:=by kernel_rfl
def w77:=aW k77_0.eq_1 (aW k77_1.eq_1 (aW k77_2.eq_1 (aW k77_3.eq_1 (aW k77_4.eq_1 (oW k77_6.eq_1)))))
def k80_0:=jN [zV 5 0,zV 6 1,ze 7 147 5 6,zQ 8 7 0,zV 4 8] jP
def c80:=jN [zo 4] k80_0
theorem ok80:Ao Tryz.prog 80 c80 9 [.t 4]=true:=by kernel_rfl
def k111_0:=jO 6 (jN [ym 2 0,zo 3] jP) jQ
def k111_1:=jR (.drawn [(1,zF 8 0 1),(2,zM 9 8),(4,zF 11 2 1),(5,zM 12 11),(7,zF 14 3 1),(8,zM 15 14),(10,zF 17 1 1),(11,zM 18 17),(0,jH 7 187),(3,yU 10 9),(6,yU 13 12),(9,yU 16 15),(12,yU 19 18),(13,W1 20 (.born 0 (.EO 1 4 [.int .u64 0] [(0,(.t 10)),(1,(.t 13)),(2,(.t 16)),(3,(.t 19))]))),(14,ze 21 121 7 20),
 (15,zE 22 21 0),(16,zE 23 21 1),(17,zV 2 22),(18,zV 3 23)] [[],[],[1],[2],[],[4],[5],[],[7],[8],[],[10],[11],[3,6,9,12],[0,13,0],[14],[14],[15,14,0,1,2,3,4,5,6,7,8,9,10,11,12,13,14,15,16],[16,17,0,1,2,3,4,5,6,7,8,9,10,11,12,13,14,15,16,17]] 1) jP
def k111_2:=jR (jN [zL 4 4 1,zd 5 141 4,zN 6 5] k111_0) k111_1
def c111:=jN [zh 1 0,ym 2 0,zo 3] k111_2
theorem ok111:Ao Tryz.prog 111 c111 24 [.t 2,.t 3]=true:=by kernel_rfl
def w111:=aW k111_0.eq_1 (aW k111_1.eq_1 (oW k111_2.eq_1))
def k112_0:=jO 10 (jN [zK 4 (-1)] jP) jQ
def k112_1:AD:= .region [zF 18 0 2,zM 19 18,zV 20 6,zX 21 1 19 20,zM 22 21,zV 6 22]
def k112_2:=jR (.block 1 (.region [zV 23 5,zc 24 23,zV 5 24])) k112_1
def b112_3:=jR (jN [zV 16 6,zk 17 16 (-1)] (jO 17 jQ (.exit 0))) k112_2
def k112_4:=jR (jN [zF 11 0 2,zM 12 11,zV 13 1,zX 14 1 12 13,zM 15 14,zV 6 15] (.block 0 (.loop b112_3))) (jN [zV 25 5,zV 4 25] jP)
def k112_5:=jR (jN [zL 7 1 2,zV 8 1,ze 9 188 7 8,zN 10 9] k112_0) (jN [zK 5 0] k112_4)
def c112:=jN [zh 2 0,zK 4 0] k112_5
theorem ok112:Ao Tryz.prog 112 c112 26 [.t 4]=true:=by kernel_rfl
def w112:=aW k112_0.eq_1 (aW k112_1.eq_1 (aW k112_2.eq_1 (aW k112_4.eq_1 (oW k112_5.eq_1))))
def k114_0:=jO 11 (jN [W1 2 (.mv (.c (.str []))),W1 3 (.mv (.c (.str [])))] jP) jQ
def k114_1:=jN [zV 21 2,zV 22 3,zV 2 21,zV 3 22] jP
def k114_2:=jN [zV 13 4,zV 14 0,zX 15 1 13 14,zM 16 15,W1 17 (.call 189 [(.t 16),(.c (.str [32]))]),zV 12 17,zE 18 12 0,zE 19 12 1,zE 20 12 2,zV 2 18,zV 3 19] k114_1
def k114_3:=jR (jN [zV 6 0,yk 7 6 1,zV 8 7,zY 9 0 8,yr 10 8 9 13,zO 11 8 10] k114_0) k114_2
def c114:=jN [W1 2 (.mv (.c (.str []))),W1 3 (.mv (.c (.str [])))] (jN [
 W1 5 (.EO 1 14 [.str []] [(0,(.c (.str []))),(1,(.c (.str [109,97,107,101,32,65,66,88,89]))),(2,(.c (.str [99,111,112,121,32,65,66,88]))),(3,(.c (.str [109,105,110,116,32,65,66,88,89]))),(4,(.c (.str [109,111,118,101,32,65,66]))),(5,(.c (.str [100,101,108,101,116,101,32,65]))),(6,(.c (.str [114,101,118,111,107,101,32,65]))),(7,(.c (.str [115,101,110,100,32,65,98,87]))),(8,(.c (.str [114,101,99,118,32,65,98]))),(9,(.c (.str [114,105,110,103,32,65]))),(10,(.c (.str [112,111,108,108,32,65]))),(11,(.c (.str [119,114,105,116,101,32,65,88,87]))),(12,(.c (.str [114,101,97,100,32,65,88]))),(13,(.c (.str [116,101,108,108,32,65])))]),
 zV 4 5] k114_3)
theorem ok114:Ao Tryz.prog 114 c114 23 [.t 2,.t 3]=true:=by kernel_rfl
def w114:=aW k114_0.eq_1 (aW k114_1.eq_1 (aW k114_2.eq_1 (oW k114_3.eq_1)))
def k116_0:=jN [zF 4 0 1,zM 5 4,zi 6 5,zR 7 6 1,zV 8 7,zu 9 8 0 1,zr 10 8 9,yB 11 8 10,yF 12 8 11 3,zA 13 8 12,zV 14 13,zu 15 14 0 1,zr 16 14 15,zw 17 3 14,
 zP 18 14 192 16 17,yY 19 14 18,zA 20 14 19,zV 2 20] jP
def c116:=jN [zh 1 0,zo 2] (jN [W1 3 (.mv (.c (.func 191 [])))] k116_0)
theorem ok116:Ao Tryz.prog 116 c116 21 [.t 2]=true:=by kernel_rfl
def k118_0:=jN [zF 7 3 1,zM 8 7,yb 9 194 8 1 5,zV 10 9,zu 11 10 4 1,zr 12 10 11,yn 13 10 194 12 0 4096,zA 14 10 13,zV 2 14] jP
def k118_1:=jN [zF 17 3 1,zM 18 17,zd 19 195 18,zV 20 19,zu 21 20 4 1,zr 22 20 21,z8 23 20 22 0,zA 24 20 23,zV 2 24] jP
def k118_2:=jN [zF 27 3 1,zM 28 27,zd 29 195 28,zV 30 29,zu 31 30 4 1,zr 32 30 31,yn 33 30 194 32 1 65535,zA 34 30 33,zV 2 34] jP
def k118_3:=jO 35 jQ (.region [zQ 37 4 12,zV 35 37])
def k118_4:=jN [zF 38 3 1,zM 39 38,yb 40 194 39 0 3,zV 41 40,zu 42 41 4 1,zr 43 41 42,z8 44 41 43 0,zA 45 41 44,zV 2 45] jP
def k118_5:=jR (jN [zQ 36 4 11,zV 35 36] k118_3) (jO 35 k118_4 jQ)
def k118_6:=jN [zQ 26 4 3,zV 25 26] (jO 25 k118_2 k118_5)
def k118_7:=jN [zQ 16 4 2,zV 15 16] (jO 15 k118_1 k118_6)
def k118_8:AD:= .block 0 (jN [zQ 6 4 1,zV 5 6] (jO 5 k118_0 k118_7))
def k118_9:=jN [zF 46 3 1,zM 47 46,zQ 48 47 0,zV 49 48,zu 50 49 4 1,zr 51 49 50,z8 52 49 51 0,zA 53 49 52,zV 2 53] jP
def k118_10:=jR (jN [zF 3 0 1,zM 4 3] k118_8) k118_9
def c118:=jN [zh 1 0,zo 2] k118_10
theorem ok118:Ao Tryz.prog 118 c118 54 [.t 2]=true:=by kernel_rfl
def w118:=aW k118_0.eq_1 (aW k118_1.eq_1 (aW k118_2.eq_1 (aW k118_3.eq_1 (aW k118_4.eq_1 (aW k118_5.eq_1 (aW k118_6.eq_1 (aW k118_7.eq_1 (aW k118_8.eq_1 (aW k118_9.eq_1 (oW k118_10.eq_1))))))))))
def k121_0:=jO 18 (jN [ym 4 0,zo 5] jP) jQ
def k121_1:=jO 35 (jN [ym 4 0,zo 5] jP) jQ
def k121_2:AD:= .drawn [(1,zV 37 1),(2,zV 38 7),(3,zX 39 1 37 38),(4,zM 40 39),(5,zF 41 0 8),(6,zM 42 41),(0,zV 36 6),(7,W1 43 (.bin .shl (.t 40) (.t 42))),(8,W1 44 (.bin .or (.t 36) (.t 43))),(9,zV 6 44)] [[],[],[],[1,2],[3],[],[5],[4,6],[0,7],[8,0,1,2,3,4,5,6,7,8]] 0
def k121_3:=jR (jR (.drawn [(0,zV 26 1),(1,zV 27 7),(2,zX 28 1 26 27),(3,zM 29 28),(4,zL 30 2 8),(6,zF 32 0 8),(7,zM 33 32),(5,zd 31 199 30),(8,W1 34 (.bin .shr (.t 31) (.t 33))),(9,jn 35 29 34)] [[],[],[0,1],[2],[],[4],[],[6],[5,7],[3,8]] 0) k121_1) k121_2
def k121_4:=jR (.block 1 (jN [zV 23 21,zX 24 2 19 21,zL 25 2 24,jM 8,zV 7 23,zS 2 8 25] k121_3)) (.region [zc 45 21,zV 21 45])
def b121_5:=jN [zj 22 21 20] (jR (jO 22 jQ (.exit 0)) k121_4)
def k121_6:=jN [zV 46 6,zV 4 46,yu 5] jP
def k121_7:=jR (jN [zV 19 0,zi 20 19,zK 21 0] (.block 0 (.loop b121_5))) k121_6
def k121_8:=jR (jN [zV 9 0,zd 10 198 9,zN 11 10,zV 12 11,zY 13 0 12,zT 14 12 13,zY 15 1 12,zT 16 12 15,yE 17 12 14 16,zO 18 12 17] k121_0) (jN [ym 6 0] k121_7)
def c121:=jN [ym 4 0,zo 5] k121_8
theorem ok121:Ao Tryz.prog 121 c121 47 [.t 4,.t 5]=true:=by kernel_rfl
def w121:=aW k121_0.eq_1 (aW k121_1.eq_1 (aW k121_2.eq_1 (aW k121_3.eq_1 (aW k121_4.eq_1 (aW k121_6.eq_1 (aW k121_7.eq_1 (oW k121_8.eq_1)))))))
def c124:=jN [jz 0] (jN [W1 1 (.build [.int .i64 0,.int .i64 0,.int .i64 0] [(0,1,(zI 2)),(1,1,(zI 32)),(2,1,(zI 16))]),zS 3 0 1] jP)
theorem ok124:Ao Tryz.prog 124 c124 2 [.c 0 (some 3)]=true:=by kernel_rfl
def k128_0:AD:= .region [zV 19 1,zV 20 2,zF 21 1 8,zS 1 21 19,zF 22 2 8,zS 1 22 20]
def k128_1:=jO 23 jQ (.region [zQ 26 11 5,zV 23 26])
def k128_2:=jO 23 jQ (jN [zQ 25 11 4,zV 23 25] k128_1)
def k128_3:=jN [zn 12,zS 13 6 12,zo 7] jP
def k128_4:=jR (jN [zQ 24 11 3,zV 23 24] k128_2) (jO 23 jQ k128_3)
def k128_5:=jN [zQ 18 11 2,zV 17 18] (jO 17 k128_0 k128_4)
def k128_6:=jO 13 (.region [zV 15 1,zF 16 3 8,zS 1 16 15]) k128_5
def k128_7:AD:= .block 0 (jN [zQ 14 11 1,zV 13 14] k128_6)
def k128_8:=jN [zn 30,zS 13 6 30,zo 7] jP
def k128_9:=jN [zL 31 13 8,zS 13 6 31,yu 7] jP
def k128_10:=jR (jN [zL 27 13 8,zd 28 143 27,zN 29 28] (jO 29 k128_8 jQ)) k128_9
def k128_11:=jN [zV 9 0,zx 10 9,zb 8,zS 13 8 10] (jR (jN [zV 11 0] k128_7) k128_10)
def c128:=jN [zb 6,zo 7] k128_11
theorem ok128:Ao Tryz.prog 128 c128 32 [.c 6 (some 13),.t 7]=true:=by kernel_rfl
def w128:=aW k128_0.eq_1 (aW k128_1.eq_1 (aW k128_2.eq_1 (aW k128_3.eq_1 (aW k128_4.eq_1 (aW k128_5.eq_1 (aW k128_6.eq_1 (aW k128_7.eq_1 (aW k128_8.eq_1 (aW k128_9.eq_1 (aW k128_10.eq_1 (oW k128_11.eq_1)))))))))))
def k129_0:=jO 15 (jN [zK 4 0] jP) jQ
def k129_1:=jN [zV 16 1,jx 17 8 16,zV 4 17] jP
def k129_2:=jR (jN [zL 5 3 2,zd 6 70 5,zN 7 6,zV 8 7,zY 9 1 8,zz 10 8 0 2,zH 11 8 10,jl 12 8 11,jk 13 8 140 9 12,ye 14 8 13,zO 15 8 14] k129_0) k129_1
def c129:=jN [zh 2 0,zK 4 0] k129_2
theorem ok129:Ao Tryz.prog 129 c129 18 [.t 4]=true:=by kernel_rfl
def w129:=aW k129_0.eq_1 (aW k129_1.eq_1 (oW k129_2.eq_1))
def k134_0:=jO 29 (jN [zK 6 0,zK 7 1] jP) jQ
def k134_1:AD:= .region [zL 47 5 3,zV 48 10,ze 49 202 47 48,zV 46 49,zE 50 46 0,zE 51 46 1,zS 13 8 50,zV 9 51]
def k134_2:=jO 59 (jN [zK 6 0,zK 7 3] jP) jQ
def k134_3:AD:= .region [zL 60 13 8,zV 61 12,ze 62 203 60 61,zV 10 62]
def k134_4:=jR (jN [zV 52 9,zN 53 52,zV 54 53,yl 55 54 13 8,zY 56 12 54,jv 57 54 203 55 56,yc 58 54 57 0,zO 59 54 58] k134_2) k134_3
def k134_5:=jR (jN [zV 44 11,yz 45 44 0] (jO 45 k134_1 jQ)) k134_4
def k134_6:=jR (.block 1 (jN [zV 41 39,zX 42 1 37 39,zM 43 42,zV 11 41,zV 12 43] k134_5)) (.region [zc 63 39,zV 39 63])
def b134_7:=jN [zj 40 39 38] (jR (jO 40 jQ (.exit 0)) k134_6)
def k134_8:=jN [zV 64 10,zV 6 64,zK 7 0] jP
def k134_9:=jR (jN [zF 36 0 5,zM 37 36,zi 38 37,zK 39 0] (.block 0 (.loop b134_7))) k134_8
def k134_10:=jN [zF 30 4 3,zM 31 30,zV 32 1,jo 33 32,zX 34 13 31 33,zL 35 13 34,zb 8,zS 13 8 35,yu 9] (jN [zK 10 0] k134_9)
def k134_11:=jR (jN [zL 13 5 3,zd 14 15 13,zN 15 14,zV 16 15,zY 17 1 16,zz 18 16 0 3,zz 19 16 0 18,zH 20 16 19,jl 21 16 20,jk 22 16 135 17 21,ye 23 16 22,zO 24 16 23,
 zV 25 24,yl 26 25 1 5,yp 27 25 116 26,ye 28 25 27,zO 29 25 28] k134_0) k134_10
def c134:=jN [zh 3 0,zh 5 2,zK 6 0,zK 7 0] k134_11
theorem ok134:Ao Tryz.prog 134 c134 65 [.t 6,.t 7]=true:=by kernel_rfl
def w134:=aW k134_0.eq_1 (aW k134_1.eq_1 (aW k134_2.eq_1 (aW k134_3.eq_1 (aW k134_4.eq_1 (aW k134_5.eq_1 (aW k134_6.eq_1 (aW k134_8.eq_1 (aW k134_9.eq_1 (aW k134_10.eq_1 (oW k134_11.eq_1))))))))))
def k135_0:=jN [zV 7 0,zV 8 1,yD 9 7 8,zV 10 9,zw 11 0 10,zw 12 2 10,yS 13 10 11 12,zA 14 10 13,zV 6 14] jP
def c135:=jN [zo 6] k135_0
theorem ok135:Ao Tryz.prog 135 c135 15 [.t 6]=true:=by kernel_rfl
def k140_0:=jN [zV 7 0,zV 8 1,yD 9 7 8,zV 10 9,zw 11 0 10,zw 12 2 10,yS 13 10 11 12,zA 14 10 13,zV 6 14] jP
def c140:=jN [zo 6] k140_0
theorem ok140:Ao Tryz.prog 140 c140 15 [.t 6]=true:=by kernel_rfl
def k141_0:=jO 4 (jN [yu 2] jP) jQ
def k141_1:=jN [zF 5 0 1,zM 6 5,yb 7 207 6 1 5,zV 8 7,zu 9 8 1 1,zr 10 8 9,yn 11 8 207 10 0 47,zA 12 8 11,zV 13 12,zu 14 13 2 1,zr 15 13 14,yj 16 13 195 15,
 zA 17 13 16,zV 18 17,zu 19 18 3 1,zr 20 18 19,yj 21 18 208 20,zA 22 18 21,zV 23 22,zu 24 23 3 1,zr 25 23 24,z8 26 23 25 0,zw 27 26 23,zz 28 27 0 1,
 zH 29 27 28,yp 30 27 209 29,zC 31 23 27 30,zA 32 23 31,zV 2 32] jP
def k141_2:=jR (jN [zL 3 4 1,zd 4 59 3] k141_0) k141_1
def c141:=jN [zh 1 0,zo 2] k141_2
theorem ok141:Ao Tryz.prog 141 c141 33 [.t 2]=true:=by kernel_rfl
def w141:=aW k141_0.eq_1 (aW k141_1.eq_1 (oW k141_2.eq_1))
def k142_0:=jN [zV 5 1,zR 6 5 0,zV 7 6,zw 8 1 7,zu 9 7 4 2,zr 10 7 9,yB 11 7 10,yo 12 7 8 11,zA 13 7 12,zV 14 13,zu 15 14 4 2,zr 16 14 15,zw 17 1 14,
 z7 18 14 13 16 17,zu 19 14 0 18,zr 20 14 19,ya 21 14 20 0,zA 22 14 21,zV 4 22] jP
def c142:=jN [zh 2 0,zo 4] k142_0
theorem ok142:Ao Tryz.prog 142 c142 23 [.t 4]=true:=by kernel_rfl
def k143_0:=jO 6 (jN [zo 2] jP) jQ
def k143_1:=jN [zF 11 3 1,zM 12 11,yb 13 211 12 1 4096,zV 14 13,zu 15 14 4 1,zr 16 14 15,zu 17 14 3 1,zr 18 14 17,W2 19 14 true (.call 211 [(.t 16),(zI 0),(.t 18)]),zA 20 14 19,zV 2 20] jP
def k143_2:=jR (.drawn [(0,zF 23 1 1),(1,zM 24 23),(2,yb 25 211 24 1 4),(3,zV 26 25),(4,zu 27 26 2 1),(5,zr 28 26 27),(6,zu 29 26 1 1),(7,zr 30 26 29),(8,W2 31 26 true (.bin .shl (zI 1) (.t 30))),(9,W2 32 26 true (.bin .sub (zI 96) (.t 31))),
 (10,W2 33 26 true (.call 211 [(.t 28),(zI 0),(.t 32)])),(11,zA 34 26 33),(12,zV 2 34)] [[],[0],[1],[2,2],[3],[4,3],[3],[6,3],[7,3],[8,3],[5,9,3,3],[3,10],[11,10,0,1,2,3,4,5,6,7,8,9,10,11]] 0) jP
def k143_3:=jN [zF 37 6 1,zM 38 37,yb 39 211 38 0 65535,zV 40 39,zu 41 40 5 1,zr 42 40 41,yn 43 40 211 42 0 96,zA 44 40 43,zV 2 44] jP
def k143_4:=jN [zQ 36 8 3,zV 35 36] (jO 35 k143_3 jQ)
def k143_5:=jN [zQ 22 8 2,zV 21 22] (jO 21 k143_2 k143_4)
def k143_6:AD:= .block 0 (jN [zQ 10 8 1,zV 9 10] (jO 9 k143_1 k143_5))
def k143_7:=jR (jN [zF 7 0 1,zM 8 7] k143_6) (jN [yu 2] jP)
def k143_8:=jR (jR (.drawn [(0,zL 3 13 1),(2,zL 5 13 1),(1,zd 4 210 3),(3,yM 6 4 5)] [[],[0],[],[1,2]] 0) k143_0) k143_7
def c143:=jN [zh 1 0,zo 2] k143_8
theorem ok143:Ao Tryz.prog 143 c143 45 [.t 2]=true:=by kernel_rfl
def w143:=aW k143_0.eq_1 (aW k143_1.eq_1 (aW k143_2.eq_1 (aW k143_3.eq_1 (aW k143_4.eq_1 (aW k143_5.eq_1 (aW k143_6.eq_1 (aW k143_7.eq_1 (oW k143_8.eq_1))))))))
def k144_0:AD:= .region [zV 27 5,zV 28 6,yt 29 28,yC 30 1 8 27 29,zV 5 30]
def k144_1:=jN [zF 16 0 7,zL 17 4 16,zd 18 59 17,zN 19 18,zV 20 19,zu 21 20 0 7,zu 22 20 1 21,zr 23 20 22,zw 24 1 20,yN 25 20 23 24,zA 26 20 25] (jO 26 k144_0 jQ)
def k144_2:=jR (.block 1 (jN [zV 13 11,zX 14 5 9 11,zL 15 5 14,zW 7,zV 6 13,zS 5 7 15] k144_1)) (.region [zc 31 11,zV 11 31])
def b144_3:=jN [zj 12 11 10] (jR (jO 12 jQ (.exit 0)) k144_2)
def k144_4:=jR (jN [zF 8 3 2,zM 9 8,zi 10 9,zK 11 0] (.block 0 (.loop b144_3))) (jN [zV 32 5,zV 4 32] jP)
def c144:=jN [zh 2 0,zp 4] (jN [zp 5] k144_4)
theorem ok144:Ao Tryz.prog 144 c144 33 [.t 4]=true:=by kernel_rfl
def w144:=aW k144_0.eq_1 (aW k144_1.eq_1 (aW k144_2.eq_1 (oW k144_4.eq_1)))
def k145_0:=jO 20 (jN [zo 6] jP) jQ
def k145_1:=jN [zV 26 7,zL 27 5 3,zV 28 2,ze 29 213 27 28,W1 30 (.Wb (.bool false) (.t 26) (.t 29)),zV 6 30] jP
def k145_2:=jN [zL 22 5 3,zV 23 1,zV 24 7,zm 25 212 22 23 24] k145_1
def k145_3:=jR (jN [zL 8 5 3,zV 9 1,ze 10 142 8 9,zN 11 10,zV 12 11,zz 13 12 4 3,zH 14 12 13,zY 15 1 12,yd 16 12 13 14 15,zz 17 12 0 16,zH 18 12 17,yQ 19 12 18 2,zO 20 12 19]
 k145_0) (jN [W1 21 (.Pa),zV 7 21] k145_2)
def c145:=jN [zh 3 0,zo 6] k145_3
theorem ok145:Ao Tryz.prog 145 c145 31 [.t 6]=true:=by kernel_rfl
def w145:=aW k145_0.eq_1 (aW k145_1.eq_1 (aW k145_2.eq_1 (oW k145_3.eq_1)))
def k146_0:=jN [zV 5 1,zR 6 5 0,zV 7 6,zw 8 1 7,zu 9 7 0 2,zr 10 7 9,yB 11 7 10,yo 12 7 8 11,zA 13 7 12,zV 14 13,zu 15 14 0 2,zr 16 14 15,zw 17 1 14,
 z7 18 14 1 16 17,zr 19 14 18,ya 20 14 19 (-2),zA 21 14 20,zV 4 21] jP
def c146:=jN [zh 2 0,zo 4] k146_0
theorem ok146:Ao Tryz.prog 146 c146 22 [.t 4]=true:=by kernel_rfl
def k147_0:=jN [zV 5 0,zd 6 214 5,zV 7 1,zd 8 214 7,W1 9 (.bin .andNot (.t 6) (.t 8)),zV 4 9] jP
def c147:=jN [zK 4 0] k147_0
theorem ok147:Ao Tryz.prog 147 c147 10 [.t 4]=true:=by kernel_rfl
def k148_0:=jN [zV 20 9,zK 6 0,zV 7 20] jP
def k148_1:=jO 21 (jN [zK 6 0,zK 7 5] jP) jQ
def k148_2:=jN [zF 22 3 3,zM 23 22,zV 24 8,zX 25 5 23 24,zF 26 0 25,zL 27 4 26,zd 28 59 27,zN 29 28,zV 21 29] k148_1
def k148_3:=jN [zV 30 8,zV 6 30,zK 7 0] jP
def k148_4:=jR (.block 0 (jN [zV 18 9,zk 19 18 0,zV 17 19] (jO 17 k148_0 k148_2))) k148_3
def k148_5:=jN [zL 11 5 3,zV 12 1,zL 13 1 5,zm 14 134 11 12 13,zV 10 14,zE 15 10 0,zE 16 10 1,zV 8 15,zV 9 16] k148_4
def c148:=jN [zh 3 0,zh 5 2,zK 6 0,zK 7 0] k148_5
theorem ok148:Ao Tryz.prog 148 c148 31 [.t 6,.t 7]=true:=by kernel_rfl
def w148:=aW k148_0.eq_1 (aW k148_1.eq_1 (aW k148_2.eq_1 (aW k148_3.eq_1 (aW k148_4.eq_1 (oW k148_5.eq_1)))))
def k177_0:=jN [zV 11 1,zV 4 11,yu 5] jP
def k177_1:=jN [zV 9 1,yb 10 211 9 1 4096] (jO 10 k177_0 jQ)
def k177_2:=jN [zV 16 1,jq 17 16,zV 4 17,yu 5] jP
def k177_3:=jN [zV 14 1,yb 15 211 14 1 4] (jO 15 k177_2 jQ)
def k177_4:=jO 18 jQ (.region [zQ 20 6 4,zV 18 20])
def k177_5:=jO 21 (jN [zK 4 2,yu 5] jP) jQ
def k177_6:=jO 18 (jN [zK 4 1,yu 5] jP) (jN [zQ 22 6 5,zV 21 22] k177_5)
def k177_7:=jR (jN [zQ 19 6 3,zV 18 19] k177_4) k177_6
def k177_8:=jN [zQ 13 6 2,zV 12 13] (jO 12 k177_3 k177_7)
def k177_9:AD:= .block 0 (jN [zQ 8 6 1,zV 7 8] (jO 7 k177_1 k177_8))
def k177_10:=jR (jN [zV 6 0] k177_9) (jN [zK 4 0,zo 5] jP)
def c177:=jN [zK 4 0,zo 5] k177_10
theorem ok177:Ao Tryz.prog 177 c177 23 [.t 4,.t 5]=true:=by kernel_rfl
def w177:=aW k177_0.eq_1 (aW k177_1.eq_1 (aW k177_2.eq_1 (aW k177_3.eq_1 (aW k177_4.eq_1 (aW k177_5.eq_1 (aW k177_6.eq_1 (aW k177_7.eq_1 (aW k177_8.eq_1 (aW k177_9.eq_1 (oW k177_10.eq_1))))))))))
def k179_0:=jO 5 (jN [zK 2 (-1)] jP) jQ
def k179_1:=jN [zF 6 4 1,zM 7 6,W1 8 (.call 222 [(.t 7),(.c (.func 223 []))]),zV 2 8] jP
def k179_2:=jR (jN [zL 3 5 1,zd 4 15 3,zN 5 4] k179_0) k179_1
def c179:=jN [zh 1 0,zK 2 0] k179_2
theorem ok179:Ao Tryz.prog 179 c179 9 [.t 2]=true:=by kernel_rfl
def w179:=aW k179_0.eq_1 (aW k179_1.eq_1 (oW k179_2.eq_1))
def k180_0:=jO 18 (jN [zK 4 0,zo 5] jP) jQ
def k180_1:=jN [zV 35 7,zc 36 35,zV 37 6,jc 38 36 37,zV 4 38,yu 5] jP
def k180_2:=jN [zV 31 6,zV 32 1,jq 33 32,yy 34 31 33] (jO 34 k180_1 jQ)
def k180_3:=jR (jN [zL 27 5 2,zV 28 7,ze 29 213 27 28,zk 30 29 (-1)] (jO 30 (.region [zK 6 0]) jQ)) k180_2
def k180_4:=jN [zV 25 6,zc 26 25,zV 6 26] k180_3
def k180_5:=jR (.block 1 (jN [zV 24 22,zV 7 24] k180_4)) (.region [zc 39 22,zV 22 39])
def b180_6:=jN [zj 23 22 21] (jR (jO 23 jQ (.exit 0)) k180_5)
def k180_7:=jR (jN [zF 19 3 2,zM 20 19,zi 21 20,zK 22 0] (.block 0 (.loop b180_6))) (jN [zK 4 0,zo 5] jP)
def k180_8:=jR (jN [zL 8 5 2,zd 9 15 8,zN 10 9,zV 11 10,zY 12 1 11,yc 13 11 12 1,zO 14 11 13,zV 15 14,zY 16 1 15,yr 17 15 16 4,zO 18 15 17] k180_0) (jN [zK 6 0] k180_7)
def c180:=jN [zh 2 0,zK 4 0,zo 5] k180_8
theorem ok180:Ao Tryz.prog 180 c180 40 [.t 4,.t 5]=true:=by kernel_rfl
def w180:=aW k180_0.eq_1 (aW k180_1.eq_1 (aW k180_2.eq_1 (aW k180_3.eq_1 (aW k180_4.eq_1 (aW k180_5.eq_1 (aW k180_7.eq_1 (oW k180_8.eq_1)))))))
def k181_0:=jO 7 (jN [zl 8,zS 4 4 8] jP) jQ
def k181_1:=jN [zF 9 2 2,zM 10 9,zV 11 1,ze 12 224 10 11,zF 13 2 2,zS 1 13 12] (jN [zL 14 4 2,zS 4 4 14] jP)
def k181_2:=jR (jN [zL 5 4 2,zd 6 141 5,zN 7 6] k181_0) k181_1
def c181:=jN [zh 2 0,zg 4] k181_2
theorem ok181:Ao Tryz.prog 181 c181 15 [.c 4 (some 4)]=true:=by kernel_rfl
def w181:=aW k181_0.eq_1 (aW k181_1.eq_1 (oW k181_2.eq_1))
def k182_0:=jO 6 jQ (.region [zV 13 1,zQ 14 13 0,zV 6 14])
def k182_1:=jN [zV 10 1,zd 11 208 10,zN 12 11,zV 6 12] k182_0
def k182_2:=jN [zl 15,zS 4 4 15,zK 5 1] jP
def k182_3:=jN [zl 21,zS 4 4 21,zK 5 7] jP
def k182_4:=jN [zl 26,zS 4 4 26,zK 5 5] jP
def k182_5:=jN [zF 23 3 2,zM 24 23,zk 25 24 0,zV 22 25] (jO 22 k182_4 jQ)
def k182_6:=jN [zF 17 0 2,zM 18 17,zd 19 209 18,zN 20 19,zV 16 20] (jO 16 k182_3 k182_5)
def k182_7:=jN [zL 29 4 2,zS 4 4 29,zK 5 0] jP
def k182_8:=jN [zV 27 1,zF 28 3 2,zS 1 28 27] k182_7
def k182_9:=jR (.block 0 (jR (jN [zL 7 4 2,zd 8 141 7,zN 9 8,zV 6 9] (jO 6 jQ k182_1)) (jO 6 k182_2 k182_6))) k182_8
def c182:=jN [zh 2 0,zg 4,zK 5 0] k182_9
theorem ok182:Ao Tryz.prog 182 c182 30 [.c 4 (some 4),.t 5]=true:=by kernel_rfl
def w182:=aW k182_0.eq_1 (aW k182_1.eq_1 (aW k182_2.eq_1 (aW k182_3.eq_1 (aW k182_4.eq_1 (aW k182_5.eq_1 (aW k182_6.eq_1 (aW k182_7.eq_1 (aW k182_8.eq_1 (oW k182_9.eq_1)))))))))
def k187_0:=jN [yJ 1 0 8,yJ 2 8 8,yJ 3 16 16,yJ 4 32 16,W1 5 (.EO 2 4 [.int .i64 0,.int .i64 0] [(0,(.t 1)),(1,(.t 2)),(2,(.t 3)),(3,(.t 4))]),zV 0 5] jP
def c187:=jN [zp 0] k187_0
theorem ok187:Ao Tryz.prog 187 c187 6 [.t 0]=true:=by kernel_rfl
def k188_0:=jN [zL 5 1 2,zd 6 75 5,zV 7 6,zq 8 7 1 2,zw 9 1 7,zP 10 7 146 8 9,zA 11 7 10,zV 4 11] jP
def c188:=jN [zh 2 0,zo 4] k188_0
theorem ok188:Ao Tryz.prog 188 c188 12 [.t 4]=true:=by kernel_rfl
def k191_0:=jN [zV 3 0,yk 4 3 0,zV 5 4,zY 6 0 5,yr 7 5 6 15,zO 8 5 7,zV 2 8] jP
def c191:=jN [zo 2] k191_0
theorem ok191:Ao Tryz.prog 191 c191 9 [.t 2]=true:=by kernel_rfl
def k194_0:=jN [zV 7 0,zV 8 1,yD 9 7 8,zV 10 9,zw 11 0 10,zw 12 2 10,yS 13 10 11 12,zA 14 10 13,zV 6 14] jP
def c194:=jN [zo 6] k194_0
theorem ok194:Ao Tryz.prog 194 c194 15 [.t 6]=true:=by kernel_rfl
def k195_0:=jN [zV 3 0,zR 4 3 0,zV 5 4,zw 6 0 5,yF 7 5 6 7,zA 8 5 7,zV 2 8] jP
def c195:=jN [zo 2] k195_0
theorem ok195:Ao Tryz.prog 195 c195 9 [.t 2]=true:=by kernel_rfl
def k198_0:=jN [zV 6 0,zd 7 238 6,zV 5 7,zE 8 5 0,zE 9 5 1,zV 3 8,zV 4 9] (jN [zV 10 4,zV 2 10] jP)
def c198:=jN [zo 2] k198_0
theorem ok198:Ao Tryz.prog 198 c198 11 [.t 2]=true:=by kernel_rfl
def k199_0:=jR (.drawn [(0,zF 3 1 1),(1,zM 4 3),(4,zF 7 0 1),(5,zM 8 7),(2,W1 5 (.bin .shl (.c (.int .u64 1)) (.t 4))),(3,W1 6 (.bin .sub (.t 5) (.c (.int .u64 1)))),(6,W1 9 (.bin .shl (.t 6) (.t 8))),(7,zV 2 9)] [[],[0],[1],[2],[],[4],[3,5],[6,0,1,2,3,4,5,6]] 0) jP
def c199:=jN [zh 1 0,ym 2 0] k199_0
theorem ok199:Ao Tryz.prog 199 c199 10 [.t 2]=true:=by kernel_rfl
def k202_0:=jN [zn 22,zS 13 4 22,zo 5] jP
def k202_1:=jN [zF 23 4 2,zM 24 23,zF 25 1 6,zM 26 25,zX 27 13 24 26,zL 28 13 27,zS 13 4 28,yu 5] jP
def k202_2:=jR (jN [zF 13 0 6,zM 14 13,zk 15 14 2,zV 16 15,zz 17 16 2 6,zH 18 16 17,W2 19 16 false (.call 80 [(zI 1),(.t 18)]),ye 20 16 19,zO 21 16 20] (jO 21 k202_0 jQ)) k202_1
def k202_3:=jN [zF 7 3 2,zM 8 7,zV 9 1,zX 10 5 8 9,zF 11 0 10,zL 12 4 11,zg 6,zS 4 6 12] k202_2
def c202:=jN [zh 2 0,zb 4,zo 5] k202_3
theorem ok202:Ao Tryz.prog 202 c202 29 [.c 4 (some 13),.t 5]=true:=by kernel_rfl
def w202:=aW k202_0.eq_1 (aW k202_1.eq_1 (aW k202_2.eq_1 (oW k202_3.eq_1)))
def k203_0:=jO 9 (jN [zK 4 (-1)] jP) jQ
def k203_1:=jN [zF 10 2 2,zM 11 10,zV 12 1,z6 13 11 12,zV 4 13] jP
def k203_2:=jR (jN [zV 5 1,zF 6 1 2,zM 7 6,jq 8 7,yD 9 5 8] k203_0) k203_1
def c203:=jN [zh 2 0,zK 4 0] k203_2
theorem ok203:Ao Tryz.prog 203 c203 14 [.t 4]=true:=by kernel_rfl
def w203:=aW k203_0.eq_1 (aW k203_1.eq_1 (oW k203_2.eq_1))
def k207_0:=jN [zV 7 0,zV 8 1,yD 9 7 8,zV 10 9,zw 11 0 10,zw 12 2 10,yS 13 10 11 12,zA 14 10 13,zV 6 14] jP
def c207:=jN [zo 6] k207_0
theorem ok207:Ao Tryz.prog 207 c207 15 [.t 6]=true:=by kernel_rfl
def k208_0:=jN [zV 3 0,zR 4 3 0,zV 5 4,zw 6 0 5,yF 7 5 6 65535,zA 8 5 7,zV 2 8] jP
def c208:=jN [zo 2] k208_0
theorem ok208:Ao Tryz.prog 208 c208 9 [.t 2]=true:=by kernel_rfl
def k209_0:=jN [zV 3 0,zQ 4 3 3,zV 5 4,zY 6 0 5,yw 7 5 6 4,zO 8 5 7,zV 2 8] jP
def c209:=jN [zo 2] k209_0
theorem ok209:Ao Tryz.prog 209 c209 9 [.t 2]=true:=by kernel_rfl
def k210_0:=jN [zF 7 0 1,zM 8 7,zF 9 3 1,zM 10 9,zF 11 4 1,zM 12 11,yG 13 8 3 10 4 12,zS 13 2 13] jP
def k210_1:=jN [zF 16 0 1,zM 17 16,zF 18 1 1,zM 19 18,zF 20 2 1,zM 21 20,yG 22 17 1 19 2 21,zS 13 2 22] jP
def k210_2:=jN [zF 28 0 1,zM 29 28,zx 30 29,zS 13 2 30] jP
def k210_3:=jN [zF 31 0 1,zM 32 31,zF 33 8 1,zM 34 33,zF 35 6 1,zM 36 35,zF 37 5 1,zM 38 37,W1 39 (.build [.int .i64 0,.int .i64 0,.int .i64 0,.int .i64 0,.int .i64 0,.int .i64 0,.int .i64 0,.bool false,.int .u64 0,.int .u64 0,.int .u64 0,.int .u64 0,.int .u64 0] [(0,1,(.t 32)),(7,1,(.c (.bool true))),(8,1,(.t 34)),(6,1,(.t 36)),(5,1,(.t 38))]),zS 13 2 39] jP
def k210_4:=jR (jN [zF 25 7 1,zM 26 25,zN 27 26] (jO 27 k210_2 jQ)) k210_3
def k210_5:=jN [zF 42 0 1,zM 43 42,zF 44 8 1,zM 45 44,yL 46 43 8 1 45,zS 13 2 46] jP
def k210_6:=jN [zF 49 0 1,zM 50 49,zF 51 9 1,zL 52 4 51,yL 53 50 9 4 52,zS 13 2 53] jP
def k210_7:=jN [zQ 48 4 5,zV 47 48] (jO 47 k210_6 jQ)
def k210_8:=jN [zQ 41 4 4,zV 40 41] (jO 40 k210_5 k210_7)
def k210_9:=jN [zQ 24 4 3,zV 23 24] (jO 23 k210_4 k210_8)
def k210_10:=jN [zQ 15 4 2,zV 14 15] (jO 14 k210_1 k210_9)
def k210_11:AD:= .block 0 (jN [zQ 6 4 1,zV 5 6] (jO 5 k210_0 k210_10))
def k210_12:=jR (jN [zF 3 0 1,zM 4 3] k210_11) (jN [zn 54,zS 13 2 54] jP)
def c210:=jN [zh 1 0,zb 2] k210_12
theorem ok210:Ao Tryz.prog 210 c210 55 [.c 2 (some 13)]=true:=by kernel_rfl
def w210:=aW k210_0.eq_1 (aW k210_1.eq_1 (aW k210_2.eq_1 (aW k210_3.eq_1 (aW k210_4.eq_1 (aW k210_5.eq_1 (aW k210_6.eq_1 (aW k210_7.eq_1 (aW k210_8.eq_1 (aW k210_9.eq_1 (aW k210_10.eq_1 (aW k210_11.eq_1 (oW k210_12.eq_1))))))))))))
def k211_0:=jN [zV 7 0,zV 8 1,yD 9 7 8,zV 10 9,zw 11 0 10,zw 12 2 10,yS 13 10 11 12,zA 14 10 13,zV 6 14] jP
def c211:=jN [zo 6] k211_0
theorem ok211:Ao Tryz.prog 211 c211 15 [.t 6]=true:=by kernel_rfl
def k212_0:AD:= .region [zL 41 5 3,zF 42 0 7,zF 43 1 42,zM 44 43,zV 45 2,zm 46 212 41 44 45]
def k212_1:=jN [zF 21 0 7,zF 22 0 21,zM 23 22,zQ 24 23 2,zV 25 24,zu 26 25 4 3,zr 27 25 26,zw 28 1 25,z7 29 25 13 27 28,zq 30 25 13 29,zw 31 6 25,zP 32 25 251 30 31,zA 33 25 32,
 zV 34 33,zq 35 34 5 3,zu 36 34 0 7,zu 37 34 1 36,zr 38 34 37,zP 39 34 142 35 38,zA 40 34 39] (jO 40 k212_0 jQ)
def k212_2:=jR (.block 1 (jN [zV 18 16,zX 19 5 14 16,zL 20 5 19,zW 7,zV 6 18,zS 5 7 20] k212_1)) (.region [zc 47 16,zV 16 47])
def b212_3:=jN [zj 17 16 15] (jR (jO 17 jQ (.exit 0)) k212_2)
def k212_4:=jN [zF 13 3 3,zM 14 13,zi 15 14,zK 16 0] (.block 0 (.loop b212_3))
def k212_5:=jN [zV 11 2,zV 12 1,⟨none,.ZR (.t 11) (.t 12) (.c (.bool true)),none⟩] k212_4
def k212_6:=jR (jN [zV 8 2,zV 9 1,W1 10 (.Wb (.bool false) (.t 8) (.t 9))] (jO 10 jP jQ)) k212_5
def c212:=jN [zh 3 0] k212_6
theorem ok212:Ao Tryz.prog 212 c212 48 []=true:=by kernel_rfl
def w212:=aW k212_0.eq_1 (aW k212_1.eq_1 (aW k212_2.eq_1 (aW k212_4.eq_1 (aW k212_5.eq_1 (oW k212_6.eq_1)))))
def k213_0:=jN [zF 5 4 2,zM 6 5,W1 7 (.YY 252 [(.t 3)]),ze 8 222 6 7,zV 4 8] jP
def c213:=jN [zh 2 0,zh 3 1,zK 4 0] k213_0
theorem ok213:Ao Tryz.prog 213 c213 9 [.t 4]=true:=by kernel_rfl
def k214_0:=jO 5 (jN [zK 2 0] jP) jQ
def k214_1:=jR (jN [zV 3 0,zd 4 195 3,zN 5 4] k214_0) (jN [zV 6 0,zV 2 6] jP)
def c214:=jN [zK 2 0] k214_1
theorem ok214:Ao Tryz.prog 214 c214 7 [.t 2]=true:=by kernel_rfl
def w214:=aW k214_0.eq_1 (oW k214_1.eq_1)
def k215_0:=jO 18 (jN [zK 4 (-1)] jP) jQ
def k215_1:=jN [zL 19 5 2,zV 20 1,ze 21 213 19 20,zV 4 21] jP
def k215_2:=jR (jN [zL 5 5 2,zd 6 15 5,zN 7 6,zV 8 7,zY 9 1 8,yc 10 8 9 0,zO 11 8 10,zV 12 11,zY 13 1 12,zz 14 12 3 2,zH 15 12 14,zT 16 12 15,yx 17 12 13 16,
 zO 18 12 17] k215_0) k215_1
def c215:=jN [zh 2 0,zK 4 0] k215_2
theorem ok215:Ao Tryz.prog 215 c215 22 [.t 4]=true:=by kernel_rfl
def w215:=aW k215_0.eq_1 (aW k215_1.eq_1 (oW k215_2.eq_1))
def k221_0:=jO 8 (jN [zp 4] jP) jQ
def k221_1:=jN [zL 9 1 2,zV 10 1,ze 11 235 9 10,zV 4 11] jP
def k221_2:=jR (jN [zL 5 1 2,zV 6 1,ze 7 188 5 6,zN 8 7] k221_0) k221_1
def c221:=jN [zh 2 0,zp 4] k221_2
theorem ok221:Ao Tryz.prog 221 c221 12 [.t 4]=true:=by kernel_rfl
def w221:=aW k221_0.eq_1 (aW k221_1.eq_1 (oW k221_2.eq_1))
def k223_0:=jN [zF 3 0 1,zM 4 3,zQ 5 4 0,zV 2 5] jP
def c223:=jN [zh 1 0,zo 2] k223_0
theorem ok223:Ao Tryz.prog 223 c223 6 [.t 2]=true:=by kernel_rfl
def k224_0:=jN [zV 5 0,zd 6 214 5,zV 7 1,zd 8 214 7,W1 9 (.bin .and (.t 6) (.t 8)),zV 4 9] jP
def c224:=jN [zK 4 0] k224_0
theorem ok224:Ao Tryz.prog 224 c224 10 [.t 4]=true:=by kernel_rfl
def k225_0:=jN [zL 7 5 3,zd 8 15 7,zV 9 8,zw 10 2 9,yT 11 9 10,zA 12 9 11,zV 13 12,zw 14 2 13,zu 15 13 3 3,zr 16 13 15,yB 17 13 16,yo 18 13 14 17,zA 19 13 18,
 zV 20 19,zq 21 20 5 3,zw 22 1 20,zw 23 2 20,jf 24 20 145 21 22 23,zA 25 20 24,zV 6 25] jP
def c225:=jN [zh 3 0,zo 6] k225_0
theorem ok225:Ao Tryz.prog 225 c225 26 [.t 6]=true:=by kernel_rfl
def k226_0:=jN [W1 30 (.build [.lit (.slice none 0 0)] []),zS 1 6 30,zo 7] jP
def k226_1:AD:= .region [zF 41 0 3,zM 42 41,zV 43 9,zV 44 2,zX 45 1 42 43,zS 1 45 44]
def k226_2:=jR (.block 1 (jN [zX 39 1 35 37,zM 40 39,zV 9 40] k226_1)) (.region [zc 46 37,zV 37 46])
def b226_3:=jN [zj 38 37 36] (jR (jO 38 jQ (.exit 0)) k226_2)
def k226_4:=jN [zL 60 1 3,zS 1 6 60,yu 7] jP
def k226_5:=jN [zF 56 0 3,zM 57 56,zV 58 1,zX 59 1 57 58,yW 59 (-2)] k226_4
def k226_6:=jR (.drawn [(0,zF 47 0 3),(1,zM 48 47),(3,zF 50 0 3),(4,zM 51 50),(5,zV 52 1),(6,zX 53 1 51 52),(7,zM 54 53),(2,zV 49 2),(8,zX 55 1 48 49),(9,zS 1 55 54)] [[],[0],[],[],[3],[],[4,5],[6],[1,2,0,1,2,3,4,5,6,7],[8,7,0,1,2,3,4,5,6,7]] 0) k226_5
def k226_7:=jR (jN [zL 33 1 3,zV 34 1,ze 35 235 33 34,zi 36 35,zK 37 0] (.block 0 (.loop b226_3))) k226_6
def k226_8:=jN [zL 31 1 3,zd 32 255 31,zS 1 3 32] k226_7
def k226_9:=jR (jN [zL 10 1 3,zV 11 1,ze 12 188 10 11,zN 13 12,zV 14 13,zY 15 2 14,yc 16 14 15 0,zO 17 14 16,zV 18 17,zY 19 2 18,zz 20 18 0 3,zH 21 18 20,zT 22 18 21,
 yx 23 18 19 22,zO 24 18 23,zV 25 24,yl 26 25 1 3,zY 27 2 25,jv 28 25 146 26 27,zO 29 25 28] (jO 29 k226_0 jQ)) k226_8
def c226:=jN [zh 3 0,yP 6,zo 7] k226_9
theorem ok226:Ao Tryz.prog 226 c226 61 [.c 6 (some 1),.t 7]=true:=by kernel_rfl
def w226:=aW k226_0.eq_1 (aW k226_1.eq_1 (aW k226_2.eq_1 (aW k226_4.eq_1 (aW k226_5.eq_1 (aW k226_6.eq_1 (aW k226_7.eq_1 (aW k226_8.eq_1 (oW k226_9.eq_1))))))))
def k235_0:AD:= .region [zV 19 5,zV 20 6,yt 21 20,yC 22 1 8 19 21,zV 5 22]
def k235_1:=jN [zV 16 7,zV 17 1,yy 18 16 17] (jO 18 k235_0 jQ)
def k235_2:=jR (.block 1 (jN [zV 13 11,zX 14 1 9 11,zM 15 14,zV 6 13,zV 7 15] k235_1)) (.region [zc 23 11,zV 11 23])
def b235_3:=jN [zj 12 11 10] (jR (jO 12 jQ (.exit 0)) k235_2)
def k235_4:=jR (jN [zF 8 0 2,zM 9 8,zi 10 9,zK 11 0] (.block 0 (.loop b235_3))) (jN [zV 24 5,zV 4 24] jP)
def c235:=jN [zh 2 0,zp 4] (jN [zp 5] k235_4)
theorem ok235:Ao Tryz.prog 235 c235 25 [.t 4]=true:=by kernel_rfl
def w235:=aW k235_0.eq_1 (aW k235_1.eq_1 (aW k235_2.eq_1 (oW k235_4.eq_1)))
def k238_0:=jO 40 (jN [ym 2 0,zo 3] jP) jQ
def k238_1:AD:= .region [zV 41 4,zL 42 2 6,zd 43 199 42,W1 44 (.bin .or (.t 41) (.t 43)),zV 4 44]
def k238_2:=jR (jN [zF 13 0 6,zM 14 13,yk 15 14 0,zV 16 15,zz 17 16 0 6,zH 18 16 17,W2 19 16 false (.bin .geq (.t 18) (zI 64)),zO 20 16 19,zV 21 20,zz 22 21 1 6,zH 23 21 22,yc 24 21 23 1,
 zO 25 21 24,zV 26 25,zz 27 26 1 6,zH 28 26 27,zz 29 26 0 6,zH 30 26 29,W2 31 26 false (.bin .sub (zI 64) (.t 30)),W2 32 26 false (.bin .gtr (.t 28) (.t 31)),zO 33 26 32,zV 34 33,zY 35 4 34,yl 36 34 2 6,
 yp 37 34 199 36,W2 38 34 false (.bin .and (.t 35) (.t 37)),W2 39 34 false (.bin .neq (.t 38) (.c (.int .u64 0))),zO 40 34 39] k238_0) k238_1
def k238_3:=jR (.block 1 (jN [zX 11 2 7 9,zL 12 2 11,jM 6,zS 2 6 12] k238_2)) (.region [zc 45 9,zV 9 45])
def b238_4:=jN [zj 10 9 8] (jR (jO 10 jQ (.exit 0)) k238_3)
def k238_5:=jN [zV 46 4,zV 2 46,yu 3] jP
def k238_6:=jR (jN [zV 7 0,zi 8 7,zK 9 0] (.block 0 (.loop b238_4))) k238_5
def c238:=jN [ym 2 0,zo 3] (jN [ym 4 0] k238_6)
theorem ok238:Ao Tryz.prog 238 c238 47 [.t 2,.t 3]=true:=by kernel_rfl
def w238:=aW k238_0.eq_1 (aW k238_1.eq_1 (aW k238_2.eq_1 (aW k238_3.eq_1 (aW k238_5.eq_1 (oW k238_6.eq_1)))))
def k251_0:=jR (.drawn [(0,zF 5 0 2),(1,zM 6 5),(2,zQ 7 6 2),(3,zV 8 7),(5,zu 10 8 2 2),(6,zr 11 8 10),(4,zw 9 1 8),(7,js 12 8 9 11),(8,zA 13 8 12),(9,zV 14 13),(11,zu 16 14 2 2),(12,zr 17 14 16),
 (13,zu 18 14 1 2),(14,zr 19 14 18),(10,zw 15 1 14),(15,W2 20 14 true (.bin .shl (zI 1) (.t 19))),(16,yX 21 14 17 20),(17,yo 22 14 15 21),(18,zA 23 14 22),(19,zV 4 23)]
 [[],[0],[1],[2],[3],[3],[5,3],[4,6,3],[3,7],[8,3],[9],[9],[11,9],[9],[13,9],[14,9],[12,15,9],[10,16,9],[9,17],[18,9,0,1,2,3,4,5,6,7,8,9,10,11,12,13,14,15,16,17,18]] 0) jP
def c251:=jN [zh 2 0,zo 4] k251_0
theorem ok251:Ao Tryz.prog 251 c251 24 [.t 4]=true:=by kernel_rfl
def k252_0:=jN [zL 4 13 2,zM 5 1,ze 6 251 4 5,zV 3 6] jP
def c252:=jN [zh 2 0,zo 3] k252_0
theorem ok252:Ao Tryz.prog 252 c252 7 [.t 3]=true:=by kernel_rfl
def k255_0:=jN [zF 3 0 1,zM 4 3,zd 5 204 4,jD 6 5,zS 1 2 6] jP
def c255:=jN [zh 1 0,yP 2] k255_0
theorem ok255:Ao Tryz.prog 255 c255 7 [.c 2 (some 1)]=true:=by kernel_rfl
end Go.Proofs.YtlaipllgmddkiaaGreat.Ax
