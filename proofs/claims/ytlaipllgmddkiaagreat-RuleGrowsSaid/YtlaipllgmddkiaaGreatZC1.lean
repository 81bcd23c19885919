/- Texts put behind one another: AxCBase, AxCLib. Conditions: none. -/
import Derived.Test.YtlaipllgmddkiaaGreatAxEnterZ
import Derived.Test.YtlaipllgmddkiaaGreatProg
import Derived.KernelRfl
set_option linter.all false
open Go.Proofs.Tryz renaming prog -> Qa
namespace Go.Proofs.YtlaipllgmddkiaaGreat.Ax
open Go Go.Ax
abbrev zf(a:Nat):A6:=W1 a (.new [.int .i64 0,.int .i64 0,.int .i64 0,.lit (.slice none 0 0),.lit (.slice none 0 0)])
abbrev zg(a:Nat):A6:=W1 a (.new [.int .i64 0,.int .i64 0,.int .i64 0,.int .i64 0,.int .i64 0,.int .i64 0,.int .i64 0,.bool false,.int .u64 0,.int .u64 0,.int .u64 0,.int .u64 0,.int .u64 0])
abbrev zh(a b:Nat):A6:=W1 a (.bin .add (.t b) (zI 1))
abbrev zi(a b c d:Nat):A6:=W1 a (.call b [(.t c),(.t d)])
abbrev zj(a b c:Nat):A6:=W1 a (.call b [(.t c)])
abbrev zk(a b:Nat):A6:=W1 a (.box (.t b))
abbrev zl(a:Nat)(b:Int):A6:=W1 a (.build [.int .i64 0,.int .u64 0,.int .i64 0] [(0,1,(zI b))])
abbrev zm(a b c:Nat):A6:=W1 a (.bin .lss (.t b) (.t c))
abbrev zn(a b:Nat):A6:=W1 a (.len false (.t b))
abbrev zo(a:Nat):A6:=W1 a (.new [.int .i64 0,.int .i64 0,.int .i64 0,.int .i64 0])
abbrev zp(a b c d e:Nat):A6:=W1 a (.call b [(.t c),(.t d),(.t e)])
abbrev zq(a b c:Nat):A6:=W1 a (.build [.int .i64 0,.int .u64 0,.int .i64 0] [(b,1,(.t c))])
abbrev zr(a:Nat):A6:=W1 a (.build [.int .i64 0,.int .i64 0,.int .i64 0,.int .i64 0,.int .i64 0,.int .i64 0,.int .i64 0,.bool false,.int .u64 0,.int .u64 0,.int .u64 0,.int .u64 0,.int .u64 0] [])
abbrev zt(a:Nat):A6:=W1 a (.mv (.c (.lit (.slice none 0 0))))
abbrev zu(a:Nat):A6:=zB a false
abbrev zv(a b:Nat)(c:Int):A6:=W1 a (.bin .neq (.t b) (zI c))
abbrev zw(a:Nat):A6:=W1 a (.new [.int .i64 0,.int .u64 0,.int .i64 0])
abbrev zx(a b c d:Nat):A6:=W2 a b true (.ld (some c) (.t d))
abbrev zy(a:Nat):A6:=W1 a (.build [.int .i64 0,.int .i64 0,.int .i64 0,.int .i64 0] [])
abbrev zz(a:Nat):A6:=W1 a (.new [.int .i64 0,.int .i64 0,.int .i64 0,.int .i64 0,.int .i64 0])
abbrev zC(a b c d:Nat):A6:=zG a b true c d
abbrev zH(a b c d:Nat):A6:=W2 a b false (.pick (.t c) (.t d) (.c (.bool false)))
abbrev zJ(a b c:Nat):A6:=zD a b true c
abbrev zP(a b c d:Nat):A6:=zG a b false c d
abbrev zR(a b c:Nat):A6:=zU a b c false
abbrev zT(a b c d:Nat):A6:=W2 a b false (.ld (some c) (.t d))
abbrev zW(a b c d e:Nat):A6:=W2 a b true (.call c [(.t d),(.t e)])
abbrev zY(a b c:Nat)(d:Int):A6:=W2 a b true (.bin .neq (.t c) (zI d))
abbrev zZ(a b c:Nat):A6:=zU a b c true
abbrev z2(a b:Nat)(c:Int):A6:=W1 a (.bin .geq (.t b) (zI c))
abbrev z6(a b c:Nat):A6:=zD a b false c
abbrev z7(a b c:Nat):A6:=W2 a b false (.len false (.t c))
abbrev z8(a b:Nat)(c:Int):A6:=W1 a (.bin .lss (.t b) (zI c))
abbrev ya(a:Nat):A6:=W1 a (.mv (.c (.int .u64 0)))
abbrev yb(a b:Nat):A6:=W1 a (.EO 1 1 [.int .i64 0] [(0,(.t b))])
abbrev yc(a b c:Nat):A6:=W1 a (.bin .add (.t b) (.t c))
abbrev yd(a b c:Nat):A6:=W2 a b false (.un .not (.t c))
abbrev ye(a b c d:Nat):A6:=W2 a b false (.bin .geq (.t c) (.t d))
abbrev yf(a b c:Nat)(d:Int):A6:=W2 a b false (.bin .lss (.t c) (zI d))
abbrev yg(a b c:Nat)(d:Int):A6:=W2 a b false (.bin .neq (.t c) (zI d))
abbrev yh(a b c:Nat):A6:=W1 a (.build [.int .i64 0,.int .i64 0,.int .i64 0,.int .i64 0,.int .i64 0] [(0,4,(.t b)),(4,1,(.t c))])
abbrev yi(a b c:Nat)(d e:Int):A6:=W1 a (.call b [(.t c),(zI d),(zI e)])
abbrev yj(a:Nat):A6:=W1 a (.new [.lit (.slice none 0 0)])
abbrev yk(a b c:Nat):A6:=W2 a b true (.bin .eql (.t c) (zI 0))
abbrev yl(a b c d e f:Nat):A6:=W1 a (.build [.int .i64 0,.int .i64 0,.int .i64 0,.int .i64 0,.int .i64 0,.int .i64 0,.int .i64 0,.bool false,.int .u64 0,.int .u64 0,.int .u64 0,.int .u64 0,.int .u64 0] [(0,1,(.t b)),(c,1,(.t d)),(e,1,(.t f))])
abbrev ym(a b:Nat):A6:=W1 a (.build [.int .i64 0,.int .i64 0,.int .i64 0,.int .i64 0,.int .i64 0,.int .i64 0,.int .i64 0,.bool false,.int .u64 0,.int .u64 0,.int .u64 0,.int .u64 0,.int .u64 0] [(0,1,(.t b))])
abbrev yn(a b c d:Nat):A6:=W2 a b true (.pick (.t c) (.c (.bool true)) (.t d))
abbrev yo(a b c:Nat):A6:=W1 a (.bin .eql (.t b) (.t c))
abbrev yp(a:Nat)(b c:Int):A6:=W1 a (.build [.int .i64 0,.int .i64 0] [(0,1,(zI b)),(1,1,(zI c))])
abbrev yq(a b c d e:Nat):A6:=W2 a b false (.A9 c (.t d) (.t e))
abbrev yr(a b c d:Nat):A6:=W2 a b true (.call c [(.t d)])
abbrev yt(a b:Nat):A6:=W1 a (.len true (.t b))
abbrev yu(a b c d e:Nat):A6:=W1 a (.build [.int .i64 0,.int .i64 0,.int .i64 0,.int .i64 0,.int .i64 0,.int .i64 0,.int .i64 0,.bool false,.int .u64 0,.int .u64 0,.int .u64 0,.int .u64 0,.int .u64 0] [(0,1,(.t b)),(c,d,(.t e))])
abbrev yw(a b c d:Nat):A6:=W2 a b false (.call c [(.t d)])
abbrev yx:A6:=W2 13 10 true (.bin .leq (.t 11) (.t 12))
abbrev yy(a:Nat):A6:=zB a true
abbrev yz(a:Nat):A6:=W1 a (.build [.int .i64 0,.int .u64 0,.int .i64 0] [])
abbrev yA(a b c d:Nat):A6:=W2 a b true (.bin .lss (.t c) (.t d))
abbrev yB(a b c:Nat):A6:=W1 a (.bin .geq (.t b) (.t c))
abbrev yC(a b:Nat)(c:Int):A6:=W1 a (.bin .gtr (.t b) (zI c))
abbrev yD(a b c d e:Nat):A6:=W1 a (.app b c (.t d) (.t e))
abbrev yE(a b c:Nat):A6:=W2 a b true (.len false (.t c))
abbrev yF(a b c d:Nat):A6:=W1 a (.build [.int .i64 0,.int .i64 0,.int .i64 0,.lit (.slice none 0 0),.lit (.slice none 0 0)] [(0,3,(.t b)),(3,1,(.t c)),(4,1,(.t d))])
abbrev yG(a b c:Nat)(d:Int):A6:=W2 a b false (.bin .gtr (.t c) (zI d))
abbrev yH(a b c:Nat):A6:=W1 a (.FA (.t b) (.t c))
abbrev yI(a b c:Nat)(d:Int):A6:=W1 a (.A9 b (.t c) (zI d))
abbrev yJ(a:Nat)(b:Int):A6:=⟨none,.st 1 (.t a) (zI b),none⟩
abbrev yK(a b:Nat):A6:=W1 a (.bin .shl (zI 1) (.t b))
abbrev yL(a b c:Nat):A6:=W2 a b true (.un .not (.t c))
abbrev yM(a:Nat):A6:=W1 a (.build [.int .i64 0,.lit (.slice none 0 0),.lit (.slice none 0 0),.int .i64 0,.int .i64 0,.int .u64 0] [])
abbrev yN(a:Nat)(b:Int):A6:=W1 a (.mv (.c (.int .u32 b)))
abbrev yO(a:Nat):A6:=W1 a (.new [.int .i64 0,.lit (.slice none 0 0),.lit (.slice none 0 0),.int .i64 0,.int .i64 0,.int .u64 0])
abbrev yP(a b c d e f:Nat):A6:=W1 a (.call b [(.t c),(.t d),(.t e),(.t f)])
abbrev yQ(a:Nat)(b c:Int):A6:=W1 a (.build [.int .i64 0,.int .i64 0,.int .i64 0,.int .i64 0] [(0,1,(zI b)),(1,1,(zI c)),(2,1,(zI 7))])
abbrev yR(a b c:Nat)(d:Int):A6:=W2 a b false (.bin .eql (.t c) (zI d))
abbrev yS(a b c d:Nat):A6:=W2 a b true (.bin .eql (.t c) (.t d))
abbrev yT(a b:Nat):A6:=W1 a (.bin .mul (.t b) (.c (.int .u32 16777619)))
abbrev yU(a b c d e:Nat):A6:=W2 a b false (.call c [(.t d),(.t e)])
abbrev yV(a b c:Nat):A6:=W2 a b false (.bin .sub (.t c) (zI 1))
abbrev yW(a b c:Nat):A6:=W1 a (.bin .sub (.t b) (.t c))
abbrev yX:A6:=W1 16 (.Ha (.t 11) [(.t 15)])
abbrev yY(a b:Nat):A6:=W1 a (.bin .sub (.t b) (zI 1))
abbrev yZ(a b c:Nat):A6:=W1 a (.build [.int .i64 0,.int .u64 0,.int .i64 0] [(1,1,(.t b)),(2,1,(.t c))])
abbrev ja(a b c d:Nat):A6:=W2 a b false (.bin .neq (.t c) (.t d))
abbrev jb(a b c d:Nat)(e f:Int):A6:=W2 a b true (.call c [(.t d),(zI e),(zI f)])
abbrev jc:A6:=W1 4 (.isNil false 1 (.t 3))
abbrev jd(a b c:Nat):A6:=W1 a (.bin .neq (.t b) (.t c))
abbrev je(a b c:Nat):A6:=W1 a (.eqs true [0,0,0,0,0,0,0,1,0,0,0,0,0] (.t b) (.t c))
abbrev jf(a b:Nat):A6:=W1 a (.call b [])
abbrev jg(a b c d e:Nat):A6:=W2 a b false (.call c [(.t d),(zI 0),(.t e)])
abbrev jh(a b:Nat):A6:=W1 a (.Hp .u32 (.t b))
abbrev ji(a b:Nat):A6:=W1 a (.Hp .u64 (.t b))
abbrev jj(a b:Nat)(c:Int):A6:=W1 a (.FA (.t b) (zI c))
abbrev jk(a:Nat):A6:=⟨none,.st 1 (.t a) (.c (.bool true)),none⟩
abbrev jl(a b:Nat):A6:=W1 a (.build [.lit (.slice none 0 0)] [(0,1,(.t b))])
abbrev jm(a b:Nat):A6:=W1 a (.bin .add (zI 2) (.t b))
abbrev jn(a:Nat):A6:=W1 a (.new (.replicate 256 (.bool false)))
abbrev jo(a b c d:Nat):A6:=W1 a (.U7 b 1 (.t c) (.t d))
abbrev jp(a b:Nat):A6:=W1 a (.bin .eql (.t b) (.c (.int .i32 65533)))
abbrev jq(a b c d:Nat):A6:=W2 a b true (.MG .eql (.t c) (.t d))
abbrev jr(a b c d:Nat):A6:=W2 a b true (.bin .add (.t c) (.t d))
abbrev js(a b c:Nat)(d:Int):A6:=W2 a b true (.bin .leq (.t c) (zI d))
abbrev jt(a:Nat):A6:=W1 a (.new [.int .i64 0,.int .i64 0])
abbrev ju(a b c d e f:Nat):A6:=W2 a b true (.call c [(.t d),(.t e),(.t f)])
abbrev za(l:List A6)(c:AD):AD:= .seq (.region l) c
abbrev zb(n:Nat)(a b:AD):AD:= .cond (.t n) a b
abbrev zc:AD:= .ret
abbrev zd:AD:= .skip
abbrev ze(a b:AD):AD:= .seq a b
set_option maxRecDepth 100000
abbrev k15_1:=za [zL 25 5 1,zj 26 71 25,zV 27 26,zx 28 27 5 1,yr 29 27 72 28,zA 30 27 29,zV 31 30,zx 32 31 5 1,yr 33 31 73 32,zA 34 31 33,zV 35 34,zx 36 35 5 1,yr 37 35 74 36,yL 38 35 37,zA 39 35 38,zV 40 39,zx 41 40 5 1,yr 42 40 76 41,yr 43 40 75 42,zA 44 40 43,zV 45 44,zx 46 45 5 1,yr 47 45 77 46,zA 48 45 47,zV 2 48] zc
abbrev k15_2:=ze (za [zF 3 0 1,zL 4 3 3,zj 5 70 4,zN 6 5,zV 7 6,zP 8 7 3 1,z6 9 7 8,z7 10 7 9,zP 11 7 0 1,zP 12 7 1 11,z6 13 7 12,ja 14 7 10 13,zO 15 7 14,zV 16 15,zP 17 16 4 1,z6 18 16 17,z7 19 16 18,zP 20 16 0 1,zP 21 16 2 20,z6 22 16 21,ja 23 16 19 22,zO 24 16 23] (zb 24 (za [zu 2] zc) zd)) k15_1
abbrev c15:=za [zk 1 0,zu 2] k15_2
theorem ok15:Ao Qa 15 c15 49 [.t 2]=true:=by kernel_rfl
abbrev k16_0:=ze (.drawn [(0,zF 3 0 1),(1,zL 4 3 3),(2,zF 5 3 1),(3,zM 6 5),(5,zF 8 4 1),(6,zM 9 8),(4,zj 7 78 6),(7,zj 10 79 9),(8,yF 11 4 7 10),(9,zS 5 2 11)] [[],[0],[],[2],[3],[],[5],[6,4],[1,4,7],[8,7,0,1,2,3,4,5,6,7,8]] 0) zc
abbrev c16:=za [zk 1 0,zf 2] k16_0
theorem ok16:Ao Qa 16 c16 12 [.c 2 (some 5)]=true:=by kernel_rfl
abbrev k23_0:=za [zF 5 0 2,zL 6 3 5,zF 7 0 3,zL 8 3 7,W1 9 (.eqs false [0,0,0] (.t 6) (.t 8)),zV 10 9,zC 11 10 3 2,zJ 12 10 11,zC 13 10 3 3,zJ 14 10 13,zW 15 10 96 12 14,zA 16 10 15,zV 17 16,zC 18 17 4 2,zJ 19 17 18,zC 20 17 4 3,zJ 21 17 20,zW 22 17 97 19 21,zA 23 17 22,zV 4 23] zc
abbrev c23:=za [zk 2 0,zk 3 1,zu 4] k23_0
theorem ok23:Ao Qa 23 c23 24 [.t 4]=true:=by kernel_rfl
abbrev k50_0:=za [zV 31 4,W1 32 (.MG .neq (.t 31) (.c (.str []))),zV 33 32,zC 34 33 1 1,zx 35 33 1 34,yr 36 33 116 35,zA 37 33 36,zV 38 37,zZ 39 5 38,zA 40 38 39,zV 41 40,zx 42 41 6 1,yr 43 41 118 42,zA 44 41 43,zV 45 44,zC 46 45 5 1,zJ 47 45 46,W2 48 45 true (.bin .eql (.t 47) (.c (.int .u64 0))),zZ 49 48 45,zR 50 4 49,W2 51 49 false (.call 115 [(.t 50),(.c (.str [87]))]),yn 52 45 49 51,zA 53 45 52,zV 2 53] zc
abbrev k50_1:=za [zF 12 2 1,zF 13 0 12,zM 14 13,zn 15 14,zQ 16 15 0,zV 17 16,zZ 18 4 17,W2 19 17 true (.call 115 [(.t 18),(.c (.str [66]))]),yL 20 17 19,zA 21 17 20,zV 22 21,zP 23 22 2 1,zT 24 22 1 23,yw 25 22 116 24,zR 26 25 22,zZ 27 4 26,W2 28 26 true (.call 117 [(.t 27),(.c (.str [66,98]))]),zH 29 22 26 28,zO 30 22 29,zV 5 30] k50_0
abbrev c50:=za [zk 1 0,zu 2] (za [zF 7 0 1,zM 8 7,zj 9 114 8,zV 6 9,zE 10 6 0,zE 11 6 1,zV 3 10,zV 4 11] k50_1)
theorem ok50:Ao Qa 50 c50 54 [.t 2]=true:=by kernel_rfl
abbrev k55_3:=ze (za [zL 47 6 5,zj 48 53 47,zV 49 0,zi 50 127 48 49,zN 51 50] (zb 51 (za [yM 52,zS 6 2 52,zu 3] zc) zd)) (za [zL 53 6 5,zS 6 2 53,yy 3] zc)
abbrev k55_5:=za [zV 32 0,yI 33 1 32 1,zM 34 33,zj 35 126 34,zV 31 35,zE 36 31 0,zE 37 31 1,zF 38 1 5,zS 1 38 36] (za [zV 40 0,yI 41 1 40 2,zM 42 41,zj 43 126 42,zV 39 43,zE 44 39 0,zE 45 39 1,zF 46 2 5,zS 1 46 44] k55_3)
abbrev k55_6:=ze (.drawn [(0,zV 15 4),(1,yI 16 1 15 0),(2,zM 17 16),(4,zV 19 4),(5,yI 20 1 19 1),(6,zM 21 20),(8,zV 23 4),(9,yI 24 1 23 2),(10,zM 25 24),(12,zV 27 0),(13,yI 28 1 27 3),(14,zM 29 28),(3,W1 18 (.Hp .i64 (.t 17))),(7,W1 22 (.Hp .i64 (.t 21))),(11,W1 26 (.Hp .i64 (.t 25))),(15,W1 30 (.build [.int .i64 0,.lit (.slice none 0 0),.lit (.slice none 0 0),.int .i64 0,.int .i64 0,.int .u64 0] [(0,1,(.t 18)),(3,1,(.t 22)),(4,1,(.t 26)),(5,1,(.t 29))])),(16,W1 5 (.born 0 (.new [.int .i64 0,.lit (.slice none 0 0),.lit (.slice none 0 0),.int .i64 0,.int .i64 0,.int .u64 0]))),(17,zS 6 5 30)] [[],[0],[1],[2],[],[4],[5],[6],[],[8],[9],[10],[],[12],[13],[3,7,11,14],[],[16,15,0,1,2,3,4,5,6,7,8,9,10,11,12,13,14,15,16]] 1) k55_5
abbrev k55_7:=ze (.drawn [(0,zV 10 0),(1,yI 11 1 10 0),(2,zM 12 11),(3,jf 13 122),(4,zi 14 125 12 13),(5,zV 4 14)] [[],[0],[1],[],[2,3,3],[4,4,0,1,2,3,4]] 0) k55_6
abbrev c55:=za [yO 2,zu 3] (ze (za [zV 6 0,zn 7 6,zv 8 7 4] (zb 8 (za [yM 9,zS 6 2 9,zu 3] zc) zd)) k55_7)
theorem ok55:Ao Qa 55 c55 54 [.c 2 (some 6),.t 3]=true:=by kernel_rfl
abbrev c59:=za [zk 1 0,zu 2] (za [zL 3 4 1,zy 4,W1 5 (.eqs false [0,0,0,0] (.t 3) (.t 4)),zV 2 5] zc)
theorem ok59:Ao Qa 59 c59 6 [.t 2]=true:=by kernel_rfl
abbrev k60_0:=za [W1 25 (.build [.int .i64 0,.int .i64 0,.int .i64 0,.lit (.slice none 0 0),.lit (.slice none 0 0)] []),zS 5 4 25,zK 5 1] zc
abbrev k60_2:=ze (.block 1 (za [zV 39 37,zV 9 39] (.region [zF 40 3 8,zM 41 40,zV 42 9,zX 43 5 41 42,zF 44 4 43,yJ 44 (-1)]))) (.region [zh 45 37,zV 37 45])
def b60_3:=za [zm 38 37 36] (ze (zb 38 zd (.exit 0)) k60_2)
abbrev k60_5:=ze (.drawn [(0,zF 74 4 8),(1,zM 75 74),(4,zV 78 12),(5,W1 79 (.call 128 [(zI 2),(zI 3),(.t 78)])),(2,zV 76 11),(3,jm 77 76),(6,zV 73 79),(7,zE 80 73 0),(9,zX 82 13 75 77),(10,zS 13 82 80),(8,zE 81 73 1)] [[],[0],[],[2],[],[4],[5],[6],[6],[1,3,0,1,2,3,4,5,6,7],[9,7,5,0,1,2,3,4,5,6,7]] 0) (.region [zF 83 3 8,zM 84 83,zV 85 12,zh 86 85,yQ 87 3 1,zV 88 10,zh 89 88,yh 90 87 89,zX 91 5 84 86,zS 5 91 90])
abbrev k60_7:=ze (.block 3 (za [zV 69 67,zV 11 69] (za [zL 70 3 2,zV 71 11,zi 72 129 70 71,zV 12 72] k60_5))) (.region [zh 92 67,zV 67 92])
def b60_8:=za [zm 68 67 66] (ze (zb 68 zd (.exit 2)) k60_7)
abbrev k60_10:=za [zF 93 3 8,zM 94 93,zV 95 10,zh 96 95,zX 97 5 94 96,zF 98 4 97,yJ 98 (-1)] (za [zL 99 5 8,zS 5 4 99,zK 5 0] zc)
abbrev k60_12:=za [zF 59 3 8,zM 60 59,zV 61 10,yQ 62 1 0,zX 63 5 60 61,zF 64 0 63,zS 4 64 62] (ze (za [zF 65 0 2,zM 66 65,zK 67 0] (.block 2 (.loop b60_8))) k60_10)
abbrev k60_14:=ze (.drawn [(0,zF 51 4 8),(1,zM 52 51),(2,W1 53 (.call 128 [(zI 3),(zI 0),(zI 0)])),(3,zV 50 53),(4,zE 54 50 0),(6,yI 56 13 52 1),(7,zS 13 56 54),(5,zE 55 50 1)] [[],[0],[],[2],[3],[3],[1,0,1,2,3,4],[6,4,2,0,1,2,3,4]] 0) (za [zL 57 3 2,W1 58 (.call 129 [(.t 57),(zI 0)]),zV 10 58] k60_12)
abbrev k60_16:=ze (za [zF 34 3 8,zM 35 34,zn 36 35,zK 37 0] (.block 0 (.loop b60_3))) (za [zF 46 4 8,zM 47 46,zL 48 13 6,yI 49 13 47 0,zS 13 49 48] k60_14)
abbrev k60_17:=ze (.drawn [(0,zL 26 3 2),(1,zF 27 1 2),(2,zM 28 27),(4,zF 30 2 2),(5,zM 31 30),(3,W1 29 (.born 0 (.MM 5 40 [.int .i64 0,.int .i64 0,.int .i64 0,.int .i64 0,.int .i64 0] (.t 28) (.t 28)))),(6,W1 32 (.born 1 (.MM 13 104 [.int .i64 0,.int .i64 0,.int .i64 0,.int .i64 0,.int .i64 0,.int .i64 0,.int .i64 0,.bool false,.int .u64 0,.int .u64 0,.int .u64 0,.int .u64 0,.int .u64 0] (.t 31) (.t 31)))),(7,yF 33 26 29 32),(8,W1 8 (.born 2 (.new [.int .i64 0,.int .i64 0,.int .i64 0,.lit (.slice none 0 0),.lit (.slice none 0 0)]))),(9,zS 5 8 33)] [[],[],[1],[2,2],[],[4],[5,5],[0,3,6],[],[8,7,0,1,2,3,4,5,6,7,8]] 3) k60_16
abbrev k60_19:=za [zV 14 1,W1 15 (.call 128 [(zI 1),(.t 14),(zI 0)]),zV 13 15,zE 16 13 0,zE 17 13 1,zg 6,zS 13 6 16,zV 7 17] (ze (za [zL 18 3 2,zj 19 70 18,zN 20 19,zV 21 20,zR 22 7 21,yd 23 21 22,zO 24 21 23] (zb 24 k60_0 zd)) k60_17)
abbrev c60:=za [zk 2 0,zf 4,zK 5 0] k60_19
theorem ok60:Ao Qa 60 c60 100 [.c 4 (some 5),.t 5]=true:=by kernel_rfl
abbrev k65_2:=za [zF 24 3 3,zM 25 24,zV 26 9,zX 27 5 25 26,zF 28 0 27,zL 29 4 28,zj 30 59 29,zV 23 30] (zb 23 (za [zy 31,zK 6 0,zS 4 7 31,zK 8 4] zc) zd)
abbrev k65_3:=ze (.drawn [(1,zF 33 3 3),(2,zM 34 33),(3,zV 35 9),(4,zX 36 5 34 35),(5,zF 37 0 36),(6,zL 38 4 37),(0,zV 32 9),(7,zV 6 32),(8,zS 4 7 38),(9,zK 8 0)] [[],[],[1],[],[2,3],[4],[5],[0,0],[6,7,0,1,2,3,4,5,6,7],[8,0,1,2,3,4,5,6,7,8]] 0) zc
abbrev k65_4:=ze (.block 0 (za [zV 19 10,zv 20 19 0,zV 18 20] (zb 18 (za [zy 21,zV 22 10,zK 6 0,zS 4 7 21,zV 8 22] zc) k65_2))) k65_3
abbrev c65:=za [zk 3 0,zk 5 2,zK 6 0,zo 7,zK 8 0] (za [zL 12 5 3,zV 13 1,zL 14 1 5,zp 15 134 12 13 14,zV 11 15,zE 16 11 0,zE 17 11 1,zV 9 16,zV 10 17] k65_4)
theorem ok65:Ao Qa 65 c65 39 [.t 6,.c 7 (some 4),.t 8]=true:=by kernel_rfl
abbrev k66_2:=ze (.drawn [(0,zL 18 5 2),(1,zF 19 4 2),(2,zM 20 19),(3,zV 21 1),(4,jm 22 21),(5,zX 23 13 20 22),(6,zL 24 13 23),(7,W1 25 (.YY 137 [(.t 5)])),(8,W1 26 (.call 136 [(.t 18),(.t 24),(.c (.lit (.slice none 0 0))),(.t 25)]))] [[],[],[1],[],[3],[2,4],[5],[],[0,6,7]] 0) (za [zM 27 5,zj 28 138 27] (za [zM 29 5,zj 30 139 29,zV 4 30] zc))
abbrev k66_3:=ze (za [zL 6 5 2,zj 7 15 6,zN 8 7,zV 9 8,zR 10 1 9,zP 11 9 0 2,zP 12 9 0 11,z6 13 9 12,yV 14 9 13,jg 15 9 135 10 14,yd 16 9 15,zO 17 9 16] (zb 17 (za [zt 4] zc) zd)) k66_2
abbrev c66:=za [zk 2 0,zt 4] (za [yj 5] k66_3)
theorem ok66:Ao Qa 66 c66 31 [.t 4]=true:=by kernel_rfl
abbrev k67_1:=za [zF 7 0 2,zM 8 7,zF 9 0 3,zM 10 9,yo 11 8 10,zV 12 11,zC 13 12 1 2,zJ 14 12 13,zC 15 12 1 3,zJ 16 12 15,yS 17 12 14 16,zA 18 12 17,zV 19 18,zC 20 19 2 2,zJ 21 19 20,zC 22 19 2 3,zJ 23 19 22,zW 24 19 80 21 23,zA 25 19 24,zV 26 25,zC 27 26 3 3,zJ 28 26 27,yk 29 26 28,zZ 30 29 26,zP 31 30 3 3,z6 32 30 31,zP 33 30 3 2,z6 34 30 33,W2 35 30 false (.bin .eql (.t 32) (.t 34)),yn 36 26 30 35,zA 37 26 36,zV 4 37] zc
abbrev c67:=za [zk 2 0,zk 3 1,zu 4] (ze (za [zL 5 4 2,zj 6 59 5] (zb 6 (za [yy 4] zc) zd)) k67_1)
theorem ok67:Ao Qa 67 c67 38 [.t 4]=true:=by kernel_rfl
abbrev k70_0:=za [zF 3 0 1,zM 4 3,yi 5 140 4 1 4,zV 6 5,zC 7 6 1 1,zJ 8 6 7,zC 9 6 0 1,zJ 10 6 9,W2 11 6 true (.bin .mul (zI 8) (.t 10)),W2 12 6 true (.call 140 [(.t 8),(.t 11),(zI 96)]),zA 13 6 12,zV 14 13,zC 15 14 1 1,zJ 16 14 15,W2 17 14 true (.bin .rem (.t 16) (zI 8)),yk 18 14 17,zA 19 14 18,zV 20 19,zC 21 20 2 1,zJ 22 20 21,zC 23 20 0 1,zJ 24 20 23,W2 25 20 true (.bin .add (.t 24) (zI 2)),W2 26 20 true (.call 140 [(.t 22),(.t 25),(zI 48)]),zA 27 20 26,zV 2 27] zc
abbrev c70:=za [zk 1 0,zu 2] k70_0
theorem ok70:Ao Qa 70 c70 28 [.t 2]=true:=by kernel_rfl
abbrev k71_0:AD:= .region [zL 27 4 5,zj 28 59 27,zN 29 28,zV 30 29,zC 31 30 4 4,zJ 32 30 31,W2 33 30 true (.bin .lss (.t 32) (zI (-1))),zA 34 30 33,zV 19 34]
abbrev k71_2:=ze (.drawn [(0,zL 36 4 5),(1,zj 37 59 36),(2,zN 38 37),(3,zV 39 38),(4,zx 40 39 5 1),(5,zC 41 39 1 5),(6,zJ 42 39 41),(7,zW 43 39 142 40 42),(8,yL 44 39 43),(9,zZ 45 44 39),(10,zP 46 45 4 1),(11,z6 47 45 46),(12,zP 48 45 1 5),(13,z6 49 45 48),(14,yq 50 45 13 47 49),(15,zP 51 45 0 50),(16,z6 52 45 51),(17,zP 53 45 0 5),(18,z6 54 45 53),(19,ja 55 45 52 54),(20,yn 56 39 45 55),(21,zA 57 39 56),(22,zV 35 57)] [[],[0],[1],[2,1],[3],[3],[5,3],[4,6,3,3],[7,3],[8,7,3],[9],[10,9],[9],[12,9],[11,13,9],[14,9],[15,9],[9],[17,9],[16,18,9],[9,19,3],[3,20],[21,9]] 0) (zb 35 (za [zu 2] zc) zd)
abbrev k71_4:=ze (za [zL 20 4 5,zj 21 59 20,zV 22 21,zC 23 22 4 4,zJ 24 22 23,zY 25 22 24 (-1),zA 26 22 25,zV 19 26] (zb 19 zd k71_0)) (zb 19 (za [zu 2] zc) k71_2)
abbrev k71_7:=za [zF 13 0 4,zL 14 4 13,zo 5,zS 4 5 14] (.block 2 (za [zL 16 4 5,zj 17 141 16,zN 18 17,zV 15 18] (zb 15 (za [zu 2] zc) k71_4)))
def b71_9:=za [zm 10 9 8] (ze (zb 10 zd (.exit 0)) (ze (.block 1 (za [zX 11 5 7 9,zL 12 5 11,zz 4,zS 5 4 12] k71_7)) (.region [zh 58 9,zV 9 58])))
abbrev c71:=za [zk 1 0,zu 2] (ze (za [zF 6 3 1,zM 7 6,zn 8 7,zK 9 0] (.block 0 (.loop b71_9))) (za [yy 2] zc))
theorem ok71:Ao Qa 71 c71 59 [.t 2]=true:=by kernel_rfl
abbrev k72_4:=za [zV 60 5,zN 61 60,zV 62 61,zC 63 62 0 4,zJ 64 62 63,zY 65 62 64 0,zA 66 62 65,zV 67 66,zx 68 67 5 1,zZ 69 3 67,zW 70 67 144 68 69,yE 71 67 70,yk 72 67 71,zA 73 67 72] (zb 73 (za [zu 2] zc) zd)
abbrev k72_5:=ze (ze (.drawn [(0,zV 49 5),(1,zV 50 49),(2,zx 51 50 13 4),(3,zC 52 50 0 1),(4,zx 53 50 3 52),(5,zZ 54 3 50),(6,W2 55 50 true (.bin .sub (.t 54) (zI 2))),(7,zW 56 50 129 53 55),(8,W2 57 50 true (.build [.int .i64 0,.int .i64 0,.int .i64 0,.int .i64 0,.int .i64 0,.int .i64 0,.int .i64 0,.bool false,.int .u64 0,.int .u64 0,.int .u64 0,.int .u64 0,.int .u64 0] [(0,1,(zI 2)),(1,1,(zI 3)),(2,1,(.t 56))])),(9,W2 58 50 true (.eqs true [0,0,0,0,0,0,0,1,0,0,0,0,0] (.t 51) (.t 57))),(10,zA 59 50 58)] [[],[0],[1],[1],[3,1],[1],[5,1],[4,6,1,1],[7,1],[2,8,1],[1,9]] 0) (zb 59 (za [zu 2] zc) zd)) k72_4
abbrev k72_6:=za [zV 39 3,z2 40 39 2,zV 41 40,zZ 42 3 41,zC 43 41 0 1,zC 44 41 0 43,zJ 45 41 44,W2 46 41 true (.bin .add (zI 2) (.t 45)),yA 47 41 42 46,zA 48 41 47,zV 5 48] k72_5
abbrev k72_7:=ze (za [zF 17 5 4,zM 18 17,yC 19 18 0,zV 20 19,zC 21 20 5 4,zJ 22 20 21,zC 23 20 3 1,zJ 24 20 23,yE 25 20 24,W2 26 20 true (.bin .gtr (.t 22) (.t 25)),zZ 27 26 20,zP 28 27 3 1,z6 29 27 28,zP 30 27 5 4,z6 31 27 30,yV 32 27 31,yq 33 27 5 29 32,zP 34 27 0 33,zT 35 27 4 34,yw 36 27 59 35,yn 37 20 27 36,zA 38 20 37] (zb 38 (za [zu 2] zc) zd)) k72_6
abbrev k72_9:=ze (.block 1 (za [zV 11 9,zX 12 13 7 9,zL 13 13 12,zg 4,zV 3 11,zS 13 4 13] (ze (za [zL 14 13 4,zj 15 143 14,zN 16 15] (zb 16 (za [zu 2] zc) zd)) k72_7))) (.region [zh 74 9,zV 9 74])
def b72_10:=za [zm 10 9 8] (ze (zb 10 zd (.exit 0)) k72_9)
abbrev c72:=za [zk 1 0,zu 2] (ze (za [zF 6 4 1,zM 7 6,zn 8 7,zK 9 0] (.block 0 (.loop b72_10))) (za [yy 2] zc))
theorem ok72:Ao Qa 72 c72 75 [.t 2]=true:=by kernel_rfl
abbrev k73_2:=ze (za [zV 34 7,zV 35 3,zn 36 35,yB 37 34 36,zV 38 37,zR 39 3 38,zR 40 7 38,yq 41 38 1 39 40,z6 42 38 41,zO 43 38 42] (zb 43 (za [zu 2] zc) zd)) (.region [zV 44 3,zV 45 7,zX 46 1 44 45,jk 46])
abbrev k73_4:=ze (.block 3 (za [zV 29 27,zV 6 29] (za [zF 30 2 5,zM 31 30,zV 32 6,yc 33 31 32,zV 7 33] k73_2))) (.region [zh 47 27,zV 27 47])
def b73_5:=za [zm 28 27 26] (ze (zb 28 zd (.exit 2)) k73_4)
abbrev k73_7:=ze (za [zF 21 0 5,zM 22 21,zv 23 22 2] (zb 23 (.exit 1) zd)) (za [zF 24 1 5,zM 25 24,yK 26 25,zK 27 0] (.block 2 (.loop b73_5)))
def b73_9:=za [zm 18 17 16] (ze (zb 18 zd (.exit 0)) (ze (.block 1 (za [zX 19 13 15 17,zL 20 13 19,zg 5,zS 13 5 20] k73_7)) (.region [zh 48 17,zV 17 48])))
abbrev k73_11:=za [zV 57 3,zV 58 8,zX 59 1 57 58,zM 60 59,zN 61 60,zV 62 61,zC 63 62 0 9,zx 64 62 4 63,yr 65 62 59 64,yL 66 62 65,zA 67 62 66] (zb 67 (za [zu 2] zc) zd)
abbrev k73_12:=ze (.block 5 (za [zV 54 52,zX 55 5 50 52,zL 56 5 55,zz 9,zV 8 54,zS 5 9 56] k73_11)) (.region [zh 68 52,zV 52 68])
def b73_13:=za [zm 53 52 51] (ze (zb 53 zd (.exit 4)) k73_12)
abbrev k73_15:=ze (za [zF 14 4 1,zM 15 14,zn 16 15,zK 17 0] (.block 0 (.loop b73_9))) (ze (za [zF 49 3 1,zM 50 49,zn 51 50,zK 52 0] (.block 4 (.loop b73_13))) (za [yy 2] zc))
abbrev c73:=za [zk 1 0,zu 2] (za [zF 10 3 1,zM 11 10,zn 12 11,W1 13 (.MM 1 1 [.bool false] (.t 12) (.t 12)),zV 3 13] k73_15)
theorem ok73:Ao Qa 73 c73 69 [.t 2]=true:=by kernel_rfl
abbrev k74_1:=za [zF 13 0 4,zF 14 0 13,zM 15 14,zQ 16 15 2,zV 17 16,zx 18 17 5 1,zC 19 17 0 4,zC 20 17 1 19,zJ 21 17 20,zZ 22 3 17,ju 23 17 145 18 21 22,zA 24 17 23] (zb 24 (za [yy 2] zc) zd)
def b74_3:=za [zm 9 8 7] (ze (zb 9 zd (.exit 0)) (ze (.block 1 (za [zV 10 8,zX 11 5 6 8,zL 12 5 11,zz 4,zV 3 10,zS 5 4 12] k74_1)) (.region [zh 25 8,zV 8 25])))
abbrev c74:=za [zk 1 0,zu 2] (ze (za [zF 5 3 1,zM 6 5,zn 7 6,zK 8 0] (.block 0 (.loop b74_3))) (za [zu 2] zc))
theorem ok74:Ao Qa 74 c74 26 [.t 2]=true:=by kernel_rfl
abbrev k75_2:=za [zV 19 4,zv 20 19 (-2),zV 21 20,zZ 22 4 21,zY 23 21 22 (-1),zA 24 21 23,zV 25 24,zx 26 25 1 1,zZ 27 4 25,zW 28 25 146 26 27,yL 29 25 28,zA 30 25 29] (zb 30 (za [zu 2] zc) zd)
def b75_4:=za [zm 16 15 14] (ze (zb 16 zd (.exit 0)) (ze (.block 1 (za [zX 17 1 13 15,zM 18 17,zV 4 18] k75_2)) (.region [zh 31 15,zV 15 31])))
abbrev k75_7:=ze (.block 5 (ze (za [zV 47 6,zF 48 0 1,zM 49 48,zn 50 49,W1 51 (.bin .gtr (.t 47) (.t 50))] (zb 51 (za [zu 2] zc) zd)) (.region [zV 52 6,zh 53 52,zV 6 53]))) (.region [zF 42 0 1,zM 43 42,zV 44 7,zX 45 1 43 44,zM 46 45,zV 7 46])
def b75_8:=ze (za [zL 39 1 1,zV 40 7,zi 41 146 39 40] (zb 41 zd (.exit 4))) k75_7
abbrev k75_10:=ze (.block 3 (za [zV 37 35,zV 5 37] (za [zK 6 0] (za [zV 38 5,zV 7 38] (.block 4 (.loop b75_8)))))) (.region [zh 54 35,zV 35 54])
def b75_11:=za [zm 36 35 34] (ze (zb 36 zd (.exit 2)) k75_10)
abbrev k75_13:=ze (za [zF 12 0 1,zM 13 12,zn 14 13,zK 15 0] (.block 0 (.loop b75_4))) (ze (za [zF 32 0 1,zM 33 32,zn 34 33,zK 35 0] (.block 2 (.loop b75_11))) (za [yy 2] zc))
abbrev c75:=za [zk 1 0,zu 2] (ze (za [zF 8 0 1,zM 9 8,zn 10 9,yC 11 10 96] (zb 11 (za [zu 2] zc) zd)) k75_13)
theorem ok75:Ao Qa 75 c75 55 [.t 2]=true:=by kernel_rfl
abbrev k76_2:=ze (za [zF 13 0 5,zL 14 4 13,zj 15 59 14] (zb 15 (.region [zF 16 4 5,yJ 16 (-2)]) zd)) (.region [zF 17 0 3,zM 18 17,zF 19 4 5,zM 20 19,yb 21 20,yD 22 1 8 18 21,zF 23 0 3,zS 1 23 22])
def b76_4:=za [zm 10 9 8] (ze (zb 10 zd (.exit 0)) (ze (.block 1 (za [zX 11 5 7 9,zL 12 5 11,zz 5,zS 5 5 12] k76_2)) (.region [zh 24 9,zV 9 24])))
abbrev c76:=za [zk 1 0,yj 2] (za [yj 3] (ze (za [zF 6 3 1,zM 7 6,zn 8 7,zK 9 0] (.block 0 (.loop b76_4))) (za [zL 25 1 3,zS 1 2 25] zc)))
theorem ok76:Ao Qa 76 c76 26 [.c 2 (some 1)]=true:=by kernel_rfl
abbrev k77_1:=za [zF 23 0 4,zL 24 4 23,zL 25 4 5,zi 26 67 24 25,zN 27 26,zV 28 27,zC 29 28 0 5,zJ 30 28 29,zY 31 28 30 1,zZ 32 31 28,zP 33 32 0 4,zP 34 32 1 33,z6 35 32 34,zP 36 32 1 5,z6 37 32 36,W2 38 32 false (.bin .eql (.t 35) (.t 37)),yn 39 28 32 38,zA 40 28 39] (zb 40 (za [zu 2] zc) zd)
abbrev k77_3:=ze (za [zF 13 4 4,zM 14 13,z8 15 14 0] (zb 15 (.exit 1) zd)) (za [zF 16 3 1,zM 17 16,zF 18 4 4,zM 19 18,zX 20 5 17 19,zF 21 0 20,zL 22 4 21,zo 5,zS 4 5 22] k77_1)
def b77_5:=za [zm 10 9 8] (ze (zb 10 zd (.exit 0)) (ze (.block 1 (za [zX 11 5 7 9,zL 12 5 11,zz 4,zS 5 4 12] k77_3)) (.region [zh 41 9,zV 9 41])))
abbrev c77:=za [zk 1 0,zu 2] (ze (za [zF 6 3 1,zM 7 6,zn 8 7,zK 9 0] (.block 0 (.loop b77_5))) (za [yy 2] zc))
theorem ok77:Ao Qa 77 c77 42 [.t 2]=true:=by kernel_rfl
abbrev c80:=za [zu 4] (za [zV 5 0,zV 6 1,zi 7 147 5 6,zQ 8 7 0,zV 4 8] zc)
theorem ok80:Ao Qa 80 c80 9 [.t 4]=true:=by kernel_rfl
abbrev k111_1:=ze (.drawn [(1,zF 8 0 1),(2,zM 9 8),(4,zF 11 2 1),(5,zM 12 11),(7,zF 14 3 1),(8,zM 15 14),(10,zF 17 1 1),(11,zM 18 17),(0,jf 7 187),(3,ji 10 9),(6,ji 13 12),(9,ji 16 15),(12,ji 19 18),(13,W1 20 (.born 0 (.EO 1 4 [.int .u64 0] [(0,(.t 10)),(1,(.t 13)),(2,(.t 16)),(3,(.t 19))]))),(14,zi 21 121 7 20),(15,zE 22 21 0),(16,zE 23 21 1),(17,zV 2 22),(18,zV 3 23)] [[],[],[1],[2],[],[4],[5],[],[7],[8],[],[10],[11],[3,6,9,12],[0,13,0],[14],[14],[15,14,0,1,2,3,4,5,6,7,8,9,10,11,12,13,14,15,16],[16,17,0,1,2,3,4,5,6,7,8,9,10,11,12,13,14,15,16,17]] 1) zc
abbrev c111:=za [zk 1 0,ya 2,zu 3] (ze (za [zL 4 4 1,zj 5 141 4,zN 6 5] (zb 6 (za [ya 2,zu 3] zc) zd)) k111_1)
theorem ok111:Ao Qa 111 c111 24 [.t 2,.t 3]=true:=by kernel_rfl
abbrev k112_2:=ze (.block 1 (.region [zV 23 5,zh 24 23,zV 5 24])) (.region [zF 18 0 2,zM 19 18,zV 20 6,zX 21 1 19 20,zM 22 21,zV 6 22])
def b112_3:=ze (za [zV 16 6,zv 17 16 (-1)] (zb 17 zd (.exit 0))) k112_2
abbrev k112_4:=ze (za [zF 11 0 2,zM 12 11,zV 13 1,zX 14 1 12 13,zM 15 14,zV 6 15] (.block 0 (.loop b112_3))) (za [zV 25 5,zV 4 25] zc)
abbrev c112:=za [zk 2 0,zK 4 0] (ze (za [zL 7 1 2,zV 8 1,zi 9 188 7 8,zN 10 9] (zb 10 (za [zK 4 (-1)] zc) zd)) (za [zK 5 0] k112_4))
theorem ok112:Ao Qa 112 c112 26 [.t 4]=true:=by kernel_rfl
abbrev k114_2:=za [zV 13 4,zV 14 0,zX 15 1 13 14,zM 16 15,W1 17 (.call 189 [(.t 16),(.c (.str [32]))]),zV 12 17,zE 18 12 0,zE 19 12 1,zE 20 12 2,zV 2 18,zV 3 19] (za [zV 21 2,zV 22 3,zV 2 21,zV 3 22] zc)
abbrev k114_3:=ze (za [zV 6 0,z8 7 6 1,zV 8 7,zR 9 0 8,yG 10 8 9 13,zO 11 8 10] (zb 11 (za [W1 2 (.mv (.c (.str []))),W1 3 (.mv (.c (.str [])))] zc) zd)) k114_2
abbrev c114:=za [W1 2 (.mv (.c (.str []))),W1 3 (.mv (.c (.str [])))] (za [W1 5 (.EO 1 14 [.str []] [(0,(.c (.str []))),(1,(.c (.str [109,97,107,101,32,65,66,88,89]))),(2,(.c (.str [99,111,112,121,32,65,66,88]))),(3,(.c (.str [109,105,110,116,32,65,66,88,89]))),(4,(.c (.str [109,111,118,101,32,65,66]))),(5,(.c (.str [100,101,108,101,116,101,32,65]))),(6,(.c (.str [114,101,118,111,107,101,32,65]))),(7,(.c (.str [115,101,110,100,32,65,98,87]))),(8,(.c (.str [114,101,99,118,32,65,98]))),(9,(.c (.str [114,105,110,103,32,65]))),(10,(.c (.str [112,111,108,108,32,65]))),(11,(.c (.str [119,114,105,116,101,32,65,88,87]))),(12,(.c (.str [114,101,97,100,32,65,88]))),(13,(.c (.str [116,101,108,108,32,65])))]),zV 4 5] k114_3)
theorem ok114:Ao Qa 114 c114 23 [.t 2,.t 3]=true:=by kernel_rfl
abbrev k116_0:=za [zF 4 0 1,zM 5 4,zn 6 5,z2 7 6 1,zV 8 7,zC 9 8 0 1,zJ 10 8 9,yE 11 8 10,js 12 8 11 3,zA 13 8 12,zV 14 13,zC 15 14 0 1,zJ 16 14 15,zZ 17 3 14,zW 18 14 192 16 17,yL 19 14 18,zA 20 14 19,zV 2 20] zc
abbrev c116:=za [zk 1 0,zu 2] (za [W1 3 (.mv (.c (.func 191 [])))] k116_0)
theorem ok116:Ao Qa 116 c116 21 [.t 2]=true:=by kernel_rfl
abbrev k118_0:=za [zF 7 3 1,zM 8 7,yi 9 194 8 1 5,zV 10 9,zC 11 10 4 1,zJ 12 10 11,jb 13 10 194 12 0 4096,zA 14 10 13,zV 2 14] zc
abbrev k118_2:=za [zF 27 3 1,zM 28 27,zj 29 195 28,zV 30 29,zC 31 30 4 1,zJ 32 30 31,jb 33 30 194 32 1 65535,zA 34 30 33,zV 2 34] zc
abbrev k118_5:=ze (za [zQ 36 4 11,zV 35 36] (zb 35 zd (.region [zQ 37 4 12,zV 35 37]))) (zb 35 (za [zF 38 3 1,zM 39 38,yi 40 194 39 0 3,zV 41 40,zC 42 41 4 1,zJ 43 41 42,yk 44 41 43,zA 45 41 44,zV 2 45] zc) zd)
abbrev k118_7:=za [zQ 16 4 2,zV 15 16] (zb 15 (za [zF 17 3 1,zM 18 17,zj 19 195 18,zV 20 19,zC 21 20 4 1,zJ 22 20 21,yk 23 20 22,zA 24 20 23,zV 2 24] zc) (za [zQ 26 4 3,zV 25 26] (zb 25 k118_2 k118_5)))
abbrev k118_10:=ze (za [zF 3 0 1,zM 4 3] (.block 0 (za [zQ 6 4 1,zV 5 6] (zb 5 k118_0 k118_7)))) (za [zF 46 3 1,zM 47 46,zQ 48 47 0,zV 49 48,zC 50 49 4 1,zJ 51 49 50,yk 52 49 51,zA 53 49 52,zV 2 53] zc)
abbrev c118:=za [zk 1 0,zu 2] k118_10
theorem ok118:Ao Qa 118 c118 54 [.t 2]=true:=by kernel_rfl
abbrev k121_2:AD:= .drawn [(1,zV 37 1),(2,zV 38 7),(3,zX 39 1 37 38),(4,zM 40 39),(5,zF 41 0 8),(6,zM 42 41),(0,zV 36 6),(7,W1 43 (.bin .shl (.t 40) (.t 42))),(8,W1 44 (.bin .or (.t 36) (.t 43))),(9,zV 6 44)] [[],[],[],[1,2],[3],[],[5],[4,6],[0,7],[8,0,1,2,3,4,5,6,7,8]] 0
abbrev k121_3:=ze (ze (.drawn [(0,zV 26 1),(1,zV 27 7),(2,zX 28 1 26 27),(3,zM 29 28),(4,zL 30 2 8),(6,zF 32 0 8),(7,zM 33 32),(5,zj 31 199 30),(8,W1 34 (.bin .shr (.t 31) (.t 33))),(9,W1 35 (.bin .gtr (.t 29) (.t 34)))] [[],[],[0,1],[2],[],[4],[],[6],[5,7],[3,8]] 0) (zb 35 (za [ya 4,zu 5] zc) zd)) k121_2
abbrev k121_4:=ze (.block 1 (za [zV 23 21,zX 24 2 19 21,zL 25 2 24,jt 8,zV 7 23,zS 2 8 25] k121_3)) (.region [zh 45 21,zV 21 45])
def b121_5:=za [zm 22 21 20] (ze (zb 22 zd (.exit 0)) k121_4)
abbrev k121_8:=ze (za [zV 9 0,zj 10 198 9,zN 11 10,zV 12 11,zR 13 0 12,z7 14 12 13,zR 15 1 12,z7 16 12 15,ja 17 12 14 16,zO 18 12 17] (zb 18 (za [ya 4,zu 5] zc) zd)) (za [ya 6] (ze (za [zV 19 0,zn 20 19,zK 21 0] (.block 0 (.loop b121_5))) (za [zV 46 6,zV 4 46,yy 5] zc)))
abbrev c121:=za [ya 4,zu 5] k121_8
theorem ok121:Ao Qa 121 c121 47 [.t 4,.t 5]=true:=by kernel_rfl
abbrev c124:=za [W1 0 (.new [.int .i64 0,.int .i64 0,.int .i64 0])] (za [W1 1 (.build [.int .i64 0,.int .i64 0,.int .i64 0] [(0,1,(zI 2)),(1,1,(zI 32)),(2,1,(zI 16))]),zS 3 0 1] zc)
theorem ok124:Ao Qa 124 c124 2 [.c 0 (some 3)]=true:=by kernel_rfl
abbrev k128_4:=ze (za [zQ 24 11 3,zV 23 24] (zb 23 zd (za [zQ 25 11 4,zV 23 25] (zb 23 zd (.region [zQ 26 11 5,zV 23 26]))))) (zb 23 zd (za [zr 12,zS 13 6 12,zu 7] zc))
abbrev k128_6:=zb 13 (.region [zV 15 1,zF 16 3 8,zS 1 16 15]) (za [zQ 18 11 2,zV 17 18] (zb 17 (.region [zV 19 1,zV 20 2,zF 21 1 8,zS 1 21 19,zF 22 2 8,zS 1 22 20]) k128_4))
abbrev k128_10:=ze (za [zL 27 13 8,zj 28 143 27,zN 29 28] (zb 29 (za [zr 30,zS 13 6 30,zu 7] zc) zd)) (za [zL 31 13 8,zS 13 6 31,yy 7] zc)
abbrev c128:=za [zg 6,zu 7] (za [zV 9 0,ym 10 9,zg 8,zS 13 8 10] (ze (za [zV 11 0] (.block 0 (za [zQ 14 11 1,zV 13 14] k128_6))) k128_10))
theorem ok128:Ao Qa 128 c128 32 [.c 6 (some 13),.t 7]=true:=by kernel_rfl
abbrev k129_2:=ze (za [zL 5 3 2,zj 6 70 5,zN 7 6,zV 8 7,zR 9 1 8,zP 10 8 0 2,z6 11 8 10,yV 12 8 11,jg 13 8 140 9 12,yd 14 8 13,zO 15 8 14] (zb 15 (za [zK 4 0] zc) zd)) (za [zV 16 1,W1 17 (.bin .mul (zI 8) (.t 16)),zV 4 17] zc)
abbrev c129:=za [zk 2 0,zK 4 0] k129_2
theorem ok129:Ao Qa 129 c129 18 [.t 4]=true:=by kernel_rfl
abbrev k134_4:=ze (za [zV 52 9,zN 53 52,zV 54 53,zT 55 54 13 8,zR 56 12 54,yU 57 54 203 55 56,yf 58 54 57 0,zO 59 54 58] (zb 59 (za [zK 6 0,zK 7 3] zc) zd)) (.region [zL 60 13 8,zV 61 12,zi 62 203 60 61,zV 10 62])
abbrev k134_5:=ze (za [zV 44 11,yC 45 44 0] (zb 45 (.region [zL 47 5 3,zV 48 10,zi 49 202 47 48,zV 46 49,zE 50 46 0,zE 51 46 1,zS 13 8 50,zV 9 51]) zd)) k134_4
def b134_7:=za [zm 40 39 38] (ze (zb 40 zd (.exit 0)) (ze (.block 1 (za [zV 41 39,zX 42 1 37 39,zM 43 42,zV 11 41,zV 12 43] k134_5)) (.region [zh 63 39,zV 39 63])))
abbrev k134_10:=za [zF 30 4 3,zM 31 30,zV 32 1,jm 33 32,zX 34 13 31 33,zL 35 13 34,zg 8,zS 13 8 35,yy 9] (za [zK 10 0] (ze (za [zF 36 0 5,zM 37 36,zn 38 37,zK 39 0] (.block 0 (.loop b134_7))) (za [zV 64 10,zV 6 64,zK 7 0] zc)))
abbrev k134_11:=ze (za [zL 13 5 3,zj 14 15 13,zN 15 14,zV 16 15,zR 17 1 16,zP 18 16 0 3,zP 19 16 0 18,z6 20 16 19,yV 21 16 20,jg 22 16 135 17 21,yd 23 16 22,zO 24 16 23,zV 25 24,zT 26 25 1 5,yw 27 25 116 26,yd 28 25 27,zO 29 25 28] (zb 29 (za [zK 6 0,zK 7 1] zc) zd)) k134_10
abbrev c134:=za [zk 3 0,zk 5 2,zK 6 0,zK 7 0] k134_11
theorem ok134:Ao Qa 134 c134 65 [.t 6,.t 7]=true:=by kernel_rfl
abbrev c135:=za [zu 6] (za [zV 7 0,zV 8 1,yB 9 7 8,zV 10 9,zZ 11 0 10,zZ 12 2 10,yx,zA 14 10 13,zV 6 14] zc)
theorem ok135:Ao Qa 135 c135 15 [.t 6]=true:=by kernel_rfl
abbrev k136_1:=za [zV 37 12,zV 38 37,zZ 39 9 38,yE 40 38 39,W2 41 38 true (.bin .lss (.t 40) (zI 3)),zA 42 38 41] (zb 42 (.region [zL 43 5 4,zL 44 13 11,zV 45 9,zV 46 3,yP 47 136 43 44 45 46]) zd)
abbrev k136_3:=za [zV 27 3,zV 28 9,zV 29 10,W1 30 (.Ha (.t 27) [(.t 28),(.t 29)])] (za [zL 32 5 4,zV 33 10,zi 34 202 32 33,zV 31 34,zE 35 31 0,zE 36 31 1,zg 11,zS 13 11 35,zV 12 36] k136_1)
abbrev k136_5:=za [zV 19 2,zj 20 204 19,zV 21 8,yb 22 21,yD 23 1 8 20 22,zV 9 23] (za [zL 24 13 5,zV 25 8,zi 26 203 24 25,zV 10 26] k136_3)
def b136_7:=za [zm 17 16 15] (ze (zb 17 zd (.exit 0)) (ze (.block 1 (za [zV 18 16,zV 8 18] k136_5)) (.region [zh 48 16,zV 16 48])))
abbrev c136:=za [zk 4 0,zk 5 1] (za [zF 13 1 5,zM 14 13,yK 15 14,zK 16 0] (.block 0 (.loop b136_7)))
theorem ok136:Ao Qa 136 c136 49 []=true:=by kernel_rfl
abbrev c137:AD:= .region [zM 5 2,zV 6 1,yb 7 6,yD 8 1 8 5 7,zS 1 2 8]
theorem ok137:Ao Qa 137 c137 9 []=true:=by kernel_rfl
abbrev c140:=za [zu 6] (za [zV 7 0,zV 8 1,yB 9 7 8,zV 10 9,zZ 11 0 10,zZ 12 2 10,yx,zA 14 10 13,zV 6 14] zc)
theorem ok140:Ao Qa 140 c140 15 [.t 6]=true:=by kernel_rfl
abbrev k141_1:=za [zF 5 0 1,zM 6 5,yi 7 207 6 1 5,zV 8 7,zC 9 8 1 1,zJ 10 8 9,jb 11 8 207 10 0 47,zA 12 8 11,zV 13 12,zC 14 13 2 1,zJ 15 13 14,yr 16 13 195 15,zA 17 13 16,zV 18 17,zC 19 18 3 1,zJ 20 18 19,yr 21 18 208 20,zA 22 18 21,zV 23 22,zC 24 23 3 1,zJ 25 23 24,yk 26 23 25,zZ 27 26 23,zP 28 27 0 1,z6 29 27 28,yw 30 27 209 29,yn 31 23 27 30,zA 32 23 31,zV 2 32] zc
abbrev c141:=za [zk 1 0,zu 2] (ze (za [zL 3 4 1,zj 4 59 3] (zb 4 (za [yy 2] zc) zd)) k141_1)
theorem ok141:Ao Qa 141 c141 33 [.t 2]=true:=by kernel_rfl
abbrev k142_0:=za [zV 5 1,z2 6 5 0,zV 7 6,zZ 8 1 7,zC 9 7 4 2,zJ 10 7 9,yE 11 7 10,yA 12 7 8 11,zA 13 7 12,zV 14 13,zC 15 14 4 2,zJ 16 14 15,zZ 17 1 14,W2 18 14 true (.A9 13 (.t 16) (.t 17)),zC 19 14 0 18,zJ 20 14 19,zY 21 14 20 0,zA 22 14 21,zV 4 22] zc
abbrev c142:=za [zk 2 0,zu 4] k142_0
theorem ok142:Ao Qa 142 c142 23 [.t 4]=true:=by kernel_rfl
abbrev k143_1:=za [zF 11 3 1,zM 12 11,yi 13 211 12 1 4096,zV 14 13,zC 15 14 4 1,zJ 16 14 15,zC 17 14 3 1,zJ 18 14 17,W2 19 14 true (.call 211 [(.t 16),(zI 0),(.t 18)]),zA 20 14 19,zV 2 20] zc
abbrev k143_2:=ze (.drawn [(0,zF 23 1 1),(1,zM 24 23),(2,yi 25 211 24 1 4),(3,zV 26 25),(4,zC 27 26 2 1),(5,zJ 28 26 27),(6,zC 29 26 1 1),(7,zJ 30 26 29),(8,W2 31 26 true (.bin .shl (zI 1) (.t 30))),(9,W2 32 26 true (.bin .sub (zI 96) (.t 31))),(10,W2 33 26 true (.call 211 [(.t 28),(zI 0),(.t 32)])),(11,zA 34 26 33),(12,zV 2 34)] [[],[0],[1],[2,2],[3],[4,3],[3],[6,3],[7,3],[8,3],[5,9,3,3],[3,10],[11,10,0,1,2,3,4,5,6,7,8,9,10,11]] 0) zc
abbrev k143_3:=za [zF 37 6 1,zM 38 37,yi 39 211 38 0 65535,zV 40 39,zC 41 40 5 1,zJ 42 40 41,jb 43 40 211 42 0 96,zA 44 40 43,zV 2 44] zc
abbrev k143_6:AD:= .block 0 (za [zQ 10 8 1,zV 9 10] (zb 9 k143_1 (za [zQ 22 8 2,zV 21 22] (zb 21 k143_2 (za [zQ 36 8 3,zV 35 36] (zb 35 k143_3 zd))))))
abbrev k143_8:=ze (ze (.drawn [(0,zL 3 13 1),(2,zL 5 13 1),(1,zj 4 210 3),(3,je 6 4 5)] [[],[0],[],[1,2]] 0) (zb 6 (za [zu 2] zc) zd)) (ze (za [zF 7 0 1,zM 8 7] k143_6) (za [yy 2] zc))
abbrev c143:=za [zk 1 0,zu 2] k143_8
theorem ok143:Ao Qa 143 c143 45 [.t 2]=true:=by kernel_rfl
abbrev k144_1:=za [zF 16 0 7,zL 17 4 16,zj 18 59 17,zN 19 18,zV 20 19,zC 21 20 0 7,zC 22 20 1 21,zJ 23 20 22,zZ 24 1 20,yS 25 20 23 24,zA 26 20 25] (zb 26 (.region [zV 27 5,zV 28 6,yb 29 28,yD 30 1 8 27 29,zV 5 30]) zd)
def b144_3:=za [zm 12 11 10] (ze (zb 12 zd (.exit 0)) (ze (.block 1 (za [zV 13 11,zX 14 5 9 11,zL 15 5 14,zz 7,zV 6 13,zS 5 7 15] k144_1)) (.region [zh 31 11,zV 11 31])))
abbrev c144:=za [zk 2 0,zt 4] (za [zt 5] (ze (za [zF 8 3 2,zM 9 8,zn 10 9,zK 11 0] (.block 0 (.loop b144_3))) (za [zV 32 5,zV 4 32] zc)))
theorem ok144:Ao Qa 144 c144 33 [.t 4]=true:=by kernel_rfl
abbrev k145_2:=za [zL 22 5 3,zV 23 1,zV 24 7,zp 25 212 22 23 24] (za [zV 26 7,zL 27 5 3,zV 28 2,zi 29 213 27 28,W1 30 (.Wb (.bool false) (.t 26) (.t 29)),zV 6 30] zc)
abbrev k145_3:=ze (za [zL 8 5 3,zV 9 1,zi 10 142 8 9,zN 11 10,zV 12 11,zP 13 12 4 3,z6 14 12 13,zR 15 1 12,yq 16 12 13 14 15,zP 17 12 0 16,z6 18 12 17,yg 19 12 18 2,zO 20 12 19] (zb 20 (za [zu 6] zc) zd)) (za [W1 21 (.Pa),zV 7 21] k145_2)
abbrev c145:=za [zk 3 0,zu 6] k145_3
theorem ok145:Ao Qa 145 c145 31 [.t 6]=true:=by kernel_rfl
abbrev k146_0:=za [zV 5 1,z2 6 5 0,zV 7 6,zZ 8 1 7,zC 9 7 0 2,zJ 10 7 9,yE 11 7 10,yA 12 7 8 11,zA 13 7 12,zV 14 13,zC 15 14 0 2,zJ 16 14 15,zZ 17 1 14,W2 18 14 true (.A9 1 (.t 16) (.t 17)),zJ 19 14 18,zY 20 14 19 (-2),zA 21 14 20,zV 4 21] zc
abbrev c146:=za [zk 2 0,zu 4] k146_0
theorem ok146:Ao Qa 146 c146 22 [.t 4]=true:=by kernel_rfl
abbrev c147:=za [zK 4 0] (za [zV 5 0,zj 6 214 5,zV 7 1,zj 8 214 7,W1 9 (.bin .andNot (.t 6) (.t 8)),zV 4 9] zc)
theorem ok147:Ao Qa 147 c147 10 [.t 4]=true:=by kernel_rfl
abbrev k148_2:=za [zF 22 3 3,zM 23 22,zV 24 8,zX 25 5 23 24,zF 26 0 25,zL 27 4 26,zj 28 59 27,zN 29 28,zV 21 29] (zb 21 (za [zK 6 0,zK 7 5] zc) zd)
abbrev k148_4:=ze (.block 0 (za [zV 18 9,zv 19 18 0,zV 17 19] (zb 17 (za [zV 20 9,zK 6 0,zV 7 20] zc) k148_2))) (za [zV 30 8,zV 6 30,zK 7 0] zc)
abbrev c148:=za [zk 3 0,zk 5 2,zK 6 0,zK 7 0] (za [zL 11 5 3,zV 12 1,zL 13 1 5,zp 14 134 11 12 13,zV 10 14,zE 15 10 0,zE 16 10 1,zV 8 15,zV 9 16] k148_4)
theorem ok148:Ao Qa 148 c148 31 [.t 6,.t 7]=true:=by kernel_rfl
abbrev k177_7:=ze (za [zQ 19 6 3,zV 18 19] (zb 18 zd (.region [zQ 20 6 4,zV 18 20]))) (zb 18 (za [zK 4 1,yy 5] zc) (za [zQ 22 6 5,zV 21 22] (zb 21 (za [zK 4 2,yy 5] zc) zd)))
abbrev k177_8:=za [zQ 13 6 2,zV 12 13] (zb 12 (za [zV 14 1,yi 15 211 14 1 4] (zb 15 (za [zV 16 1,yK 17 16,zV 4 17,yy 5] zc) zd)) k177_7)
abbrev k177_9:AD:= .block 0 (za [zQ 8 6 1,zV 7 8] (zb 7 (za [zV 9 1,yi 10 211 9 1 4096] (zb 10 (za [zV 11 1,zV 4 11,yy 5] zc) zd)) k177_8))
abbrev c177:=za [zK 4 0,zu 5] (ze (za [zV 6 0] k177_9) (za [zK 4 0,zu 5] zc))
theorem ok177:Ao Qa 177 c177 23 [.t 4,.t 5]=true:=by kernel_rfl
abbrev k179_2:=ze (za [zL 3 5 1,zj 4 15 3,zN 5 4] (zb 5 (za [zK 2 (-1)] zc) zd)) (za [zF 6 4 1,zM 7 6,W1 8 (.call 222 [(.t 7),(.c (.func 223 []))]),zV 2 8] zc)
abbrev c179:=za [zk 1 0,zK 2 0] k179_2
theorem ok179:Ao Qa 179 c179 9 [.t 2]=true:=by kernel_rfl
abbrev k180_3:=ze (za [zL 27 5 2,zV 28 7,zi 29 213 27 28,zv 30 29 (-1)] (zb 30 (.region [zK 6 0]) zd)) (za [zV 31 6,zV 32 1,yK 33 32,yo 34 31 33] (zb 34 (za [zV 35 7,zh 36 35,zV 37 6,yW 38 36 37,zV 4 38,yy 5] zc) zd))
def b180_6:=za [zm 23 22 21] (ze (zb 23 zd (.exit 0)) (ze (.block 1 (za [zV 24 22,zV 7 24] (za [zV 25 6,zh 26 25,zV 6 26] k180_3))) (.region [zh 39 22,zV 22 39])))
abbrev k180_8:=ze (za [zL 8 5 2,zj 9 15 8,zN 10 9,zV 11 10,zR 12 1 11,yf 13 11 12 1,zO 14 11 13,zV 15 14,zR 16 1 15,yG 17 15 16 4,zO 18 15 17] (zb 18 (za [zK 4 0,zu 5] zc) zd)) (za [zK 6 0] (ze (za [zF 19 3 2,zM 20 19,zn 21 20,zK 22 0] (.block 0 (.loop b180_6))) (za [zK 4 0,zu 5] zc)))
abbrev c180:=za [zk 2 0,zK 4 0,zu 5] k180_8
theorem ok180:Ao Qa 180 c180 40 [.t 4,.t 5]=true:=by kernel_rfl
abbrev k181_2:=ze (za [zL 5 4 2,zj 6 141 5,zN 7 6] (zb 7 (za [zy 8,zS 4 4 8] zc) zd)) (za [zF 9 2 2,zM 10 9,zV 11 1,zi 12 224 10 11,zF 13 2 2,zS 1 13 12] (za [zL 14 4 2,zS 4 4 14] zc))
abbrev c181:=za [zk 2 0,zo 4] k181_2
theorem ok181:Ao Qa 181 c181 15 [.c 4 (some 4)]=true:=by kernel_rfl
abbrev k182_6:=za [zF 17 0 2,zM 18 17,zj 19 209 18,zN 20 19,zV 16 20] (zb 16 (za [zy 21,zS 4 4 21,zK 5 7] zc) (za [zF 23 3 2,zM 24 23,zv 25 24 0,zV 22 25] (zb 22 (za [zy 26,zS 4 4 26,zK 5 5] zc) zd)))
abbrev k182_9:=ze (.block 0 (ze (za [zL 7 4 2,zj 8 141 7,zN 9 8,zV 6 9] (zb 6 zd (za [zV 10 1,zj 11 208 10,zN 12 11,zV 6 12] (zb 6 zd (.region [zV 13 1,zQ 14 13 0,zV 6 14]))))) (zb 6 (za [zy 15,zS 4 4 15,zK 5 1] zc) k182_6))) (za [zV 27 1,zF 28 3 2,zS 1 28 27] (za [zL 29 4 2,zS 4 4 29,zK 5 0] zc))
abbrev c182:=za [zk 2 0,zo 4,zK 5 0] k182_9
theorem ok182:Ao Qa 182 c182 30 [.c 4 (some 4),.t 5]=true:=by kernel_rfl
abbrev k187_0:=za [yp 1 0 8,yp 2 8 8,yp 3 16 16,yp 4 32 16,W1 5 (.EO 2 4 [.int .i64 0,.int .i64 0] [(0,(.t 1)),(1,(.t 2)),(2,(.t 3)),(3,(.t 4))]),zV 0 5] zc
abbrev c187:=za [zt 0] k187_0
theorem ok187:Ao Qa 187 c187 6 [.t 0]=true:=by kernel_rfl
abbrev c188:=za [zk 2 0,zu 4] (za [zL 5 1 2,zj 6 75 5,zV 7 6,zx 8 7 1 2,zZ 9 1 7,zW 10 7 146 8 9,zA 11 7 10,zV 4 11] zc)
theorem ok188:Ao Qa 188 c188 12 [.t 4]=true:=by kernel_rfl
abbrev c191:=za [zu 2] (za [zV 3 0,z8 4 3 0,zV 5 4,zR 6 0 5,yG 7 5 6 15,zO 8 5 7,zV 2 8] zc)
theorem ok191:Ao Qa 191 c191 9 [.t 2]=true:=by kernel_rfl
abbrev c194:=za [zu 6] (za [zV 7 0,zV 8 1,yB 9 7 8,zV 10 9,zZ 11 0 10,zZ 12 2 10,yx,zA 14 10 13,zV 6 14] zc)
theorem ok194:Ao Qa 194 c194 15 [.t 6]=true:=by kernel_rfl
abbrev c195:=za [zu 2] (za [zV 3 0,z2 4 3 0,zV 5 4,zZ 6 0 5,js 7 5 6 7,zA 8 5 7,zV 2 8] zc)
theorem ok195:Ao Qa 195 c195 9 [.t 2]=true:=by kernel_rfl
abbrev k196_2:=ze (.drawn [(0,zL 10 1 2),(1,zL 11 1 2),(2,zV 12 1),(3,zi 13 235 11 12),(4,zi 14 234 10 13),(5,zV 5 14)] [[],[],[],[1,2],[0,3,3],[4,4,0,1,2,3,4]] 0) (za [zV 15 5,zj 16 138 15] (za [zV 17 5,zV 4 17] zc))
abbrev c196:=za [zk 2 0,zt 4] (ze (za [zL 6 1 2,zV 7 1,zi 8 188 6 7,zN 9 8] (zb 9 (za [zt 4] zc) zd)) k196_2)
theorem ok196:Ao Qa 196 c196 18 [.t 4]=true:=by kernel_rfl
abbrev c198:=za [zu 2] (za [zV 6 0,zj 7 238 6,zV 5 7,zE 8 5 0,zE 9 5 1,zV 3 8,zV 4 9] (za [zV 10 4,zV 2 10] zc))
theorem ok198:Ao Qa 198 c198 11 [.t 2]=true:=by kernel_rfl
abbrev k199_0:=ze (.drawn [(0,zF 3 1 1),(1,zM 4 3),(4,zF 7 0 1),(5,zM 8 7),(2,W1 5 (.bin .shl (.c (.int .u64 1)) (.t 4))),(3,W1 6 (.bin .sub (.t 5) (.c (.int .u64 1)))),(6,W1 9 (.bin .shl (.t 6) (.t 8))),(7,zV 2 9)] [[],[0],[1],[2],[],[4],[3,5],[6,0,1,2,3,4,5,6]] 0) zc
abbrev c199:=za [zk 1 0,ya 2] k199_0
theorem ok199:Ao Qa 199 c199 10 [.t 2]=true:=by kernel_rfl
abbrev k202_2:=ze (za [zF 13 0 6,zM 14 13,zv 15 14 2,zV 16 15,zP 17 16 2 6,z6 18 16 17,W2 19 16 false (.call 80 [(zI 1),(.t 18)]),yd 20 16 19,zO 21 16 20] (zb 21 (za [zr 22,zS 13 4 22,zu 5] zc) zd)) (za [zF 23 4 2,zM 24 23,zF 25 1 6,zM 26 25,zX 27 13 24 26,zL 28 13 27,zS 13 4 28,yy 5] zc)
abbrev c202:=za [zk 2 0,zg 4,zu 5] (za [zF 7 3 2,zM 8 7,zV 9 1,zX 10 5 8 9,zF 11 0 10,zL 12 4 11,zo 6,zS 4 6 12] k202_2)
theorem ok202:Ao Qa 202 c202 29 [.c 4 (some 13),.t 5]=true:=by kernel_rfl
abbrev k203_2:=ze (za [zV 5 1,zF 6 1 2,zM 7 6,yK 8 7,yB 9 5 8] (zb 9 (za [zK 4 (-1)] zc) zd)) (za [zF 10 2 2,zM 11 10,zV 12 1,yc 13 11 12,zV 4 13] zc)
abbrev c203:=za [zk 2 0,zK 4 0] k203_2
theorem ok203:Ao Qa 203 c203 14 [.t 4]=true:=by kernel_rfl
abbrev c207:=za [zu 6] (za [zV 7 0,zV 8 1,yB 9 7 8,zV 10 9,zZ 11 0 10,zZ 12 2 10,yx,zA 14 10 13,zV 6 14] zc)
theorem ok207:Ao Qa 207 c207 15 [.t 6]=true:=by kernel_rfl
abbrev c208:=za [zu 2] (za [zV 3 0,z2 4 3 0,zV 5 4,zZ 6 0 5,js 7 5 6 65535,zA 8 5 7,zV 2 8] zc)
theorem ok208:Ao Qa 208 c208 9 [.t 2]=true:=by kernel_rfl
abbrev c209:=za [zu 2] (za [zV 3 0,zQ 4 3 3,zV 5 4,zR 6 0 5,yR 7 5 6 4,zO 8 5 7,zV 2 8] zc)
theorem ok209:Ao Qa 209 c209 9 [.t 2]=true:=by kernel_rfl
abbrev k210_3:=za [zF 31 0 1,zM 32 31,zF 33 8 1,zM 34 33,zF 35 6 1,zM 36 35,zF 37 5 1,zM 38 37,W1 39 (.build [.int .i64 0,.int .i64 0,.int .i64 0,.int .i64 0,.int .i64 0,.int .i64 0,.int .i64 0,.bool false,.int .u64 0,.int .u64 0,.int .u64 0,.int .u64 0,.int .u64 0] [(0,1,(.t 32)),(7,1,(.c (.bool true))),(8,1,(.t 34)),(6,1,(.t 36)),(5,1,(.t 38))]),zS 13 2 39] zc
abbrev k210_8:=za [zQ 41 4 4,zV 40 41] (zb 40 (za [zF 42 0 1,zM 43 42,zF 44 8 1,zM 45 44,yu 46 43 8 1 45,zS 13 2 46] zc) (za [zQ 48 4 5,zV 47 48] (zb 47 (za [zF 49 0 1,zM 50 49,zF 51 9 1,zL 52 4 51,yu 53 50 9 4 52,zS 13 2 53] zc) zd)))
abbrev k210_9:=za [zQ 24 4 3,zV 23 24] (zb 23 (ze (za [zF 25 7 1,zM 26 25,zN 27 26] (zb 27 (za [zF 28 0 1,zM 29 28,ym 30 29,zS 13 2 30] zc) zd)) k210_3) k210_8)
abbrev k210_10:=za [zQ 15 4 2,zV 14 15] (zb 14 (za [zF 16 0 1,zM 17 16,zF 18 1 1,zM 19 18,zF 20 2 1,zM 21 20,yl 22 17 1 19 2 21,zS 13 2 22] zc) k210_9)
abbrev k210_11:AD:= .block 0 (za [zQ 6 4 1,zV 5 6] (zb 5 (za [zF 7 0 1,zM 8 7,zF 9 3 1,zM 10 9,zF 11 4 1,zM 12 11,yl 13 8 3 10 4 12,zS 13 2 13] zc) k210_10))
abbrev c210:=za [zk 1 0,zg 2] (ze (za [zF 3 0 1,zM 4 3] k210_11) (za [zr 54,zS 13 2 54] zc))
theorem ok210:Ao Qa 210 c210 55 [.c 2 (some 13)]=true:=by kernel_rfl
abbrev c211:=za [zu 6] (za [zV 7 0,zV 8 1,yB 9 7 8,zV 10 9,zZ 11 0 10,zZ 12 2 10,yx,zA 14 10 13,zV 6 14] zc)
theorem ok211:Ao Qa 211 c211 15 [.t 6]=true:=by kernel_rfl
abbrev k212_1:=za [zF 21 0 7,zF 22 0 21,zM 23 22,zQ 24 23 2,zV 25 24,zC 26 25 4 3,zJ 27 25 26,zZ 28 1 25,W2 29 25 true (.A9 13 (.t 27) (.t 28)),zx 30 25 13 29,zZ 31 6 25,zW 32 25 251 30 31,zA 33 25 32,zV 34 33,zx 35 34 5 3,zC 36 34 0 7,zC 37 34 1 36,zJ 38 34 37,zW 39 34 142 35 38,zA 40 34 39] (zb 40 (.region [zL 41 5 3,zF 42 0 7,zF 43 1 42,zM 44 43,zV 45 2,zp 46 212 41 44 45]) zd)
abbrev k212_2:=ze (.block 1 (za [zV 18 16,zX 19 5 14 16,zL 20 5 19,zz 7,zV 6 18,zS 5 7 20] k212_1)) (.region [zh 47 16,zV 16 47])
def b212_3:=za [zm 17 16 15] (ze (zb 17 zd (.exit 0)) k212_2)
abbrev k212_5:=za [zV 11 2,zV 12 1,⟨none,.ZR (.t 11) (.t 12) (.c (.bool true)),none⟩] (za [zF 13 3 3,zM 14 13,zn 15 14,zK 16 0] (.block 0 (.loop b212_3)))
abbrev c212:=za [zk 3 0] (ze (za [zV 8 2,zV 9 1,W1 10 (.Wb (.bool false) (.t 8) (.t 9))] (zb 10 zc zd)) k212_5)
theorem ok212:Ao Qa 212 c212 48 []=true:=by kernel_rfl
abbrev c213:=za [zk 2 0,zk 3 1,zK 4 0] (za [zF 5 4 2,zM 6 5,W1 7 (.YY 252 [(.t 3)]),zi 8 222 6 7,zV 4 8] zc)
theorem ok213:Ao Qa 213 c213 9 [.t 4]=true:=by kernel_rfl
abbrev c214:=za [zK 2 0] (ze (za [zV 3 0,zj 4 195 3,zN 5 4] (zb 5 (za [zK 2 0] zc) zd)) (za [zV 6 0,zV 2 6] zc))
theorem ok214:Ao Qa 214 c214 7 [.t 2]=true:=by kernel_rfl
abbrev k215_2:=ze (za [zL 5 5 2,zj 6 15 5,zN 7 6,zV 8 7,zR 9 1 8,yf 10 8 9 0,zO 11 8 10,zV 12 11,zR 13 1 12,zP 14 12 3 2,z6 15 12 14,z7 16 12 15,ye 17 12 13 16,zO 18 12 17] (zb 18 (za [zK 4 (-1)] zc) zd)) (za [zL 19 5 2,zV 20 1,zi 21 213 19 20,zV 4 21] zc)
abbrev c215:=za [zk 2 0,zK 4 0] k215_2
theorem ok215:Ao Qa 215 c215 22 [.t 4]=true:=by kernel_rfl
abbrev k221_2:=ze (za [zL 5 1 2,zV 6 1,zi 7 188 5 6,zN 8 7] (zb 8 (za [zt 4] zc) zd)) (za [zL 9 1 2,zV 10 1,zi 11 235 9 10,zV 4 11] zc)
abbrev c221:=za [zk 2 0,zt 4] k221_2
theorem ok221:Ao Qa 221 c221 12 [.t 4]=true:=by kernel_rfl
abbrev c223:=za [zk 1 0,zu 2] (za [zF 3 0 1,zM 4 3,zQ 5 4 0,zV 2 5] zc)
theorem ok223:Ao Qa 223 c223 6 [.t 2]=true:=by kernel_rfl
abbrev c224:=za [zK 4 0] (za [zV 5 0,zj 6 214 5,zV 7 1,zj 8 214 7,W1 9 (.bin .and (.t 6) (.t 8)),zV 4 9] zc)
theorem ok224:Ao Qa 224 c224 10 [.t 4]=true:=by kernel_rfl
abbrev k225_0:=za [zL 7 5 3,zj 8 15 7,zV 9 8,zZ 10 2 9,W2 11 9 true (.bin .geq (.t 10) (zI 0)),zA 12 9 11,zV 13 12,zZ 14 2 13,zC 15 13 3 3,zJ 16 13 15,yE 17 13 16,yA 18 13 14 17,zA 19 13 18,zV 20 19,zx 21 20 5 3,zZ 22 1 20,zZ 23 2 20,ju 24 20 145 21 22 23,zA 25 20 24,zV 6 25] zc
abbrev c225:=za [zk 3 0,zu 6] k225_0
theorem ok225:Ao Qa 225 c225 26 [.t 6]=true:=by kernel_rfl
abbrev k226_2:=ze (.block 1 (za [zX 39 1 35 37,zM 40 39,zV 9 40] (.region [zF 41 0 3,zM 42 41,zV 43 9,zV 44 2,zX 45 1 42 43,zS 1 45 44]))) (.region [zh 46 37,zV 37 46])
def b226_3:=za [zm 38 37 36] (ze (zb 38 zd (.exit 0)) k226_2)
abbrev k226_6:=ze (.drawn [(0,zF 47 0 3),(1,zM 48 47),(3,zF 50 0 3),(4,zM 51 50),(5,zV 52 1),(6,zX 53 1 51 52),(7,zM 54 53),(2,zV 49 2),(8,zX 55 1 48 49),(9,zS 1 55 54)] [[],[0],[],[],[3],[],[4,5],[6],[1,2,0,1,2,3,4,5,6,7],[8,7,0,1,2,3,4,5,6,7]] 0) (za [zF 56 0 3,zM 57 56,zV 58 1,zX 59 1 57 58,yJ 59 (-2)] (za [zL 60 1 3,zS 1 6 60,yy 7] zc))
abbrev k226_8:=za [zL 31 1 3,zj 32 255 31,zS 1 3 32] (ze (za [zL 33 1 3,zV 34 1,zi 35 235 33 34,zn 36 35,zK 37 0] (.block 0 (.loop b226_3))) k226_6)
abbrev k226_9:=ze (za [zL 10 1 3,zV 11 1,zi 12 188 10 11,zN 13 12,zV 14 13,zR 15 2 14,yf 16 14 15 0,zO 17 14 16,zV 18 17,zR 19 2 18,zP 20 18 0 3,z6 21 18 20,z7 22 18 21,ye 23 18 19 22,zO 24 18 23,zV 25 24,zT 26 25 1 3,zR 27 2 25,yU 28 25 146 26 27,zO 29 25 28] (zb 29 (za [W1 30 (.build [.lit (.slice none 0 0)] []),zS 1 6 30,zu 7] zc) zd)) k226_8
abbrev c226:=za [zk 3 0,yj 6,zu 7] k226_9
theorem ok226:Ao Qa 226 c226 61 [.c 6 (some 1),.t 7]=true:=by kernel_rfl
abbrev k234_0:AD:= .drawn [(1,zL 19 1 2),(2,zL 20 1 2),(3,zV 21 7),(4,zi 22 235 20 21),(5,zi 23 234 19 22),(0,zV 18 5),(6,yD 24 1 8 18 23),(7,zV 5 24)] [[],[],[],[],[2,3],[1,4,4],[0,5,5],[6,6,0,1,2,3,4,5,6]] 0
abbrev k234_2:=ze (.block 1 (za [zX 12 1 8 10,zM 13 12,zV 7 13] (za [zV 14 5,zV 15 7,yb 16 15,yD 17 1 8 14 16,zV 5 17] k234_0))) (.region [zh 25 10,zV 10 25])
def b234_3:=za [zm 11 10 9] (ze (zb 11 zd (.exit 0)) k234_2)
abbrev c234:=za [zk 2 0,zt 4] (za [zt 5] (ze (za [zV 8 1,zn 9 8,zK 10 0] (.block 0 (.loop b234_3))) (za [zV 26 5,zV 4 26] zc)))
theorem ok234:Ao Qa 234 c234 27 [.t 4]=true:=by kernel_rfl
abbrev k235_2:=ze (.block 1 (za [zV 13 11,zX 14 1 9 11,zM 15 14,zV 6 13,zV 7 15] (za [zV 16 7,zV 17 1,yo 18 16 17] (zb 18 (.region [zV 19 5,zV 20 6,yb 21 20,yD 22 1 8 19 21,zV 5 22]) zd)))) (.region [zh 23 11,zV 11 23])
def b235_3:=za [zm 12 11 10] (ze (zb 12 zd (.exit 0)) k235_2)
abbrev c235:=za [zk 2 0,zt 4] (za [zt 5] (ze (za [zF 8 0 2,zM 9 8,zn 10 9,zK 11 0] (.block 0 (.loop b235_3))) (za [zV 24 5,zV 4 24] zc)))
theorem ok235:Ao Qa 235 c235 25 [.t 4]=true:=by kernel_rfl
abbrev k238_2:=ze (za [zF 13 0 6,zM 14 13,z8 15 14 0,zV 16 15,zP 17 16 0 6,z6 18 16 17,W2 19 16 false (.bin .geq (.t 18) (zI 64)),zO 20 16 19,zV 21 20,zP 22 21 1 6,z6 23 21 22,yf 24 21 23 1,zO 25 21 24,zV 26 25,zP 27 26 1 6,z6 28 26 27,zP 29 26 0 6,z6 30 26 29,W2 31 26 false (.bin .sub (zI 64) (.t 30)),W2 32 26 false (.bin .gtr (.t 28) (.t 31)),zO 33 26 32,zV 34 33,zR 35 4 34,zT 36 34 2 6,yw 37 34 199 36,W2 38 34 false (.bin .and (.t 35) (.t 37)),W2 39 34 false (.bin .neq (.t 38) (.c (.int .u64 0))),zO 40 34 39] (zb 40 (za [ya 2,zu 3] zc) zd)) (.region [zV 41 4,zL 42 2 6,zj 43 199 42,W1 44 (.bin .or (.t 41) (.t 43)),zV 4 44])
def b238_4:=za [zm 10 9 8] (ze (zb 10 zd (.exit 0)) (ze (.block 1 (za [zX 11 2 7 9,zL 12 2 11,jt 6,zS 2 6 12] k238_2)) (.region [zh 45 9,zV 9 45])))
abbrev c238:=za [ya 2,zu 3] (za [ya 4] (ze (za [zV 7 0,zn 8 7,zK 9 0] (.block 0 (.loop b238_4))) (za [zV 46 4,zV 2 46,yy 3] zc)))
theorem ok238:Ao Qa 238 c238 47 [.t 2,.t 3]=true:=by kernel_rfl
abbrev k251_0:=ze (.drawn [(0,zF 5 0 2),(1,zM 6 5),(2,zQ 7 6 2),(3,zV 8 7),(5,zC 10 8 2 2),(6,zJ 11 8 10),(4,zZ 9 1 8),(7,W2 12 8 true (.bin .geq (.t 9) (.t 11))),(8,zA 13 8 12),(9,zV 14 13),(11,zC 16 14 2 2),(12,zJ 17 14 16),(13,zC 18 14 1 2),(14,zJ 19 14 18),(10,zZ 15 1 14),(15,W2 20 14 true (.bin .shl (zI 1) (.t 19))),(16,jr 21 14 17 20),(17,yA 22 14 15 21),(18,zA 23 14 22),(19,zV 4 23)] [[],[0],[1],[2],[3],[3],[5,3],[4,6,3],[3,7],[8,3],[9],[9],[11,9],[9],[13,9],[14,9],[12,15,9],[10,16,9],[9,17],[18,9,0,1,2,3,4,5,6,7,8,9,10,11,12,13,14,15,16,17,18]] 0) zc
abbrev c251:=za [zk 2 0,zu 4] k251_0
theorem ok251:Ao Qa 251 c251 24 [.t 4]=true:=by kernel_rfl
abbrev c252:=za [zk 2 0,zu 3] (za [zL 4 13 2,zM 5 1,zi 6 251 4 5,zV 3 6] zc)
theorem ok252:Ao Qa 252 c252 7 [.t 3]=true:=by kernel_rfl
abbrev c255:=za [zk 1 0,yj 2] (za [zF 3 0 1,zM 4 3,zj 5 204 4,jl 6 5,zS 1 2 6] zc)
theorem ok255:Ao Qa 255 c255 7 [.c 2 (some 1)]=true:=by kernel_rfl
set_option maxRecDepth 100000
abbrev c2:AD:= .Nx
theorem ok2:Ao Qa 2 c2 1 []=true:=by kernel_rfl
abbrev k78_1:=za [W1 5 (.EO 5 0 [.int .i64 0,.int .i64 0,.int .i64 0,.int .i64 0,.int .i64 0] []),zV 6 0,yD 7 5 40 5 6,zV 2 7] zc
abbrev c78:=za [zt 2] (ze (za [zV 3 0,jc] (zb 4 (za [zt 2] zc) zd)) k78_1)
theorem ok78:Ao Qa 78 c78 8 [.t 2]=true:=by kernel_rfl
abbrev k79_1:=za [W1 5 (.EO 13 0 [.int .i64 0,.int .i64 0,.int .i64 0,.int .i64 0,.int .i64 0,.int .i64 0,.int .i64 0,.bool false,.int .u64 0,.int .u64 0,.int .u64 0,.int .u64 0,.int .u64 0] []),zV 6 0,yD 7 13 104 5 6,zV 2 7] zc
abbrev c79:=za [zt 2] (ze (za [zV 3 0,jc] (zb 4 (za [zt 2] zc) zd)) k79_1)
theorem ok79:Ao Qa 79 c79 8 [.t 2]=true:=by kernel_rfl
abbrev k96_2:=ze (.drawn [(0,zV 16 0),(1,zV 17 5),(2,zX 18 5 16 17),(3,zL 19 5 18),(4,zV 20 1),(5,zV 21 5),(6,zX 22 5 20 21),(7,zL 23 5 22),(8,W1 24 (.eqs true [0,0,0,0,0] (.t 19) (.t 23)))] [[],[],[0,1],[2],[],[],[4,5],[6],[3,7]] 0) (zb 24 (za [zu 4] zc) zd)
def b96_4:=za [zm 14 13 12] (ze (zb 14 zd (.exit 0)) (ze (.block 1 (za [zV 15 13,zV 5 15] k96_2)) (.region [zh 25 13,zV 13 25])))
abbrev k96_6:=ze (za [zV 6 0,zn 7 6,zV 8 1,zn 9 8,jd 10 7 9] (zb 10 (za [zu 4] zc) zd)) (ze (za [zV 11 0,zn 12 11,zK 13 0] (.block 0 (.loop b96_4))) (za [yy 4] zc))
abbrev c96:=za [zu 4] k96_6
theorem ok96:Ao Qa 96 c96 26 [.t 4]=true:=by kernel_rfl
abbrev k97_2:=ze (.drawn [(0,zV 16 0),(1,zV 17 5),(2,zX 18 13 16 17),(3,zL 19 13 18),(4,zV 20 1),(5,zV 21 5),(6,zX 22 13 20 21),(7,zL 23 13 22),(8,je 24 19 23)] [[],[],[0,1],[2],[],[],[4,5],[6],[3,7]] 0) (zb 24 (za [zu 4] zc) zd)
def b97_4:=za [zm 14 13 12] (ze (zb 14 zd (.exit 0)) (ze (.block 1 (za [zV 15 13,zV 5 15] k97_2)) (.region [zh 25 13,zV 13 25])))
abbrev k97_6:=ze (za [zV 6 0,zn 7 6,zV 8 1,zn 9 8,jd 10 7 9] (zb 10 (za [zu 4] zc) zd)) (ze (za [zV 11 0,zn 12 11,zK 13 0] (.block 0 (.loop b97_4))) (za [yy 4] zc))
abbrev c97:=za [zu 4] k97_6
theorem ok97:Ao Qa 97 c97 26 [.t 4]=true:=by kernel_rfl
abbrev c115:=za [zu 4] (za [zV 5 0,zV 6 1,zi 7 190 5 6,z2 8 7 0,zV 4 8] zc)
theorem ok115:Ao Qa 115 c115 9 [.t 4]=true:=by kernel_rfl
abbrev c117:=za [zu 4] (za [zV 5 0,zV 6 1,zi 7 193 5 6,z2 8 7 0,zV 4 8] zc)
theorem ok117:Ao Qa 117 c117 9 [.t 4]=true:=by kernel_rfl
abbrev k139_1:=za [zV 45 0,zV 46 3,zV 47 4,zV 48 5,zX 49 1 47 48,zM 50 49,zX 51 1 45 46,zS 1 51 50] (.region [zV 52 3,zh 53 52,zV 3 53])
abbrev k139_2:=ze (.block 3 (ze (.drawn [(0,zV 35 4),(1,zV 36 5),(2,zX 37 1 35 36),(3,zM 38 37),(4,zV 39 4),(5,zV 40 5),(6,yY 41 40),(7,zX 42 1 39 41),(8,zM 43 42),(9,jd 44 38 43)] [[],[],[0,1],[2],[],[],[5],[4,6],[7],[3,8]] 0) (zb 44 k139_1 zd))) (.region [zV 33 5,zh 34 33,zV 5 34])
def b139_3:=ze (za [zV 29 5,zV 30 4,zn 31 30,zm 32 29 31] (zb 32 zd (.exit 2))) k139_2
abbrev k139_5:=za [zV 54 0,zV 55 3,W1 56 (.Ue 1 (.t 54) (some (.t 55)) none none),⟨none,.clr 1 [.int .i64 0] (.t 56),none⟩] (za [zV 57 0,zV 58 3,W1 59 (.Ue 1 (.t 57) none (some (.t 58)) none),zV 2 59] zc)
abbrev k139_7:=za [zV 26 0,zV 27 3,W1 28 (.Ue 1 (.t 26) (some (.t 27)) none none),zV 4 28] (ze (za [zK 5 1] (.block 2 (.loop b139_3))) k139_5)
abbrev k139_8:=ze (.block 1 (ze (.drawn [(0,zV 16 0),(1,zV 17 3),(2,zX 18 1 16 17),(3,zM 19 18),(4,zV 20 0),(5,zV 21 3),(6,yY 22 21),(7,zX 23 1 20 22),(8,zM 24 23),(9,yo 25 19 24)] [[],[],[0,1],[2],[],[],[5],[4,6],[7],[3,8]] 0) (zb 25 k139_7 zd))) (.region [zV 14 3,zh 15 14,zV 3 15])
def b139_9:=ze (za [zV 10 3,zV 11 0,zn 12 11,zm 13 10 12] (zb 13 zd (.exit 0))) k139_8
abbrev k139_11:=ze (za [zV 6 0,zn 7 6,z8 8 7 2] (zb 8 (za [zV 9 0,zV 2 9] zc) zd)) (ze (za [zK 3 1] (.block 0 (.loop b139_9))) (za [zV 60 0,zV 2 60] zc))
abbrev c139:=za [zt 2] k139_11
theorem ok139:Ao Qa 139 c139 61 [.t 2]=true:=by kernel_rfl
abbrev c189:=za [W1 4 (.mv (.c (.str []))),W1 5 (.mv (.c (.str []))),zu 6] (za [zV 7 0,zV 8 1,zi 9 227 7 8,zE 10 9 0,zE 11 9 1,zE 12 9 2,zV 4 10,zV 5 11,zV 6 12] zc)
theorem ok189:Ao Qa 189 c189 13 [.t 4,.t 5,.t 6]=true:=by kernel_rfl
abbrev c190:=za [zK 4 0] (za [zV 5 0,zV 6 1,zi 7 228 5 6,zV 4 7] zc)
theorem ok190:Ao Qa 190 c190 8 [.t 4]=true:=by kernel_rfl
abbrev c192:=za [zu 4] (za [zV 5 0,zV 6 1,zi 7 229 5 6,z2 8 7 0,zV 4 8] zc)
theorem ok192:Ao Qa 192 c192 9 [.t 4]=true:=by kernel_rfl
abbrev k193_2:=ze (za [zV 19 5,W1 20 (.bin .geq (.t 19) (.c (.int .i32 128)))] (zb 20 (.region [W1 5 (.mv (.c (.int .i32 65533)))]) zd)) (za [zV 21 0,zV 22 5,zi 23 230 21 22,zV 4 23] zc)
abbrev k193_5:=ze (.block 1 (za [zV 39 0,zV 40 8,yH 41 39 40,zi 42 233 6 41] (zb 42 (za [zV 43 8,zV 4 43] zc) zd))) (.region [zV 37 8,zh 38 37,zV 8 38])
def b193_6:=ze (za [zV 33 8,zV 34 0,yt 35 34,zm 36 33 35] (zb 36 zd (.exit 0))) k193_5
abbrev k193_9:=za [zV 28 1,zj 29 232 28,zV 27 29,zE 30 27 0,zE 31 27 1,jn 6,zS 256 6 30,zV 7 31] (za [zV 32 7] (zb 32 (ze (za [zK 8 0] (.block 0 (.loop b193_6))) (za [zK 4 (-1)] zc)) zd))
abbrev k193_12:AD:= .block 3 (za [zE 48 46 1,zE 49 46 2,zV 9 48,zV 10 49] (za [zV 50 1,zV 51 10,zi 52 230 50 51,z2 53 52 0] (zb 53 (za [zV 54 9,zV 4 54] zc) zd)))
def b193_13:=za [W1 46 (.Ya (.t 45)),zE 47 46 0] (ze (zb 47 zd (.exit 2)) k193_12)
abbrev k193_15:=ze (za [zV 24 0,yt 25 24,zj 26 231 25] (zb 26 k193_9 zd)) (ze (za [zV 44 0,W1 45 (.Yg (.t 44))] (.block 2 (.loop b193_13))) (za [zK 4 (-1)] zc))
abbrev k193_16:=ze (za [zV 13 1,yt 14 13,zQ 15 14 1] (zb 15 (za [zV 16 1,jj 17 16 0,W1 18 (.Hp .i32 (.t 17)),zV 5 18] k193_2) zd)) k193_15
abbrev c193:=za [zK 4 0] (ze (za [zV 11 1,W1 12 (.MG .eql (.t 11) (.c (.str [])))] (zb 12 (za [zK 4 (-1)] zc) zd)) k193_16)
theorem ok193:Ao Qa 193 c193 55 [.t 4]=true:=by kernel_rfl
abbrev c204:=za [zt 2] (ze (za [zV 3 0,jc] (zb 4 (za [zt 2] zc) zd)) (za [W1 5 (.EO 1 0 [.int .i64 0] []),zV 6 0,yD 7 1 8 5 6,zV 2 7] zc))
theorem ok204:Ao Qa 204 c204 8 [.t 2]=true:=by kernel_rfl
abbrev k222_2:=ze (.block 1 (za [zV 10 8,zV 5 10] (za [zV 11 1,zV 12 0,zV 13 5,zX 14 13 12 13,zL 15 13 14,yX] (zb 16 (za [zV 17 5,zV 4 17] zc) zd)))) (.region [zh 18 8,zV 8 18])
def b222_3:=za [zm 9 8 7] (ze (zb 9 zd (.exit 0)) k222_2)
abbrev c222:=za [zK 4 0] (ze (za [zV 6 0,zn 7 6,zK 8 0] (.block 0 (.loop b222_3))) (za [zK 4 (-1)] zc))
theorem ok222:Ao Qa 222 c222 19 [.t 4]=true:=by kernel_rfl
abbrev k227_0:=ze (.drawn [(0,zV 13 0),(1,zV 14 7),(2,W1 15 (.Km (.t 13) none (some (.t 14)))),(3,zV 16 0),(4,zV 17 7),(5,zV 18 1),(6,yt 19 18),(7,yc 20 17 19),(8,W1 21 (.Km (.t 16) (some (.t 20)) none)),(9,zV 4 15),(10,zV 5 21),(11,yy 6)] [[],[],[0,1],[],[],[],[5],[4,6],[3,7],[2,0,1,2],[8,9,0,1,2,3,4,5,6,7,8,9],[10,0,1,2,3,4,5,6,7,8,9,10]] 0) zc
abbrev k227_3:=ze (za [zV 8 0,zV 9 1,zi 10 228 8 9,zV 7 10] (za [zV 11 7,z2 12 11 0] (zb 12 k227_0 zd))) (za [zV 22 0,zV 4 22,W1 5 (.mv (.c (.str []))),zu 6] zc)
abbrev c227:=za [W1 4 (.mv (.c (.str []))),W1 5 (.mv (.c (.str []))),zu 6] k227_3
theorem ok227:Ao Qa 227 c227 23 [.t 4,.t 5,.t 6]=true:=by kernel_rfl
abbrev k228_3:=za [zV 32 5,zV 33 0,yt 34 33,yB 35 32 34,zV 31 35] (zb 31 (za [zK 4 (-1)] zc) (ze (.Nx) (zb 36 (ze (.Nx) zc) zd)))
abbrev k228_5:=zb 16 (za [zK 4 0] zc) (za [zV 25 5,zQ 26 25 1,zV 24 26] (zb 24 (za [zV 27 0,zV 28 1,jj 29 28 0,zi 30 256 27 29,zV 4 30] zc) k228_3))
abbrev k228_8:=ze (za [zV 72 11,z8 73 72 0] (zb 73 (za [zK 4 (-1)] zc) zd)) (.region [zV 74 8,zV 75 11,zh 76 75,yc 77 74 76,zV 8 77])
abbrev k228_9:=za [zV 65 0,zV 66 8,zh 67 66,zV 68 9,W1 69 (.Km (.t 65) (some (.t 67)) (some (.t 68))),zV 70 6,zi 71 256 69 70,zV 11 71] k228_8
abbrev k228_12:=ze (za [zV 113 12,z2 114 113 0] (zb 114 (za [zV 115 12,zV 116 8,yc 117 115 116,zV 4 117] zc) zd)) (za [zK 4 (-1)] zc)
abbrev k228_15:=ze (za [zV 138 13,z8 139 138 0] (zb 139 (za [zK 4 (-1)] zc) zd)) (za [zV 140 8,zV 141 13,yc 142 140 141,zV 4 142] zc)
abbrev k228_17:=zb 107 (ze (.Nx) k228_12) (ze (.Nx) (zb 132 (za [zV 133 0,zV 134 8,W1 135 (.Km (.t 133) (some (.t 134)) none),zV 136 1,zi 137 259 135 136,zV 13 137] k228_15) zd))
abbrev k228_20:=ze (za [zV 78 0,zV 79 8,zh 80 79,yH 81 78 80,zV 82 7,yo 83 81 82,zV 84 83,zZ 85 0 84,zZ 86 8 84,zZ 87 8 84,zZ 88 5 84,jr 89 84 87 88,W2 90 84 true (.Km (.t 85) (some (.t 86)) (some (.t 89))),zZ 91 1 84,jq 92 84 90 91,zA 93 84 92] (zb 93 (za [zV 94 8,zV 4 94] zc) zd)) (za [zV 95 8,zh 96 95,zV 8 96] (za [zV 97 10,zh 98 97,zV 10 98] (ze (.Nx) k228_17)))
def b228_22:=ze (za [zV 57 8,zV 58 9,zm 59 57 58] (zb 59 zd (.exit 1))) (.block 2 (ze (za [zV 60 0,zV 61 8,yH 62 60 61,zV 63 6,jd 64 62 63] (zb 64 k228_9 zd)) k228_20))
abbrev k228_24:=za [zV 52 0,yt 53 52,zV 54 5,yW 55 53 54,zh 56 55,zV 9 56] (za [zK 10 0] (ze (.block 1 (.loop b228_22)) (za [zK 4 (-1)] zc)))
abbrev k228_27:=ze (.block 0 (za [zV 17 5,zQ 18 17 0,zV 19 18,zR 20 1 19,zR 21 0 19,W2 22 19 false (.MG .eql (.t 20) (.t 21)),zO 23 19 22,zV 16 23] k228_5)) (za [zV 48 1,jj 49 48 0,zV 6 49] (za [zV 50 1,jj 51 50 1,zV 7 51] (za [zK 8 0] k228_24)))
abbrev c228:=za [zK 4 0] (za [zV 14 1,yt 15 14,zV 5 15] k228_27)
theorem ok228:Ao Qa 228 c228 143 [.t 4]=true:=by kernel_rfl
abbrev k229_2:=ze (.block 1 (za [zV 10 8,zV 5 10] (za [zV 11 1,zV 12 0,zV 13 5,zX 14 1 12 13,zM 15 14,yX] (zb 16 (za [zV 17 5,zV 4 17] zc) zd)))) (.region [zh 18 8,zV 8 18])
def b229_3:=za [zm 9 8 7] (ze (zb 9 zd (.exit 0)) k229_2)
abbrev c229:=za [zK 4 0] (ze (za [zV 6 0,zn 7 6,zK 8 0] (.block 0 (.loop b229_3))) (za [zK 4 (-1)] zc))
theorem ok229:Ao Qa 229 c229 19 [.t 4]=true:=by kernel_rfl
abbrev k230_2:AD:= .block 10 (za [zE 178 176 1,zE 179 176 2,zV 5 178,zV 6 179] (za [zV 180 6,jp 181 180] (zb 181 (za [zV 182 5,zV 4 182] zc) zd)))
def b230_3:=za [W1 176 (.Ya (.t 175)),zE 177 176 0] (ze (zb 177 zd (.exit 9)) k230_2)
abbrev k230_7:=za [zV 172 1,jp 173 172,zV 171 173] (zb 171 (ze (za [zV 174 0,W1 175 (.Yg (.t 174))] (.block 9 (.loop b230_3))) (za [zK 4 (-1)] zc)) (za [zV 184 1,zj 185 261 184,zN 186 185,zV 183 186] (zb 183 (za [zK 4 (-1)] zc) (.Nx))))
abbrev k230_8:AD:= .block 0 (za [zV 161 1,W1 162 (.bin .leq (.c (.int .i32 0)) (.t 161)),zV 163 162,zZ 164 1 163,W2 165 163 true (.bin .lss (.t 164) (.c (.int .i32 128))),zA 166 163 165,zV 160 166] (zb 160 (za [zV 167 0,zV 168 1,W1 169 (.Hp .u8 (.t 168)),zi 170 260 167 169,zV 4 170] zc) k230_7))
abbrev c230:=za [zK 4 0] k230_8
theorem ok230:Ao Qa 230 c230 187 [.t 4]=true:=by kernel_rfl
abbrev c231:=za [zu 2] (za [zV 3 0,yC 4 3 8,zV 2 4] zc)
theorem ok231:Ao Qa 231 c231 5 [.t 2]=true:=by kernel_rfl
abbrev k232_1:=ze (za [zV 15 5,W1 16 (.bin .geq (.t 15) (.c (.int .u8 128)))] (zb 16 (za [zL 17 256 2,zS 256 2 17,zu 3] zc) zd)) (.region [zV 18 5,jo 19 256 2 18,jk 19])
def b232_3:=ze (za [zV 6 4,zV 7 0,yt 8 7,zm 9 6 8] (zb 9 zd (.exit 0))) (ze (.block 1 (za [zV 12 0,zV 13 4,yH 14 12 13,zV 5 14] k232_1)) (.region [zV 10 4,zh 11 10,zV 4 11]))
abbrev c232:=za [jn 2,zu 3] (ze (za [zK 4 0] (.block 0 (.loop b232_3))) (za [zL 20 256 2,zS 256 2 20,yy 3] zc))
theorem ok232:Ao Qa 232 c232 21 [.c 2 (some 256),.t 3]=true:=by kernel_rfl
abbrev c233:=za [zu 4] (za [zV 5 0,zV 6 1,W1 7 (.Pb (.t 5)),jo 8 256 7 6,zM 9 8,zV 4 9] zc)
theorem ok233:Ao Qa 233 c233 10 [.t 4]=true:=by kernel_rfl
abbrev c256:=za [zK 4 0] (ze (.Nx) zc)
theorem ok256:Ao Qa 256 c256 8 [.t 4]=true:=by kernel_rfl
abbrev k259_0:=ze (.block 1 (.region [zV 23 8,yT 24 23,zV 25 0,zV 26 9,yH 27 25 26,jh 28 27,yc 29 24 28,zV 8 29])) (.region [zV 21 9,zh 22 21,zV 9 22])
def b259_1:=ze (za [zV 18 9,zV 19 7,zm 20 18 19] (zb 20 zd (.exit 0))) k259_0
abbrev k259_4:=za [zV 65 8,zV 66 5,yo 67 65 66,zV 68 67,zZ 69 0 68,zZ 70 10 68,zZ 71 7 68,W2 72 68 true (.bin .sub (.t 70) (.t 71)),zZ 73 10 68,W2 74 68 true (.Km (.t 69) (some (.t 72)) (some (.t 73))),zZ 75 1 68,jq 76 68 74 75,zA 77 68 76] (zb 77 (za [zV 78 10,zV 79 7,yW 80 78 79,zV 4 80] zc) zd)
abbrev k259_6:=za [zV 53 8,zV 54 6,zV 55 0,zV 56 10,zV 57 7,yW 58 56 57,yH 59 55 58,jh 60 59,W1 61 (.bin .mul (.t 54) (.t 60)),yW 62 53 61,zV 8 62] (za [zV 63 10,zh 64 63,zV 10 64] k259_4)
abbrev k259_8:AD:= .block 3 (za [zV 45 8,yT 46 45,zV 8 46] (za [zV 47 8,zV 48 0,zV 49 10,yH 50 48 49,jh 51 50,yc 52 47 51,zV 8 52] k259_6))
def b259_9:=ze (za [zV 41 10,zV 42 0,yt 43 42,zm 44 41 43] (zb 44 zd (.exit 2))) k259_8
abbrev k259_11:=ze (za [zV 30 8,zV 31 5,yo 32 30 31,zV 33 32,zZ 34 0 33,zZ 35 7 33,W2 36 33 true (.Km (.t 34) none (some (.t 35))),zZ 37 1 33,jq 38 33 36 37,zA 39 33 38] (zb 39 (za [zK 4 0] zc) zd)) (ze (za [zV 40 7,zV 10 40] (.block 2 (.loop b259_9))) (za [zK 4 (-1)] zc))
abbrev k259_14:=za [zV 12 1,zj 13 270 12,zV 11 13,zE 14 11 0,zE 15 11 1,zV 5 14,zV 6 15] (za [zV 16 1,yt 17 16,zV 7 17] (za [yN 8 0] (ze (za [zK 9 0] (.block 0 (.loop b259_1))) k259_11)))
abbrev c259:=za [zK 4 0] k259_14
theorem ok259:Ao Qa 259 c259 81 [.t 4]=true:=by kernel_rfl
abbrev c260:=za [zK 4 0] (za [zV 5 0,zV 6 1,zi 7 256 5 6,zV 4 7] zc)
theorem ok260:Ao Qa 260 c260 8 [.t 4]=true:=by kernel_rfl
abbrev k261_1:=za [zV 11 0,W1 12 (.bin .lss (.c (.int .i32 57343)) (.t 11)),zV 13 12,zZ 14 0 13,W2 15 13 true (.bin .leq (.t 14) (.c (.int .i32 1114111))),zA 16 13 15,zV 10 16] (zb 10 (za [yy 2] zc) zd)
abbrev k261_3:=ze (.block 0 (za [zV 4 0,W1 5 (.bin .leq (.c (.int .i32 0)) (.t 4)),zV 6 5,zZ 7 0 6,W2 8 6 true (.bin .lss (.t 7) (.c (.int .i32 55296))),zA 9 6 8,zV 3 9] (zb 3 (za [yy 2] zc) k261_1))) (za [zu 2] zc)
abbrev c261:=za [zu 2] k261_3
theorem ok261:Ao Qa 261 c261 17 [.t 2]=true:=by kernel_rfl
abbrev k270_0:=ze (.block 1 (.region [zV 15 4,yT 16 15,zV 17 0,zV 18 5,yH 19 17 18,jh 20 19,yc 21 16 20,zV 4 21])) (.region [zV 13 5,zh 14 13,zV 5 14])
def b270_1:=ze (za [zV 9 5,zV 10 0,yt 11 10,zm 12 9 11] (zb 12 zd (.exit 0))) k270_0
abbrev k270_4:=ze (.block 3 (ze (za [zV 28 8,W1 29 (.bin .and (.t 28) (zI 1)),zv 30 29 0] (zb 30 (.region [zV 31 6,zV 32 7,W1 33 (.bin .mul (.t 31) (.t 32)),zV 6 33]) zd)) (.region [zV 34 7,zV 35 7,W1 36 (.bin .mul (.t 34) (.t 35)),zV 7 36]))) (.region [zV 26 8,W1 27 (.bin .shr (.t 26) (.c (.int .u64 1))),zV 8 27])
def b270_5:=ze (za [zV 24 8,yC 25 24 0] (zb 25 zd (.exit 2))) k270_4
abbrev k270_8:=ze (za [zK 5 0] (.block 0 (.loop b270_1))) (za [yN 6 1,yN 7 16777619] (ze (za [zV 22 0,yt 23 22,zV 8 23] (.block 2 (.loop b270_5))) (za [zV 37 4,zV 38 6,zV 2 37,zV 3 38] zc)))
abbrev c270:=za [yN 2 0,yN 3 0] (za [yN 4 0] k270_8)
theorem ok270:Ao Qa 270 c270 39 [.t 2,.t 3]=true:=by kernel_rfl
abbrev c271:=za [zu 4] (za [zV 5 0,zV 6 1,zi 7 274 5 6,z2 8 7 0,zV 4 8] zc)
theorem ok271:Ao Qa 271 c271 9 [.t 4]=true:=by kernel_rfl
abbrev k274_2:=ze (.block 1 (za [zV 10 8,zV 5 10] (za [zV 11 1,zV 12 0,zV 13 5,zX 14 5 12 13,zL 15 5 14,yX] (zb 16 (za [zV 17 5,zV 4 17] zc) zd)))) (.region [zh 18 8,zV 8 18])
def b274_3:=za [zm 9 8 7] (ze (zb 9 zd (.exit 0)) k274_2)
abbrev c274:=za [zK 4 0] (ze (za [zV 6 0,zn 7 6,zK 8 0] (.block 0 (.loop b274_3))) (za [zK 4 (-1)] zc))
theorem ok274:Ao Qa 274 c274 19 [.t 4]=true:=by kernel_rfl
end Go.Proofs.YtlaipllgmddkiaaGreat.Ax
