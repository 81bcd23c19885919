/- Texts put behind one another: AxCLib, AxCBase. Conditions: none. -/
import Derived.Test.YtohgndhnndeijaaGreatAxEnterZ
import Derived.Test.YtohgndhnndeijaaGreatProg
import Derived.KernelRfl
set_option linter.all false
open Go.Proofs.Tryz renaming prog -> Qa
namespace Go.Proofs.YtohgndhnndeijaaGreat.Ax
open Go Go.Ax
abbrev zf(a:Nat):A6:=W1 a (.new [.int .i64 0,.int .i64 0,.int .i64 0,.lit (.slice none 0 0),.lit (.slice none 0 0)])
abbrev zg(a:Nat):A6:=W1 a (.new [.int .i64 0,.int .i64 0,.int .i64 0,.int .i64 0,.int .i64 0,.int .i64 0,.int .i64 0,.bool false,.int .u64 0,.int .u64 0,.int .u64 0,.int .u64 0,.int .u64 0])
abbrev zh(a b:Nat)(c:Int):A6:=W1 a (.bin .add (.t b) (zI c))
abbrev zi(a b c:Nat):A6:=W1 a (.call b [(.t c)])
abbrev zj(a b c d:Nat):A6:=W1 a (.call b [(.t c),(.t d)])
abbrev zk(a:Nat):A6:=W1 a (.mv (.c (.lit (.slice none 0 0))))
abbrev zl(a b:Nat):A6:=W1 a (.box (.t b))
abbrev zm(a b c:Nat):A6:=W1 a (.bin .lss (.t b) (.t c))
abbrev zn(a b:Nat):A6:=W1 a (.len false (.t b))
abbrev zo(a:Nat)(b:Int):A6:=W1 a (.build [.int .i64 0,.int .u64 0,.int .i64 0] [(0,1,(zI b))])
abbrev zp(a b c:Nat):A6:=W1 a (.build [.int .i64 0,.int .u64 0,.int .i64 0] [(b,1,(.t c))])
abbrev zq(a:Nat):A6:=W1 a (.build [.int .i64 0,.int .i64 0,.int .i64 0,.int .i64 0,.int .i64 0,.int .i64 0,.int .i64 0,.bool false,.int .u64 0,.int .u64 0,.int .u64 0,.int .u64 0,.int .u64 0] [])
abbrev zr(a:Nat):A6:=W1 a (.new [.int .i64 0,.int .i64 0,.int .i64 0,.int .i64 0])
abbrev zt(a:Nat):A6:=zB a false
abbrev zu(a b c d e:Nat):A6:=W1 a (.call b [(.t c),(.t d),(.t e)])
abbrev zv(a b c d:Nat):A6:=W2 a b true (.ld (some c) (.t d))
abbrev zw(a b:Nat)(c:Int):A6:=W1 a (.bin .neq (.t b) (zI c))
abbrev zx(a:Nat):A6:=W1 a (.new [.int .i64 0,.int .i64 0,.int .i64 0,.int .i64 0,.int .i64 0])
abbrev zy(a b c d e:Nat):A6:=W2 a b true (.call c [(.t d),(.t e)])
abbrev zz(a:Nat):A6:=W1 a (.build [.int .i64 0,.int .i64 0,.int .i64 0,.int .i64 0] [])
abbrev zC(a:Nat):A6:=W1 a (.new [.int .i64 0,.int .u64 0,.int .i64 0])
abbrev zH(a b c:Nat):A6:=zU a b c true
abbrev zJ(a:Nat)(b c:Int):A6:=W1 a (.build [.int .i64 0,.int .i64 0] [(0,1,(zI b)),(1,1,(zI c))])
abbrev zP(a b:Nat)(c:Int):A6:=W1 a (.bin .geq (.t b) (zI c))
abbrev zR(a b c d:Nat):A6:=zG a b true c d
abbrev zT(a b c:Nat):A6:=zU a b c false
abbrev zW(a b c:Nat):A6:=W1 a (.bin .add (.t b) (.t c))
abbrev zY(a b c:Nat)(d:Int):A6:=W2 a b true (.bin .eql (.t c) (zI d))
abbrev zZ(a b c d:Nat):A6:=W2 a b false (.pick (.t c) (.t d) (.c (.bool false)))
abbrev z6(a b c:Nat):A6:=W2 a b true (.build [.int .i64 0,.int .u64 0] [(0,1,(.t c))])
abbrev z7(a b c d:Nat):A6:=W2 a b false (.ld (some c) (.t d))
abbrev z8(a b c:Nat):A6:=zD a b true c
abbrev ya(a b c:Nat)(d:Int):A6:=W2 a b true (.bin .neq (.t c) (zI d))
abbrev yb(a b c d:Nat):A6:=zG a b false c d
abbrev yc(a:Nat)(b:Int):A6:=W1 a (.mv (.c (.int .u64 b)))
abbrev yd(a b c:Nat):A6:=W2 a b false (.len false (.t c))
abbrev ye(a b:Nat):A6:=W1 a (.Hp .u64 (.t b))
abbrev yf(a b c:Nat):A6:=W2 a b false (.un .not (.t c))
abbrev yg(a b c:Nat):A6:=zD a b false c
abbrev yh(a b c d:Nat):A6:=W2 a b true (.call c [(.t d)])
abbrev yi(a:Nat)(b:Int):A6:=W2 a 104 true (.build [.int .i64 0,.int .u64 0] [(0,1,(zI b))])
abbrev yj(a b c:Nat)(d:Int):A6:=W2 a b false (.bin .lss (.t c) (zI d))
abbrev yk(a b:Nat)(c:Int):A6:=W1 a (.bin .lss (.t b) (zI c))
abbrev yl(a b c d e:Nat):A6:=W1 a (.app b c (.t d) (.t e))
abbrev ym(a b c d:Nat):A6:=W2 a b false (.call c [(.t d)])
abbrev yn(a b c:Nat)(d:Int):A6:=W2 a b false (.bin .gtr (.t c) (zI d))
abbrev yo(a b c:Nat):A6:=W1 a (.build [.int .i64 0,.int .i64 0,.int .i64 0,.int .i64 0,.int .i64 0] [(0,4,(.t b)),(4,1,(.t c))])
abbrev yp(a b c:Nat)(d e:Int):A6:=W1 a (.call b [(.t c),(zI d),(zI e)])
abbrev yq(a:Nat):A6:=W1 a (.mv (.c (.lit (.complex .f64 0 0))))
abbrev yr(a b c d e f:Nat):A6:=W1 a (.build [.int .i64 0,.int .i64 0,.int .i64 0,.int .i64 0,.int .i64 0,.int .i64 0,.int .i64 0,.bool false,.int .u64 0,.int .u64 0,.int .u64 0,.int .u64 0,.int .u64 0] [(0,1,(.t b)),(c,1,(.t d)),(e,1,(.t f))])
abbrev yt(a b:Nat):A6:=W1 a (.build [.int .i64 0,.int .i64 0,.int .i64 0,.int .i64 0,.int .i64 0,.int .i64 0,.int .i64 0,.bool false,.int .u64 0,.int .u64 0,.int .u64 0,.int .u64 0,.int .u64 0] [(0,1,(.t b))])
abbrev yu(a b c d:Nat):A6:=W2 a b true (.pick (.t c) (.c (.bool true)) (.t d))
abbrev yw(a b c:Nat):A6:=W1 a (.bin .eql (.t b) (.t c))
abbrev yx(a b:Nat):A6:=W1 a (.len true (.t b))
abbrev yy(a b c d e:Nat):A6:=W1 a (.build [.int .i64 0,.int .i64 0,.int .i64 0,.int .i64 0,.int .i64 0,.int .i64 0,.int .i64 0,.bool false,.int .u64 0,.int .u64 0,.int .u64 0,.int .u64 0,.int .u64 0] [(0,1,(.t b)),(c,d,(.t e))])
abbrev yz(a b:Nat):A6:=W1 a (.EO 1 1 [.int .i64 0] [(0,(.t b))])
abbrev yA(a b c:Nat)(d:Int):A6:=W2 a b false (.bin .neq (.t c) (zI d))
abbrev yB(a b c:Nat):A6:=W2 a b true (.un .not (.t c))
abbrev yC(a b c:Nat):A6:=W2 a b true (.len false (.t c))
abbrev yD(a b c d:Nat):A6:=W2 a b true (.bin .lss (.t c) (.t d))
abbrev yE(a:Nat):A6:=zB a true
abbrev yF:A6:=W2 13 10 true (.bin .leq (.t 11) (.t 12))
abbrev yG(a b:Nat)(c:Int):A6:=W1 a (.bin .gtr (.t b) (zI c))
abbrev yH(a:Nat):A6:=W1 a (.build [.int .i64 0,.int .u64 0,.int .i64 0] [])
abbrev yI(a b c d:Nat):A6:=W2 a b false (.bin .geq (.t c) (.t d))
abbrev yJ(a b c:Nat):A6:=W1 a (.bin .geq (.t b) (.t c))
abbrev yK(a:Nat)(b c:Int):A6:=W1 a (.build [.int .i64 0,.int .u64 0] [(0,1,(zI b)),(1,1,(.c (.int .u64 c)))])
abbrev yL(a:Nat):A6:=W1 a (.new [.lit (.slice none 0 0)])
abbrev yM(a b:Nat):A6:=W1 a (.call b [])
abbrev yN(a b c d:Nat):A6:=W1 a (.build [.int .i64 0,.int .i64 0,.int .i64 0,.lit (.slice none 0 0),.lit (.slice none 0 0)] [(0,3,(.t b)),(3,1,(.t c)),(4,1,(.t d))])
abbrev yO(a b c:Nat):A6:=W1 a (.FA (.t b) (.t c))
abbrev yP(a b c:Nat):A6:=W1 a (.bin .neq (.t b) (.t c))
abbrev yQ(a b c:Nat):A6:=W1 a (.bin .sub (.t b) (.t c))
abbrev yR(a:Nat)(b:Int):A6:=⟨none,.st 1 (.t a) (zI b),none⟩
abbrev yS(a:Nat)(b:Int):A6:=W1 a (.mv (.c (.int .u32 b)))
abbrev yT(a b c:Nat)(d:Int):A6:=W1 a (.call b [(.t c),(zI d)])
abbrev yU(a b c:Nat):A6:=W2 a b false (.bin .sub (.t c) (zI 1))
abbrev yV(a:Nat):A6:=W1 a (.build [.int .i64 0,.int .i64 0,.int .i64 0,.lit (.slice none 0 0),.lit (.slice none 0 0)] [])
abbrev yW(a:Nat)(b:Int)(c:Nat):A6:=W1 a (.bin .mul (zI b) (.t c))
abbrev yX(a b c:Nat):A6:=W1 a (.Ue 1 (.t b) (some (.t c)) none none)
abbrev yY(a:Nat)(b c:Int):A6:=W1 a (.build [.int .i64 0,.int .i64 0,.int .i64 0,.int .i64 0] [(0,1,(zI b)),(1,1,(zI c)),(2,1,(zI 7))])
abbrev yZ(a:Nat):A6:=W1 a (.new [.int .i64 0,.int .i64 0,.int .i64 0])
abbrev ja(a b:Nat):A6:=W1 a (.build [.lit (.slice none 0 0)] [(0,1,(.t b))])
abbrev jb(a b c d e:Nat):A6:=W2 a b false (.A9 c (.t d) (.t e))
abbrev jc(a b:Nat):A6:=W1 a (.bin .shl (zI 1) (.t b))
abbrev jd(a b:Nat)(c:Int):A6:=W1 a (.bin .shr (.t b) (.c (.int .u64 c)))
abbrev je(a b:Nat):A6:=W1 a (.bin .sub (.t b) (zI 1))
abbrev jf(a b:Nat):A6:=W1 a (.bin .mul (.t b) (.c (.int .u32 16777619)))
abbrev jg:A6:=W1 4 (.isNil false 1 (.t 3))
abbrev jh(a b c d e:Nat):A6:=W2 a b false (.call c [(.t d),(zI 0),(.t e)])
abbrev ji(a b:Nat)(c:Int):A6:=W1 a (.bin .rem (.t b) (zI c))
abbrev jj(a:Nat)(b c d:Int):A6:=W1 a (.build [.int .i64 0,.int .i64 0,.int .i64 0] [(0,1,(zI b)),(1,1,(zI c)),(2,1,(zI d))])
abbrev jk(a b c:Nat):A6:=W2 a b true (.bin .eql (.t c) (.c (.int .u64 0)))
abbrev jl(a b c d e f:Nat):A6:=W1 a (.call b [(.t c),(.t d),(.t e),(.t f)])
abbrev jm:A6:=W1 16 (.Ha (.t 11) [(.t 15)])
abbrev jn(a:Nat):A6:=W1 a (.new [.int .i64 0,.int .u64 0])
abbrev jo(a b c:Nat):A6:=W1 a (.build [.int .i64 0,.int .u64 0,.int .i64 0] [(1,1,(.t b)),(2,1,(.t c))])
abbrev jp(a b c d:Nat):A6:=W2 a b false (.bin .neq (.t c) (.t d))
abbrev jq(a b c d e f:Nat):A6:=W2 a b true (.call c [(.t d),(.t e),(.t f)])
abbrev jr(a b c d:Nat)(e f:Int):A6:=W2 a b true (.call c [(.t d),(zI e),(zI f)])
abbrev js(a b c:Nat)(d:Int):A6:=W2 a b true (.bin .leq (.t c) (zI d))
abbrev jt(a b:Nat):A6:=W1 a (.Hp .i64 (.t b))
abbrev ju(a b c d e:Nat):A6:=W2 a b false (.call c [(.t d),(.t e)])
abbrev jv(a b c:Nat):A6:=W1 a (.bin .or (.t b) (.t c))
abbrev jw(a b c d:Nat):A6:=W1 a (.born 0 (.EO 1 3 [.int .u64 0] [(0,(.t b)),(1,(.t c)),(2,(.t d))]))
abbrev jx(a b:Nat):A6:=W1 a (.Hp .u16 (.t b))
abbrev jy(a b:Nat):A6:=W1 a (.Hp .u32 (.t b))
abbrev jz(a b:Nat)(c:Int):A6:=W1 a (.FA (.t b) (zI c))
abbrev jA(a b c d:Nat):A6:=W2 a b true (.born c (.EO 2 1 [.int .i64 0,.int .u64 0] [(0,(.t d))]))
abbrev jB(a:Nat):A6:=⟨none,.st 1 (.t a) (.c (.bool true)),none⟩
abbrev jC(a b c:Nat):A6:=W2 a b true (.call 30 [(.t c),(.c (.lit (.slice none 0 0)))])
abbrev jD(a:Nat):A6:=W1 a (.new (.replicate 256 (.bool false)))
abbrev jE(a b c d:Nat):A6:=W1 a (.U7 b 1 (.t c) (.t d))
abbrev jF(a b:Nat):A6:=W1 a (.bin .eql (.t b) (.c (.int .i32 65533)))
abbrev jG(a b c d:Nat):A6:=W2 a b true (.MG .eql (.t c) (.t d))
abbrev jH(a b c d:Nat):A6:=W2 a b true (.bin .add (.t c) (.t d))
abbrev jJ(a b c:Nat)(d:Int):A6:=W2 a b true (.bin .add (.t c) (zI d))
abbrev jK(a b c d:Nat):A6:=W2 a b true (.bin .eql (.t c) (.t d))
abbrev jL(a:Nat):A6:=W1 a (.new [.int .i64 0,.int .i64 0])
abbrev jM(a b:Nat):A6:=W1 a (.call 23 [(.t b),(.c (.int .u64 0))])
abbrev za(l:List A6)(c:AD):AD:= .seq (.region l) c
abbrev zb(n:Nat)(a b:AD):AD:= .cond (.t n) a b
abbrev zc:AD:= .ret
abbrev zd:AD:= .skip
abbrev ze(a b:AD):AD:= .seq a b
set_option maxRecDepth 100000
abbrev c2:AD:= .Nx
theorem ok2:Ao Qa 2 c2 1 []=true:=by kernel_rfl
abbrev c63:=za [zk 2] (ze (za [zV 3 0,jg] (zb 4 (za [zk 2] zc) zd)) (za [W1 5 (.EO 1 0 [.int .u64 0] []),zV 6 0,yl 7 1 8 5 6,zV 2 7] zc))
theorem ok63:Ao Qa 63 c63 8 [.t 2]=true:=by kernel_rfl
abbrev k74_1:=za [zV 45 0,zV 46 3,zV 47 4,zV 48 5,zX 49 1 47 48,zM 50 49,zX 51 1 45 46,zS 1 51 50] (.region [zV 52 3,zh 53 52 1,zV 3 53])
abbrev k74_2:=ze (.block 3 (ze (.drawn [(0,zV 35 4),(1,zV 36 5),(2,zX 37 1 35 36),(3,zM 38 37),(4,zV 39 4),(5,zV 40 5),(6,je 41 40),(7,zX 42 1 39 41),(8,zM 43 42),(9,yP 44 38 43)] [[],[],[0,1],[2],[],[],[5],[4,6],[7],[3,8]] 0) (zb 44 k74_1 zd))) (.region [zV 33 5,zh 34 33 1,zV 5 34])
def b74_3:=ze (za [zV 29 5,zV 30 4,zn 31 30,zm 32 29 31] (zb 32 zd (.exit 2))) k74_2
abbrev k74_5:=za [zV 54 0,zV 55 3,yX 56 54 55,⟨none,.clr 1 [.int .i64 0] (.t 56),none⟩] (za [zV 57 0,zV 58 3,W1 59 (.Ue 1 (.t 57) none (some (.t 58)) none),zV 2 59] zc)
abbrev k74_8:=ze (.block 1 (ze (.drawn [(0,zV 16 0),(1,zV 17 3),(2,zX 18 1 16 17),(3,zM 19 18),(4,zV 20 0),(5,zV 21 3),(6,je 22 21),(7,zX 23 1 20 22),(8,zM 24 23),(9,yw 25 19 24)] [[],[],[0,1],[2],[],[],[5],[4,6],[7],[3,8]] 0) (zb 25 (za [zV 26 0,zV 27 3,yX 28 26 27,zV 4 28] (ze (za [zK 5 1] (.block 2 (.loop b74_3))) k74_5)) zd))) (.region [zV 14 3,zh 15 14 1,zV 3 15])
def b74_9:=ze (za [zV 10 3,zV 11 0,zn 12 11,zm 13 10 12] (zb 13 zd (.exit 0))) k74_8
abbrev k74_11:=ze (za [zV 6 0,zn 7 6,yk 8 7 2] (zb 8 (za [zV 9 0,zV 2 9] zc) zd)) (ze (za [zK 3 1] (.block 0 (.loop b74_9))) (za [zV 60 0,zV 2 60] zc))
abbrev c74:=za [zk 2] k74_11
theorem ok74:Ao Qa 74 c74 61 [.t 2]=true:=by kernel_rfl
abbrev c144:=za [zt 4] (za [zV 5 0,zV 6 1,zj 7 188 5 6,zP 8 7 0,zV 4 8] zc)
theorem ok144:Ao Qa 144 c144 9 [.t 4]=true:=by kernel_rfl
abbrev c146:=za [zt 4] (za [zV 5 0,zV 6 1,zj 7 191 5 6,zP 8 7 0,zV 4 8] zc)
theorem ok146:Ao Qa 146 c146 9 [.t 4]=true:=by kernel_rfl
abbrev c187:=za [W1 4 (.mv (.c (.str []))),W1 5 (.mv (.c (.str []))),zt 6] (za [zV 7 0,zV 8 1,zj 9 224 7 8,zE 10 9 0,zE 11 9 1,zE 12 9 2,zV 4 10,zV 5 11,zV 6 12] zc)
theorem ok187:Ao Qa 187 c187 13 [.t 4,.t 5,.t 6]=true:=by kernel_rfl
abbrev c188:=za [zK 4 0] (za [zV 5 0,zV 6 1,zj 7 225 5 6,zV 4 7] zc)
theorem ok188:Ao Qa 188 c188 8 [.t 4]=true:=by kernel_rfl
abbrev c190:=za [zt 4] (za [zV 5 0,zV 6 1,zj 7 226 5 6,zP 8 7 0,zV 4 8] zc)
theorem ok190:Ao Qa 190 c190 9 [.t 4]=true:=by kernel_rfl
abbrev k191_2:=ze (za [zV 19 5,W1 20 (.bin .geq (.t 19) (.c (.int .i32 128)))] (zb 20 (.region [W1 5 (.mv (.c (.int .i32 65533)))]) zd)) (za [zV 21 0,zV 22 5,zj 23 227 21 22,zV 4 23] zc)
abbrev k191_5:=ze (.block 1 (za [zV 39 0,zV 40 8,yO 41 39 40,zj 42 230 6 41] (zb 42 (za [zV 43 8,zV 4 43] zc) zd))) (.region [zV 37 8,zh 38 37 1,zV 8 38])
def b191_6:=ze (za [zV 33 8,zV 34 0,yx 35 34,zm 36 33 35] (zb 36 zd (.exit 0))) k191_5
abbrev k191_9:=za [zV 28 1,zi 29 229 28,zV 27 29,zE 30 27 0,zE 31 27 1,jD 6,zS 256 6 30,zV 7 31] (za [zV 32 7] (zb 32 (ze (za [zK 8 0] (.block 0 (.loop b191_6))) (za [zK 4 (-1)] zc)) zd))
abbrev k191_12:AD:= .block 3 (za [zE 48 46 1,zE 49 46 2,zV 9 48,zV 10 49] (za [zV 50 1,zV 51 10,zj 52 227 50 51,zP 53 52 0] (zb 53 (za [zV 54 9,zV 4 54] zc) zd)))
def b191_13:=za [W1 46 (.Ya (.t 45)),zE 47 46 0] (ze (zb 47 zd (.exit 2)) k191_12)
abbrev k191_15:=ze (za [zV 24 0,yx 25 24,zi 26 228 25] (zb 26 k191_9 zd)) (ze (za [zV 44 0,W1 45 (.Yg (.t 44))] (.block 2 (.loop b191_13))) (za [zK 4 (-1)] zc))
abbrev k191_16:=ze (za [zV 13 1,yx 14 13,zQ 15 14 1] (zb 15 (za [zV 16 1,jz 17 16 0,W1 18 (.Hp .i32 (.t 17)),zV 5 18] k191_2) zd)) k191_15
abbrev c191:=za [zK 4 0] (ze (za [zV 11 1,W1 12 (.MG .eql (.t 11) (.c (.str [])))] (zb 12 (za [zK 4 (-1)] zc) zd)) k191_16)
theorem ok191:Ao Qa 191 c191 55 [.t 4]=true:=by kernel_rfl
abbrev k210_1:=za [W1 5 (.EO 5 0 [.int .i64 0,.int .i64 0,.int .i64 0,.int .i64 0,.int .i64 0] []),zV 6 0,yl 7 5 40 5 6,zV 2 7] zc
abbrev c210:=za [zk 2] (ze (za [zV 3 0,jg] (zb 4 (za [zk 2] zc) zd)) k210_1)
theorem ok210:Ao Qa 210 c210 8 [.t 2]=true:=by kernel_rfl
abbrev k211_1:=za [W1 5 (.EO 13 0 [.int .i64 0,.int .i64 0,.int .i64 0,.int .i64 0,.int .i64 0,.int .i64 0,.int .i64 0,.bool false,.int .u64 0,.int .u64 0,.int .u64 0,.int .u64 0,.int .u64 0] []),zV 6 0,yl 7 13 104 5 6,zV 2 7] zc
abbrev c211:=za [zk 2] (ze (za [zV 3 0,jg] (zb 4 (za [zk 2] zc) zd)) k211_1)
theorem ok211:Ao Qa 211 c211 8 [.t 2]=true:=by kernel_rfl
abbrev k224_0:=ze (.drawn [(0,zV 13 0),(1,zV 14 7),(2,W1 15 (.Km (.t 13) none (some (.t 14)))),(3,zV 16 0),(4,zV 17 7),(5,zV 18 1),(6,yx 19 18),(7,zW 20 17 19),(8,W1 21 (.Km (.t 16) (some (.t 20)) none)),(9,zV 4 15),(10,zV 5 21),(11,yE 6)] [[],[],[0,1],[],[],[],[5],[4,6],[3,7],[2,0,1,2],[8,9,0,1,2,3,4,5,6,7,8,9],[10,0,1,2,3,4,5,6,7,8,9,10]] 0) zc
abbrev k224_3:=ze (za [zV 8 0,zV 9 1,zj 10 225 8 9,zV 7 10] (za [zV 11 7,zP 12 11 0] (zb 12 k224_0 zd))) (za [zV 22 0,zV 4 22,W1 5 (.mv (.c (.str []))),zt 6] zc)
abbrev c224:=za [W1 4 (.mv (.c (.str []))),W1 5 (.mv (.c (.str []))),zt 6] k224_3
theorem ok224:Ao Qa 224 c224 23 [.t 4,.t 5,.t 6]=true:=by kernel_rfl
abbrev k225_3:=za [zV 32 5,zV 33 0,yx 34 33,yJ 35 32 34,zV 31 35] (zb 31 (za [zK 4 (-1)] zc) (ze (.Nx) (zb 36 (ze (.Nx) zc) zd)))
abbrev k225_5:=zb 16 (za [zK 4 0] zc) (za [zV 25 5,zQ 26 25 1,zV 24 26] (zb 24 (za [zV 27 0,zV 28 1,jz 29 28 0,zj 30 249 27 29,zV 4 30] zc) k225_3))
abbrev k225_8:=ze (za [zV 72 11,yk 73 72 0] (zb 73 (za [zK 4 (-1)] zc) zd)) (.region [zV 74 8,zV 75 11,zh 76 75 1,zW 77 74 76,zV 8 77])
abbrev k225_9:=za [zV 65 0,zV 66 8,zh 67 66 1,zV 68 9,W1 69 (.Km (.t 65) (some (.t 67)) (some (.t 68))),zV 70 6,zj 71 249 69 70,zV 11 71] k225_8
abbrev k225_12:=ze (za [zV 113 12,zP 114 113 0] (zb 114 (za [zV 115 12,zV 116 8,zW 117 115 116,zV 4 117] zc) zd)) (za [zK 4 (-1)] zc)
abbrev k225_15:=ze (za [zV 138 13,yk 139 138 0] (zb 139 (za [zK 4 (-1)] zc) zd)) (za [zV 140 8,zV 141 13,zW 142 140 141,zV 4 142] zc)
abbrev k225_17:=zb 107 (ze (.Nx) k225_12) (ze (.Nx) (zb 132 (za [zV 133 0,zV 134 8,W1 135 (.Km (.t 133) (some (.t 134)) none),zV 136 1,zj 137 252 135 136,zV 13 137] k225_15) zd))
abbrev k225_20:=ze (za [zV 78 0,zV 79 8,zh 80 79 1,yO 81 78 80,zV 82 7,yw 83 81 82,zV 84 83,zH 85 0 84,zH 86 8 84,zH 87 8 84,zH 88 5 84,jH 89 84 87 88,W2 90 84 true (.Km (.t 85) (some (.t 86)) (some (.t 89))),zH 91 1 84,jG 92 84 90 91,zA 93 84 92] (zb 93 (za [zV 94 8,zV 4 94] zc) zd)) (za [zV 95 8,zh 96 95 1,zV 8 96] (za [zV 97 10,zh 98 97 1,zV 10 98] (ze (.Nx) k225_17)))
def b225_22:=ze (za [zV 57 8,zV 58 9,zm 59 57 58] (zb 59 zd (.exit 1))) (.block 2 (ze (za [zV 60 0,zV 61 8,yO 62 60 61,zV 63 6,yP 64 62 63] (zb 64 k225_9 zd)) k225_20))
abbrev k225_24:=za [zV 52 0,yx 53 52,zV 54 5,yQ 55 53 54,zh 56 55 1,zV 9 56] (za [zK 10 0] (ze (.block 1 (.loop b225_22)) (za [zK 4 (-1)] zc)))
abbrev k225_27:=ze (.block 0 (za [zV 17 5,zQ 18 17 0,zV 19 18,zT 20 1 19,zT 21 0 19,W2 22 19 false (.MG .eql (.t 20) (.t 21)),zO 23 19 22,zV 16 23] k225_5)) (za [zV 48 1,jz 49 48 0,zV 6 49] (za [zV 50 1,jz 51 50 1,zV 7 51] (za [zK 8 0] k225_24)))
abbrev c225:=za [zK 4 0] (za [zV 14 1,yx 15 14,zV 5 15] k225_27)
theorem ok225:Ao Qa 225 c225 143 [.t 4]=true:=by kernel_rfl
abbrev k226_2:=ze (.block 1 (za [zV 10 8,zV 5 10] (za [zV 11 1,zV 12 0,zV 13 5,zX 14 1 12 13,zM 15 14,jm] (zb 16 (za [zV 17 5,zV 4 17] zc) zd)))) (.region [zh 18 8 1,zV 8 18])
def b226_3:=za [zm 9 8 7] (ze (zb 9 zd (.exit 0)) k226_2)
abbrev c226:=za [zK 4 0] (ze (za [zV 6 0,zn 7 6,zK 8 0] (.block 0 (.loop b226_3))) (za [zK 4 (-1)] zc))
theorem ok226:Ao Qa 226 c226 19 [.t 4]=true:=by kernel_rfl
abbrev k227_2:AD:= .block 10 (za [zE 178 176 1,zE 179 176 2,zV 5 178,zV 6 179] (za [zV 180 6,jF 181 180] (zb 181 (za [zV 182 5,zV 4 182] zc) zd)))
def b227_3:=za [W1 176 (.Ya (.t 175)),zE 177 176 0] (ze (zb 177 zd (.exit 9)) k227_2)
abbrev k227_7:=za [zV 172 1,jF 173 172,zV 171 173] (zb 171 (ze (za [zV 174 0,W1 175 (.Yg (.t 174))] (.block 9 (.loop b227_3))) (za [zK 4 (-1)] zc)) (za [zV 184 1,zi 185 254 184,zN 186 185,zV 183 186] (zb 183 (za [zK 4 (-1)] zc) (.Nx))))
abbrev k227_8:AD:= .block 0 (za [zV 161 1,W1 162 (.bin .leq (.c (.int .i32 0)) (.t 161)),zV 163 162,zH 164 1 163,W2 165 163 true (.bin .lss (.t 164) (.c (.int .i32 128))),zA 166 163 165,zV 160 166] (zb 160 (za [zV 167 0,zV 168 1,W1 169 (.Hp .u8 (.t 168)),zj 170 253 167 169,zV 4 170] zc) k227_7))
abbrev c227:=za [zK 4 0] k227_8
theorem ok227:Ao Qa 227 c227 187 [.t 4]=true:=by kernel_rfl
abbrev c228:=za [zt 2] (za [zV 3 0,yG 4 3 8,zV 2 4] zc)
theorem ok228:Ao Qa 228 c228 5 [.t 2]=true:=by kernel_rfl
abbrev k229_1:=ze (za [zV 15 5,W1 16 (.bin .geq (.t 15) (.c (.int .u8 128)))] (zb 16 (za [zL 17 256 2,zS 256 2 17,zt 3] zc) zd)) (.region [zV 18 5,jE 19 256 2 18,jB 19])
def b229_3:=ze (za [zV 6 4,zV 7 0,yx 8 7,zm 9 6 8] (zb 9 zd (.exit 0))) (ze (.block 1 (za [zV 12 0,zV 13 4,yO 14 12 13,zV 5 14] k229_1)) (.region [zV 10 4,zh 11 10 1,zV 4 11]))
abbrev c229:=za [jD 2,zt 3] (ze (za [zK 4 0] (.block 0 (.loop b229_3))) (za [zL 20 256 2,zS 256 2 20,yE 3] zc))
theorem ok229:Ao Qa 229 c229 21 [.c 2 (some 256),.t 3]=true:=by kernel_rfl
abbrev c230:=za [zt 4] (za [zV 5 0,zV 6 1,W1 7 (.Pb (.t 5)),jE 8 256 7 6,zM 9 8,zV 4 9] zc)
theorem ok230:Ao Qa 230 c230 10 [.t 4]=true:=by kernel_rfl
abbrev k232_2:=ze (.block 1 (za [zV 10 8,zV 5 10] (za [zV 11 1,zV 12 0,zV 13 5,zX 14 13 12 13,zL 15 13 14,jm] (zb 16 (za [zV 17 5,zV 4 17] zc) zd)))) (.region [zh 18 8 1,zV 8 18])
def b232_3:=za [zm 9 8 7] (ze (zb 9 zd (.exit 0)) k232_2)
abbrev c232:=za [zK 4 0] (ze (za [zV 6 0,zn 7 6,zK 8 0] (.block 0 (.loop b232_3))) (za [zK 4 (-1)] zc))
theorem ok232:Ao Qa 232 c232 19 [.t 4]=true:=by kernel_rfl
abbrev c245:=za [W1 2 (.mv (.c (.lit (.float .f64 0))))] (ze (.cond (.c (.bool true)) (za [zV 3 0,W1 4 (.eo .pT (.t 3) (.c (.bool false))),zV 2 4] zc) zd) (za [zV 5 0,zi 6 259 5,zV 2 6] zc))
theorem ok245:Ao Qa 245 c245 7 [.t 2]=true:=by kernel_rfl
abbrev c246:=za [zt 2] (za [zV 3 0,W1 4 (.eo .bits (.t 3) (.c (.bool false))),jt 5 4,yk 6 5 0,zV 2 6] zc)
theorem ok246:Ao Qa 246 c246 7 [.t 2]=true:=by kernel_rfl
abbrev c249:=za [zK 4 0] (ze (.Nx) zc)
theorem ok249:Ao Qa 249 c249 8 [.t 4]=true:=by kernel_rfl
abbrev k252_0:=ze (.block 1 (.region [zV 23 8,jf 24 23,zV 25 0,zV 26 9,yO 27 25 26,jy 28 27,zW 29 24 28,zV 8 29])) (.region [zV 21 9,zh 22 21 1,zV 9 22])
def b252_1:=ze (za [zV 18 9,zV 19 7,zm 20 18 19] (zb 20 zd (.exit 0))) k252_0
abbrev k252_4:=za [zV 65 8,zV 66 5,yw 67 65 66,zV 68 67,zH 69 0 68,zH 70 10 68,zH 71 7 68,W2 72 68 true (.bin .sub (.t 70) (.t 71)),zH 73 10 68,W2 74 68 true (.Km (.t 69) (some (.t 72)) (some (.t 73))),zH 75 1 68,jG 76 68 74 75,zA 77 68 76] (zb 77 (za [zV 78 10,zV 79 7,yQ 80 78 79,zV 4 80] zc) zd)
abbrev k252_6:=za [zV 53 8,zV 54 6,zV 55 0,zV 56 10,zV 57 7,yQ 58 56 57,yO 59 55 58,jy 60 59,W1 61 (.bin .mul (.t 54) (.t 60)),yQ 62 53 61,zV 8 62] (za [zV 63 10,zh 64 63 1,zV 10 64] k252_4)
abbrev k252_8:AD:= .block 3 (za [zV 45 8,jf 46 45,zV 8 46] (za [zV 47 8,zV 48 0,zV 49 10,yO 50 48 49,jy 51 50,zW 52 47 51,zV 8 52] k252_6))
def b252_9:=ze (za [zV 41 10,zV 42 0,yx 43 42,zm 44 41 43] (zb 44 zd (.exit 2))) k252_8
abbrev k252_11:=ze (za [zV 30 8,zV 31 5,yw 32 30 31,zV 33 32,zH 34 0 33,zH 35 7 33,W2 36 33 true (.Km (.t 34) none (some (.t 35))),zH 37 1 33,jG 38 33 36 37,zA 39 33 38] (zb 39 (za [zK 4 0] zc) zd)) (ze (za [zV 40 7,zV 10 40] (.block 2 (.loop b252_9))) (za [zK 4 (-1)] zc))
abbrev k252_14:=za [zV 12 1,zi 13 262 12,zV 11 13,zE 14 11 0,zE 15 11 1,zV 5 14,zV 6 15] (za [zV 16 1,yx 17 16,zV 7 17] (za [yS 8 0] (ze (za [zK 9 0] (.block 0 (.loop b252_1))) k252_11)))
abbrev c252:=za [zK 4 0] k252_14
theorem ok252:Ao Qa 252 c252 81 [.t 4]=true:=by kernel_rfl
abbrev c253:=za [zK 4 0] (za [zV 5 0,zV 6 1,zj 7 249 5 6,zV 4 7] zc)
theorem ok253:Ao Qa 253 c253 8 [.t 4]=true:=by kernel_rfl
abbrev k254_1:=za [zV 11 0,W1 12 (.bin .lss (.c (.int .i32 57343)) (.t 11)),zV 13 12,zH 14 0 13,W2 15 13 true (.bin .leq (.t 14) (.c (.int .i32 1114111))),zA 16 13 15,zV 10 16] (zb 10 (za [yE 2] zc) zd)
abbrev k254_3:=ze (.block 0 (za [zV 4 0,W1 5 (.bin .leq (.c (.int .i32 0)) (.t 4)),zV 6 5,zH 7 0 6,W2 8 6 true (.bin .lss (.t 7) (.c (.int .i32 55296))),zA 9 6 8,zV 3 9] (zb 3 (za [yE 2] zc) k254_1))) (za [zt 2] zc)
abbrev c254:=za [zt 2] k254_3
theorem ok254:Ao Qa 254 c254 17 [.t 2]=true:=by kernel_rfl
abbrev c256:=za [zt 4] (za [zV 5 0,zV 6 1,zj 7 264 5 6,zP 8 7 0,zV 4 8] zc)
theorem ok256:Ao Qa 256 c256 9 [.t 4]=true:=by kernel_rfl
abbrev k262_0:=ze (.block 1 (.region [zV 15 4,jf 16 15,zV 17 0,zV 18 5,yO 19 17 18,jy 20 19,zW 21 16 20,zV 4 21])) (.region [zV 13 5,zh 14 13 1,zV 5 14])
def b262_1:=ze (za [zV 9 5,zV 10 0,yx 11 10,zm 12 9 11] (zb 12 zd (.exit 0))) k262_0
abbrev k262_4:=ze (.block 3 (ze (za [zV 28 8,W1 29 (.bin .and (.t 28) (zI 1)),zw 30 29 0] (zb 30 (.region [zV 31 6,zV 32 7,W1 33 (.bin .mul (.t 31) (.t 32)),zV 6 33]) zd)) (.region [zV 34 7,zV 35 7,W1 36 (.bin .mul (.t 34) (.t 35)),zV 7 36]))) (.region [zV 26 8,jd 27 26 1,zV 8 27])
def b262_5:=ze (za [zV 24 8,yG 25 24 0] (zb 25 zd (.exit 2))) k262_4
abbrev k262_8:=ze (za [zK 5 0] (.block 0 (.loop b262_1))) (za [yS 6 1,yS 7 16777619] (ze (za [zV 22 0,yx 23 22,zV 8 23] (.block 2 (.loop b262_5))) (za [zV 37 4,zV 38 6,zV 2 37,zV 3 38] zc)))
abbrev c262:=za [yS 2 0,yS 3 0] (za [yS 4 0] k262_8)
theorem ok262:Ao Qa 262 c262 39 [.t 2,.t 3]=true:=by kernel_rfl
abbrev c263:=za [zk 2] (ze (za [zV 3 0,jg] (zb 4 (za [zk 2] zc) zd)) (za [W1 5 (.EO 1 0 [.int .i64 0] []),zV 6 0,yl 7 1 8 5 6,zV 2 7] zc))
theorem ok263:Ao Qa 263 c263 8 [.t 2]=true:=by kernel_rfl
abbrev k264_2:=ze (.block 1 (za [zV 10 8,zV 5 10] (za [zV 11 1,zV 12 0,zV 13 5,zX 14 5 12 13,zL 15 5 14,jm] (zb 16 (za [zV 17 5,zV 4 17] zc) zd)))) (.region [zh 18 8 1,zV 8 18])
def b264_3:=za [zm 9 8 7] (ze (zb 9 zd (.exit 0)) k264_2)
abbrev c264:=za [zK 4 0] (ze (za [zV 6 0,zn 7 6,zK 8 0] (.block 0 (.loop b264_3))) (za [zK 4 (-1)] zc))
theorem ok264:Ao Qa 264 c264 19 [.t 4]=true:=by kernel_rfl
abbrev k16_2:=ze (.block 1 (za [zV 39 37,zV 9 39] (.region [zF 40 3 8,zM 41 40,zV 42 9,zX 43 5 41 42,zF 44 4 43,yR 44 (-1)]))) (.region [zh 45 37 1,zV 37 45])
def b16_3:=za [zm 38 37 36] (ze (zb 38 zd (.exit 0)) k16_2)
abbrev k16_4:AD:= .region [zF 83 3 8,zM 84 83,zV 85 12,zh 86 85 1,yY 87 3 1,zV 88 10,zh 89 88 1,yo 90 87 89,zX 91 5 84 86,zS 5 91 90]
abbrev k16_5:=ze (.drawn [(0,zF 74 4 8),(1,zM 75 74),(4,zV 78 12),(5,W1 79 (.call 56 [(zI 2),(zI 3),(.t 78)])),(2,zV 76 11),(3,W1 77 (.bin .add (zI 2) (.t 76))),(6,zV 73 79),(7,zE 80 73 0),(9,zX 82 13 75 77),(10,zS 13 82 80),(8,zE 81 73 1)] [[],[0],[],[2],[],[4],[5],[6],[6],[1,3,0,1,2,3,4,5,6,7],[9,7,5,0,1,2,3,4,5,6,7]] 0) k16_4
abbrev k16_7:=ze (.block 3 (za [zV 69 67,zV 11 69] (za [zL 70 3 2,zV 71 11,zj 72 58 70 71,zV 12 72] k16_5))) (.region [zh 92 67 1,zV 67 92])
def b16_8:=za [zm 68 67 66] (ze (zb 68 zd (.exit 2)) k16_7)
abbrev k16_10:=za [zF 93 3 8,zM 94 93,zV 95 10,zh 96 95 1,zX 97 5 94 96,zF 98 4 97,yR 98 (-1)] (za [zL 99 5 8,zS 5 4 99,zK 5 0] zc)
abbrev k16_12:=za [zF 59 3 8,zM 60 59,zV 61 10,yY 62 1 0,zX 63 5 60 61,zF 64 0 63,zS 4 64 62] (ze (za [zF 65 0 2,zM 66 65,zK 67 0] (.block 2 (.loop b16_8))) k16_10)
abbrev k16_14:=ze (.drawn [(0,zF 51 4 8),(1,zM 52 51),(2,W1 53 (.call 56 [(zI 3),(zI 0),(zI 0)])),(3,zV 50 53),(4,zE 54 50 0),(6,W1 56 (.A9 13 (.t 52) (zI 1))),(7,zS 13 56 54),(5,zE 55 50 1)] [[],[0],[],[2],[3],[3],[1,0,1,2,3,4],[6,4,2,0,1,2,3,4]] 0) (za [zL 57 3 2,yT 58 58 57 0,zV 10 58] k16_12)
abbrev k16_16:=ze (za [zF 34 3 8,zM 35 34,zn 36 35,zK 37 0] (.block 0 (.loop b16_3))) (za [zF 46 4 8,zM 47 46,zL 48 13 6,W1 49 (.A9 13 (.t 47) (zI 0)),zS 13 49 48] k16_14)
abbrev k16_17:=ze (.drawn [(0,zL 26 3 2),(1,zF 27 1 2),(2,zM 28 27),(4,zF 30 2 2),(5,zM 31 30),(3,W1 29 (.born 0 (.MM 5 40 [.int .i64 0,.int .i64 0,.int .i64 0,.int .i64 0,.int .i64 0] (.t 28) (.t 28)))),(6,W1 32 (.born 1 (.MM 13 104 [.int .i64 0,.int .i64 0,.int .i64 0,.int .i64 0,.int .i64 0,.int .i64 0,.int .i64 0,.bool false,.int .u64 0,.int .u64 0,.int .u64 0,.int .u64 0,.int .u64 0] (.t 31) (.t 31)))),(7,yN 33 26 29 32),(8,W1 8 (.born 2 (.new [.int .i64 0,.int .i64 0,.int .i64 0,.lit (.slice none 0 0),.lit (.slice none 0 0)]))),(9,zS 5 8 33)] [[],[],[1],[2,2],[],[4],[5,5],[0,3,6],[],[8,7,0,1,2,3,4,5,6,7,8]] 3) k16_16
abbrev k16_18:=ze (za [zL 18 3 2,zi 19 57 18,zN 20 19,zV 21 20,zT 22 7 21,yf 23 21 22,zO 24 21 23] (zb 24 (za [yV 25,zS 5 4 25,zK 5 1] zc) zd)) k16_17
abbrev k16_19:=za [zV 14 1,W1 15 (.call 56 [(zI 1),(.t 14),(zI 0)]),zV 13 15,zE 16 13 0,zE 17 13 1,zg 6,zS 13 6 16,zV 7 17] k16_18
abbrev c16:=za [zl 2 0,zf 4,zK 5 0] k16_19
theorem ok16:Ao Qa 16 c16 100 [.c 4 (some 5),.t 5]=true:=by kernel_rfl
abbrev c27:=za [yZ 0] (za [jj 1 2 32 16,zS 3 0 1] zc)
theorem ok27:Ao Qa 27 c27 2 [.c 0 (some 3)]=true:=by kernel_rfl
abbrev k28_2:=ze (za [zL 5 3 2,zi 6 57 5,zN 7 6,zV 8 7,zT 9 1 8,yb 10 8 1 2,yg 11 8 10,yU 12 8 11,jh 13 8 70 9 12,yf 14 8 13,zO 15 8 14] (zb 15 (za [zK 4 0] zc) zd)) (za [zL 16 3 2,zi 17 71 16,zV 18 1,yW 19 2 18,zW 20 17 19,zV 4 20] zc)
abbrev c28:=za [zl 2 0,zK 4 0] k28_2
theorem ok28:Ao Qa 28 c28 21 [.t 4]=true:=by kernel_rfl
abbrev k29_2:=ze (za [zL 5 3 2,zi 6 57 5,zN 7 6,zV 8 7,zT 9 1 8,yb 10 8 2 2,yg 11 8 10,yU 12 8 11,jh 13 8 70 9 12,yf 14 8 13,zO 15 8 14] (zb 15 (za [zK 4 0] zc) zd)) (za [zL 16 3 2,zi 17 72 16,zV 18 1,yW 19 8 18,zW 20 17 19,zV 4 20] zc)
abbrev c29:=za [zl 2 0,zK 4 0] k29_2
theorem ok29:Ao Qa 29 c29 21 [.t 4]=true:=by kernel_rfl
abbrev k31_1:=ze (.drawn [(0,zL 6 3 1),(2,zF 8 2 1),(3,zM 9 8),(1,zi 7 72 6),(4,yW 10 8 9),(5,zW 11 7 10),(6,zV 2 11)] [[],[0],[],[2],[3],[1,4],[5,1,0,1,2,3,4,5]] 0) zc
abbrev c31:=za [zl 1 0,zK 2 0] (ze (za [zL 3 3 1,zi 4 57 3,zN 5 4] (zb 5 (za [zK 2 0] zc) zd)) k31_1)
theorem ok31:Ao Qa 31 c31 12 [.t 2]=true:=by kernel_rfl
abbrev k56_4:=ze (za [zQ 24 11 3,zV 23 24] (zb 23 zd (za [zQ 25 11 4,zV 23 25] (zb 23 zd (.region [zQ 26 11 5,zV 23 26]))))) (zb 23 zd (za [zq 12,zS 13 6 12,zt 7] zc))
abbrev k56_6:=zb 13 (.region [zV 15 1,zF 16 3 8,zS 1 16 15]) (za [zQ 18 11 2,zV 17 18] (zb 17 (.region [zV 19 1,zV 20 2,zF 21 1 8,zS 1 21 19,zF 22 2 8,zS 1 22 20]) k56_4))
abbrev k56_10:=ze (za [zL 27 13 8,zi 28 97 27,zN 29 28] (zb 29 (za [zq 30,zS 13 6 30,zt 7] zc) zd)) (za [zL 31 13 8,zS 13 6 31,yE 7] zc)
abbrev c56:=za [zg 6,zt 7] (za [zV 9 0,yt 10 9,zg 8,zS 13 8 10] (ze (za [zV 11 0] (.block 0 (za [zQ 14 11 1,zV 13 14] k56_6))) k56_10))
theorem ok56:Ao Qa 56 c56 32 [.c 6 (some 13),.t 7]=true:=by kernel_rfl
abbrev k57_0:=za [zF 3 0 1,zM 4 3,yp 5 70 4 1 4,zV 6 5,zR 7 6 1 1,z8 8 6 7,zR 9 6 0 1,z8 10 6 9,W2 11 6 true (.bin .mul (zI 8) (.t 10)),W2 12 6 true (.call 70 [(.t 8),(.t 11),(zI 96)]),zA 13 6 12,zV 14 13,zR 15 14 1 1,z8 16 14 15,W2 17 14 true (.bin .rem (.t 16) (zI 8)),zY 18 14 17 0,zA 19 14 18,zV 20 19,zR 21 20 2 1,z8 22 20 21,zR 23 20 0 1,z8 24 20 23,jJ 25 20 24 2,W2 26 20 true (.call 70 [(.t 22),(.t 25),(zI 48)]),zA 27 20 26,zV 2 27] zc
abbrev c57:=za [zl 1 0,zt 2] k57_0
theorem ok57:Ao Qa 57 c57 28 [.t 2]=true:=by kernel_rfl
abbrev k58_2:=ze (za [zL 5 3 2,zi 6 57 5,zN 7 6,zV 8 7,zT 9 1 8,yb 10 8 0 2,yg 11 8 10,yU 12 8 11,jh 13 8 70 9 12,yf 14 8 13,zO 15 8 14] (zb 15 (za [zK 4 0] zc) zd)) (za [zV 16 1,yW 17 8 16,zV 4 17] zc)
abbrev c58:=za [zl 2 0,zK 4 0] k58_2
theorem ok58:Ao Qa 58 c58 18 [.t 4]=true:=by kernel_rfl
abbrev k64_1:=za [zL 25 5 1,zi 26 106 25,zV 27 26,zv 28 27 5 1,yh 29 27 107 28,zA 30 27 29,zV 31 30,zv 32 31 5 1,yh 33 31 108 32,zA 34 31 33,zV 35 34,zv 36 35 5 1,yh 37 35 109 36,yB 38 35 37,zA 39 35 38,zV 40 39,zv 41 40 5 1,yh 42 40 111 41,yh 43 40 110 42,zA 44 40 43,zV 45 44,zv 46 45 5 1,yh 47 45 112 46,zA 48 45 47,zV 2 48] zc
abbrev k64_2:=ze (za [zF 3 0 1,zL 4 3 3,zi 5 57 4,zN 6 5,zV 7 6,yb 8 7 3 1,yg 9 7 8,yd 10 7 9,yb 11 7 0 1,yb 12 7 1 11,yg 13 7 12,jp 14 7 10 13,zO 15 7 14,zV 16 15,yb 17 16 4 1,yg 18 16 17,yd 19 16 18,yb 20 16 0 1,yb 21 16 2 20,yg 22 16 21,jp 23 16 19 22,zO 24 16 23] (zb 24 (za [zt 2] zc) zd)) k64_1
abbrev c64:=za [zl 1 0,zt 2] k64_2
theorem ok64:Ao Qa 64 c64 49 [.t 2]=true:=by kernel_rfl
abbrev k65_2:=ze (za [zL 3 3 1,zi 4 57 3,zN 5 4] (zb 5 (za [zK 2 0] zc) zd)) (za [zL 6 3 1,zi 7 31 6,W1 8 (.bin .quo (.t 7) (zI 8)),zh 9 8 1,zV 2 9] zc)
abbrev c65:=za [zl 1 0,zK 2 0] k65_2
theorem ok65:Ao Qa 65 c65 10 [.t 2]=true:=by kernel_rfl
abbrev k67_1:=ze (.drawn [(1,zF 8 0 1),(2,zM 9 8),(4,zF 11 2 1),(5,zM 12 11),(7,zF 14 3 1),(8,zM 15 14),(10,zF 17 1 1),(11,zM 18 17),(0,yM 7 117),(3,ye 10 9),(6,ye 13 12),(9,ye 16 15),(12,ye 19 18),(13,W1 20 (.born 0 (.EO 1 4 [.int .u64 0] [(0,(.t 10)),(1,(.t 13)),(2,(.t 16)),(3,(.t 19))]))),(14,zj 21 116 7 20),(15,zE 22 21 0),(16,zE 23 21 1),(17,zV 2 22),(18,zV 3 23)] [[],[],[1],[2],[],[4],[5],[],[7],[8],[],[10],[11],[3,6,9,12],[0,13,0],[14],[14],[15,14,0,1,2,3,4,5,6,7,8,9,10,11,12,13,14,15,16],[16,17,0,1,2,3,4,5,6,7,8,9,10,11,12,13,14,15,16,17]] 1) zc
abbrev c67:=za [zl 1 0,yc 2 0,zt 3] (ze (za [zL 4 4 1,zi 5 115 4,zN 6 5] (zb 6 (za [yc 2 0,zt 3] zc) zd)) k67_1)
theorem ok67:Ao Qa 67 c67 24 [.t 2,.t 3]=true:=by kernel_rfl
abbrev k68_1:=ze (.drawn [(2,zF 49 8 1),(3,zM 50 49),(5,zF 52 9 1),(6,W1 53 (.Yi 4 (.t 52) none none)),(0,zV 47 4),(1,zV 48 6),(4,jw 51 47 48 50),(7,yl 54 1 8 51 53),(8,W1 55 (.born 1 (.EO 1 1 [.int .u64 0] [(0,(.c (.int .u64 0)))]))),(9,yl 56 1 8 54 55),(10,zV 2 56)] [[],[],[],[2],[0,1,3],[],[5],[4,6],[],[7,8,7],[9,9,0,1,2,3,4,5,6,7,8,9]] 2) zc
abbrev k68_2:=ze (.drawn [(1,zF 34 3 1),(2,zM 35 34),(4,zF 37 4 1),(5,zM 38 37),(7,zF 40 6 1),(8,zM 41 40),(0,yM 33 119),(3,ye 36 35),(6,ye 39 38),(9,ye 42 41),(10,jw 43 36 39 42),(11,zj 44 116 33 43),(12,zV 32 44),(13,zE 45 32 0),(14,zE 46 32 1),(15,zV 6 45),(16,zV 7 46)] [[],[],[1],[2],[],[4],[5],[],[7],[8],[3,6,9],[0,10,0],[11],[12],[12],[13,11,0,1,2,3,4,5,6,7,8,9,10,11,12,13],[14,15,0,1,2,3,4,5,6,7,8,9,10,11,12,13,14,15]] 1) k68_1
abbrev k68_3:=ze (.drawn [(1,zF 15 0 1),(2,zM 16 15),(4,zF 18 1 1),(5,zM 19 18),(7,zF 21 2 1),(8,zM 22 21),(11,zF 25 5 1),(12,zM 26 25),(0,yM 14 118),(3,ye 17 16),(6,ye 20 19),(9,ye 23 22),(10,zV 24 3),(13,ye 27 26),(14,W1 28 (.born 0 (.EO 1 5 [.int .u64 0] [(0,(.t 17)),(1,(.t 20)),(2,(.t 23)),(3,(.t 24)),(4,(.t 27))]))),(15,zj 29 116 14 28),(16,zV 13 29),(17,zE 30 13 0),(18,zE 31 13 1),(19,zV 4 30),(20,zV 5 31)] [[],[],[1],[2],[],[4],[5],[],[7],[8],[],[],[11],[12],[3,6,9,10,13],[0,14,0],[15],[16],[16],[17,15,0,1,2,3,4,5,6,7,8,9,10,11,12,13,14,15,16,17],[18,19,0,1,2,3,4,5,6,7,8,9,10,11,12,13,14,15,16,17,18,19]] 1) k68_2
abbrev k68_5:=ze (za [zL 8 13 1,zi 9 97 8,zN 10 9] (zb 10 (za [zk 2] zc) zd)) (za [yc 3 0] (ze (za [zF 11 7 1,zM 12 11] (zb 12 (.region [yc 3 1]) zd)) k68_3))
abbrev c68:=za [zl 1 0,zk 2] k68_5
theorem ok68:Ao Qa 68 c68 57 [.t 2]=true:=by kernel_rfl
abbrev c70:=za [zt 6] (za [zV 7 0,zV 8 1,yJ 9 7 8,zV 10 9,zH 11 0 10,zH 12 2 10,yF,zA 14 10 13,zV 6 14] zc)
theorem ok70:Ao Qa 70 c70 15 [.t 6]=true:=by kernel_rfl
abbrev c71:=za [zl 1 0,zK 2 0] (za [zF 3 0 1,zM 4 3,W1 5 (.bin .mul (.t 4) (zI 1208)),W1 6 (.bin .add (zI 16) (.t 5)),zV 2 6] zc)
theorem ok71:Ao Qa 71 c71 7 [.t 2]=true:=by kernel_rfl
abbrev k72_0:=ze (.drawn [(0,zL 3 3 1),(2,zF 5 1 1),(3,zM 6 5),(1,zi 4 71 3),(4,yW 7 2 6),(5,zW 8 4 7),(6,zV 2 8)] [[],[0],[],[2],[3],[1,4],[5,1,0,1,2,3,4,5]] 0) zc
abbrev c72:=za [zl 1 0,zK 2 0] k72_0
theorem ok72:Ao Qa 72 c72 9 [.t 2]=true:=by kernel_rfl
abbrev k97_1:=za [zF 11 3 1,zM 12 11,yp 13 142 12 1 4096,zV 14 13,zR 15 14 4 1,z8 16 14 15,zR 17 14 3 1,z8 18 14 17,W2 19 14 true (.call 142 [(.t 16),(zI 0),(.t 18)]),zA 20 14 19,zV 2 20] zc
abbrev k97_2:=ze (.drawn [(0,zF 23 1 1),(1,zM 24 23),(2,yp 25 142 24 1 4),(3,zV 26 25),(4,zR 27 26 2 1),(5,z8 28 26 27),(6,zR 29 26 1 1),(7,z8 30 26 29),(8,W2 31 26 true (.bin .shl (zI 1) (.t 30))),(9,W2 32 26 true (.bin .sub (zI 96) (.t 31))),(10,W2 33 26 true (.call 142 [(.t 28),(zI 0),(.t 32)])),(11,zA 34 26 33),(12,zV 2 34)] [[],[0],[1],[2,2],[3],[4,3],[3],[6,3],[7,3],[8,3],[5,9,3,3],[3,10],[11,10,0,1,2,3,4,5,6,7,8,9,10,11]] 0) zc
abbrev k97_3:=za [zF 37 6 1,zM 38 37,yp 39 142 38 0 65535,zV 40 39,zR 41 40 5 1,z8 42 40 41,jr 43 40 142 42 0 96,zA 44 40 43,zV 2 44] zc
abbrev k97_6:AD:= .block 0 (za [zQ 10 8 1,zV 9 10] (zb 9 k97_1 (za [zQ 22 8 2,zV 21 22] (zb 21 k97_2 (za [zQ 36 8 3,zV 35 36] (zb 35 k97_3 zd))))))
abbrev k97_8:=ze (ze (.drawn [(0,zL 3 13 1),(2,zL 5 13 1),(1,zi 4 141 3),(3,W1 6 (.eqs true [0,0,0,0,0,0,0,1,0,0,0,0,0] (.t 4) (.t 5)))] [[],[0],[],[1,2]] 0) (zb 6 (za [zt 2] zc) zd)) (ze (za [zF 7 0 1,zM 8 7] k97_6) (za [yE 2] zc))
abbrev c97:=za [zl 1 0,zt 2] k97_8
theorem ok97:Ao Qa 97 c97 45 [.t 2]=true:=by kernel_rfl
abbrev k98_0:=za [zV 31 4,W1 32 (.MG .neq (.t 31) (.c (.str []))),zV 33 32,zR 34 33 1 1,zv 35 33 1 34,yh 36 33 145 35,zA 37 33 36,zV 38 37,zH 39 5 38,zA 40 38 39,zV 41 40,zv 42 41 6 1,yh 43 41 147 42,zA 44 41 43,zV 45 44,zR 46 45 5 1,z8 47 45 46,jk 48 45 47,zH 49 48 45,zT 50 4 49,W2 51 49 false (.call 144 [(.t 50),(.c (.str [87]))]),yu 52 45 49 51,zA 53 45 52,zV 2 53] zc
abbrev k98_1:=za [zF 12 2 1,zF 13 0 12,zM 14 13,zn 15 14,zQ 16 15 0,zV 17 16,zH 18 4 17,W2 19 17 true (.call 144 [(.t 18),(.c (.str [66]))]),yB 20 17 19,zA 21 17 20,zV 22 21,yb 23 22 2 1,z7 24 22 1 23,ym 25 22 145 24,zT 26 25 22,zH 27 4 26,W2 28 26 true (.call 146 [(.t 27),(.c (.str [66,98]))]),zZ 29 22 26 28,zO 30 22 29,zV 5 30] k98_0
abbrev c98:=za [zl 1 0,zt 2] (za [zF 7 0 1,zM 8 7,zi 9 143 8,zV 6 9,zE 10 6 0,zE 11 6 1,zV 3 10,zV 4 11] k98_1)
theorem ok98:Ao Qa 98 c98 54 [.t 2]=true:=by kernel_rfl
abbrev k106_0:AD:= .region [zL 27 4 5,zi 28 158 27,zN 29 28,zV 30 29,zR 31 30 4 4,z8 32 30 31,W2 33 30 true (.bin .lss (.t 32) (zI (-1))),zA 34 30 33,zV 19 34]
abbrev k106_2:=ze (.drawn [(0,zL 36 4 5),(1,zi 37 158 36),(2,zN 38 37),(3,zV 39 38),(4,zv 40 39 5 1),(5,zR 41 39 1 5),(6,z8 42 39 41),(7,zy 43 39 159 40 42),(8,yB 44 39 43),(9,zH 45 44 39),(10,yb 46 45 4 1),(11,yg 47 45 46),(12,yb 48 45 1 5),(13,yg 49 45 48),(14,jb 50 45 13 47 49),(15,yb 51 45 0 50),(16,yg 52 45 51),(17,yb 53 45 0 5),(18,yg 54 45 53),(19,jp 55 45 52 54),(20,yu 56 39 45 55),(21,zA 57 39 56),(22,zV 35 57)] [[],[0],[1],[2,1],[3],[3],[5,3],[4,6,3,3],[7,3],[8,7,3],[9],[10,9],[9],[12,9],[11,13,9],[14,9],[15,9],[9],[17,9],[16,18,9],[9,19,3],[3,20],[21,9]] 0) (zb 35 (za [zt 2] zc) zd)
abbrev k106_4:=ze (za [zL 20 4 5,zi 21 158 20,zV 22 21,zR 23 22 4 4,z8 24 22 23,ya 25 22 24 (-1),zA 26 22 25,zV 19 26] (zb 19 zd k106_0)) (zb 19 (za [zt 2] zc) k106_2)
abbrev k106_7:=za [zF 13 0 4,zL 14 4 13,zr 5,zS 4 5 14] (.block 2 (za [zL 16 4 5,zi 17 115 16,zN 18 17,zV 15 18] (zb 15 (za [zt 2] zc) k106_4)))
def b106_9:=za [zm 10 9 8] (ze (zb 10 zd (.exit 0)) (ze (.block 1 (za [zX 11 5 7 9,zL 12 5 11,zx 4,zS 5 4 12] k106_7)) (.region [zh 58 9 1,zV 9 58])))
abbrev c106:=za [zl 1 0,zt 2] (ze (za [zF 6 3 1,zM 7 6,zn 8 7,zK 9 0] (.block 0 (.loop b106_9))) (za [yE 2] zc))
theorem ok106:Ao Qa 106 c106 59 [.t 2]=true:=by kernel_rfl
abbrev k107_4:=za [zV 60 5,zN 61 60,zV 62 61,zR 63 62 0 4,z8 64 62 63,ya 65 62 64 0,zA 66 62 65,zV 67 66,zv 68 67 5 1,zH 69 3 67,zy 70 67 160 68 69,yC 71 67 70,zY 72 67 71 0,zA 73 67 72] (zb 73 (za [zt 2] zc) zd)
abbrev k107_5:=ze (ze (.drawn [(0,zV 49 5),(1,zV 50 49),(2,zv 51 50 13 4),(3,zR 52 50 0 1),(4,zv 53 50 3 52),(5,zH 54 3 50),(6,W2 55 50 true (.bin .sub (.t 54) (zI 2))),(7,zy 56 50 58 53 55),(8,W2 57 50 true (.build [.int .i64 0,.int .i64 0,.int .i64 0,.int .i64 0,.int .i64 0,.int .i64 0,.int .i64 0,.bool false,.int .u64 0,.int .u64 0,.int .u64 0,.int .u64 0,.int .u64 0] [(0,1,(zI 2)),(1,1,(zI 3)),(2,1,(.t 56))])),(9,W2 58 50 true (.eqs true [0,0,0,0,0,0,0,1,0,0,0,0,0] (.t 51) (.t 57))),(10,zA 59 50 58)] [[],[0],[1],[1],[3,1],[1],[5,1],[4,6,1,1],[7,1],[2,8,1],[1,9]] 0) (zb 59 (za [zt 2] zc) zd)) k107_4
abbrev k107_6:=za [zV 39 3,zP 40 39 2,zV 41 40,zH 42 3 41,zR 43 41 0 1,zR 44 41 0 43,z8 45 41 44,W2 46 41 true (.bin .add (zI 2) (.t 45)),yD 47 41 42 46,zA 48 41 47,zV 5 48] k107_5
abbrev k107_7:=ze (za [zF 17 5 4,zM 18 17,yG 19 18 0,zV 20 19,zR 21 20 5 4,z8 22 20 21,zR 23 20 3 1,z8 24 20 23,yC 25 20 24,W2 26 20 true (.bin .gtr (.t 22) (.t 25)),zH 27 26 20,yb 28 27 3 1,yg 29 27 28,yb 30 27 5 4,yg 31 27 30,yU 32 27 31,jb 33 27 5 29 32,yb 34 27 0 33,z7 35 27 4 34,ym 36 27 158 35,yu 37 20 27 36,zA 38 20 37] (zb 38 (za [zt 2] zc) zd)) k107_6
abbrev k107_9:=ze (.block 1 (za [zV 11 9,zX 12 13 7 9,zL 13 13 12,zg 4,zV 3 11,zS 13 4 13] (ze (za [zL 14 13 4,zi 15 97 14,zN 16 15] (zb 16 (za [zt 2] zc) zd)) k107_7))) (.region [zh 74 9 1,zV 9 74])
def b107_10:=za [zm 10 9 8] (ze (zb 10 zd (.exit 0)) k107_9)
abbrev c107:=za [zl 1 0,zt 2] (ze (za [zF 6 4 1,zM 7 6,zn 8 7,zK 9 0] (.block 0 (.loop b107_10))) (za [yE 2] zc))
theorem ok107:Ao Qa 107 c107 75 [.t 2]=true:=by kernel_rfl
abbrev k108_2:=ze (za [zV 34 7,zV 35 3,zn 36 35,yJ 37 34 36,zV 38 37,zT 39 3 38,zT 40 7 38,jb 41 38 1 39 40,yg 42 38 41,zO 43 38 42] (zb 43 (za [zt 2] zc) zd)) (.region [zV 44 3,zV 45 7,zX 46 1 44 45,jB 46])
abbrev k108_4:=ze (.block 3 (za [zV 29 27,zV 6 29] (za [zF 30 2 5,zM 31 30,zV 32 6,zW 33 31 32,zV 7 33] k108_2))) (.region [zh 47 27 1,zV 27 47])
def b108_5:=za [zm 28 27 26] (ze (zb 28 zd (.exit 2)) k108_4)
abbrev k108_7:=ze (za [zF 21 0 5,zM 22 21,zw 23 22 2] (zb 23 (.exit 1) zd)) (za [zF 24 1 5,zM 25 24,jc 26 25,zK 27 0] (.block 2 (.loop b108_5)))
def b108_9:=za [zm 18 17 16] (ze (zb 18 zd (.exit 0)) (ze (.block 1 (za [zX 19 13 15 17,zL 20 13 19,zg 5,zS 13 5 20] k108_7)) (.region [zh 48 17 1,zV 17 48])))
abbrev k108_11:=za [zV 57 3,zV 58 8,zX 59 1 57 58,zM 60 59,zN 61 60,zV 62 61,zR 63 62 0 9,zv 64 62 4 63,yh 65 62 158 64,yB 66 62 65,zA 67 62 66] (zb 67 (za [zt 2] zc) zd)
abbrev k108_12:=ze (.block 5 (za [zV 54 52,zX 55 5 50 52,zL 56 5 55,zx 9,zV 8 54,zS 5 9 56] k108_11)) (.region [zh 68 52 1,zV 52 68])
def b108_13:=za [zm 53 52 51] (ze (zb 53 zd (.exit 4)) k108_12)
abbrev k108_15:=ze (za [zF 14 4 1,zM 15 14,zn 16 15,zK 17 0] (.block 0 (.loop b108_9))) (ze (za [zF 49 3 1,zM 50 49,zn 51 50,zK 52 0] (.block 4 (.loop b108_13))) (za [yE 2] zc))
abbrev c108:=za [zl 1 0,zt 2] (za [zF 10 3 1,zM 11 10,zn 12 11,W1 13 (.MM 1 1 [.bool false] (.t 12) (.t 12)),zV 3 13] k108_15)
theorem ok108:Ao Qa 108 c108 69 [.t 2]=true:=by kernel_rfl
abbrev k109_1:=za [zF 13 0 4,zF 14 0 13,zM 15 14,zQ 16 15 2,zV 17 16,zv 18 17 5 1,zR 19 17 0 4,zR 20 17 1 19,z8 21 17 20,zH 22 3 17,jq 23 17 161 18 21 22,zA 24 17 23] (zb 24 (za [yE 2] zc) zd)
def b109_3:=za [zm 9 8 7] (ze (zb 9 zd (.exit 0)) (ze (.block 1 (za [zV 10 8,zX 11 5 6 8,zL 12 5 11,zx 4,zV 3 10,zS 5 4 12] k109_1)) (.region [zh 25 8 1,zV 8 25])))
abbrev c109:=za [zl 1 0,zt 2] (ze (za [zF 5 3 1,zM 6 5,zn 7 6,zK 8 0] (.block 0 (.loop b109_3))) (za [zt 2] zc))
theorem ok109:Ao Qa 109 c109 26 [.t 2]=true:=by kernel_rfl
abbrev k110_2:=za [zV 19 4,zw 20 19 (-2),zV 21 20,zH 22 4 21,ya 23 21 22 (-1),zA 24 21 23,zV 25 24,zv 26 25 1 1,zH 27 4 25,zy 28 25 162 26 27,yB 29 25 28,zA 30 25 29] (zb 30 (za [zt 2] zc) zd)
def b110_4:=za [zm 16 15 14] (ze (zb 16 zd (.exit 0)) (ze (.block 1 (za [zX 17 1 13 15,zM 18 17,zV 4 18] k110_2)) (.region [zh 31 15 1,zV 15 31])))
abbrev k110_7:=ze (.block 5 (ze (za [zV 47 6,zF 48 0 1,zM 49 48,zn 50 49,W1 51 (.bin .gtr (.t 47) (.t 50))] (zb 51 (za [zt 2] zc) zd)) (.region [zV 52 6,zh 53 52 1,zV 6 53]))) (.region [zF 42 0 1,zM 43 42,zV 44 7,zX 45 1 43 44,zM 46 45,zV 7 46])
def b110_8:=ze (za [zL 39 1 1,zV 40 7,zj 41 162 39 40] (zb 41 zd (.exit 4))) k110_7
abbrev k110_10:=ze (.block 3 (za [zV 37 35,zV 5 37] (za [zK 6 0] (za [zV 38 5,zV 7 38] (.block 4 (.loop b110_8)))))) (.region [zh 54 35 1,zV 35 54])
def b110_11:=za [zm 36 35 34] (ze (zb 36 zd (.exit 2)) k110_10)
abbrev k110_13:=ze (za [zF 12 0 1,zM 13 12,zn 14 13,zK 15 0] (.block 0 (.loop b110_4))) (ze (za [zF 32 0 1,zM 33 32,zn 34 33,zK 35 0] (.block 2 (.loop b110_11))) (za [yE 2] zc))
abbrev c110:=za [zl 1 0,zt 2] (ze (za [zF 8 0 1,zM 9 8,zn 10 9,yG 11 10 96] (zb 11 (za [zt 2] zc) zd)) k110_13)
theorem ok110:Ao Qa 110 c110 55 [.t 2]=true:=by kernel_rfl
abbrev k111_2:=ze (za [zF 13 0 5,zL 14 4 13,zi 15 158 14] (zb 15 (.region [zF 16 4 5,yR 16 (-2)]) zd)) (.region [zF 17 0 3,zM 18 17,zF 19 4 5,zM 20 19,yz 21 20,yl 22 1 8 18 21,zF 23 0 3,zS 1 23 22])
def b111_4:=za [zm 10 9 8] (ze (zb 10 zd (.exit 0)) (ze (.block 1 (za [zX 11 5 7 9,zL 12 5 11,zx 5,zS 5 5 12] k111_2)) (.region [zh 24 9 1,zV 9 24])))
abbrev c111:=za [zl 1 0,yL 2] (za [yL 3] (ze (za [zF 6 3 1,zM 7 6,zn 8 7,zK 9 0] (.block 0 (.loop b111_4))) (za [zL 25 1 3,zS 1 2 25] zc)))
theorem ok111:Ao Qa 111 c111 26 [.c 2 (some 1)]=true:=by kernel_rfl
abbrev k112_1:=za [zF 23 0 4,zL 24 4 23,zL 25 4 5,zj 26 163 24 25,zN 27 26,zV 28 27,zR 29 28 0 5,z8 30 28 29,ya 31 28 30 1,zH 32 31 28,yb 33 32 0 4,yb 34 32 1 33,yg 35 32 34,yb 36 32 1 5,yg 37 32 36,W2 38 32 false (.bin .eql (.t 35) (.t 37)),yu 39 28 32 38,zA 40 28 39] (zb 40 (za [zt 2] zc) zd)
abbrev k112_3:=ze (za [zF 13 4 4,zM 14 13,yk 15 14 0] (zb 15 (.exit 1) zd)) (za [zF 16 3 1,zM 17 16,zF 18 4 4,zM 19 18,zX 20 5 17 19,zF 21 0 20,zL 22 4 21,zr 5,zS 4 5 22] k112_1)
def b112_5:=za [zm 10 9 8] (ze (zb 10 zd (.exit 0)) (ze (.block 1 (za [zX 11 5 7 9,zL 12 5 11,zx 4,zS 5 4 12] k112_3)) (.region [zh 41 9 1,zV 9 41])))
abbrev c112:=za [zl 1 0,zt 2] (ze (za [zF 6 3 1,zM 7 6,zn 8 7,zK 9 0] (.block 0 (.loop b112_5))) (za [yE 2] zc))
theorem ok112:Ao Qa 112 c112 42 [.t 2]=true:=by kernel_rfl
abbrev k115_1:=za [zF 5 0 1,zM 6 5,yp 7 168 6 1 5,zV 8 7,zR 9 8 1 1,z8 10 8 9,jr 11 8 168 10 0 47,zA 12 8 11,zV 13 12,zR 14 13 2 1,z8 15 13 14,yh 16 13 169 15,zA 17 13 16,zV 18 17,zR 19 18 3 1,z8 20 18 19,yh 21 18 170 20,zA 22 18 21,zV 23 22,zR 24 23 3 1,z8 25 23 24,zY 26 23 25 0,zH 27 26 23,yb 28 27 0 1,yg 29 27 28,ym 30 27 171 29,yu 31 23 27 30,zA 32 23 31,zV 2 32] zc
abbrev c115:=za [zl 1 0,zt 2] (ze (za [zL 3 4 1,zi 4 158 3] (zb 4 (za [yE 2] zc) zd)) k115_1)
theorem ok115:Ao Qa 115 c115 33 [.t 2]=true:=by kernel_rfl
abbrev k116_2:AD:= .drawn [(1,zV 37 1),(2,zV 38 7),(3,zX 39 1 37 38),(4,zM 40 39),(5,zF 41 0 8),(6,zM 42 41),(0,zV 36 6),(7,W1 43 (.bin .shl (.t 40) (.t 42))),(8,jv 44 36 43),(9,zV 6 44)] [[],[],[],[1,2],[3],[],[5],[4,6],[0,7],[8,0,1,2,3,4,5,6,7,8]] 0
abbrev k116_3:=ze (ze (.drawn [(0,zV 26 1),(1,zV 27 7),(2,zX 28 1 26 27),(3,zM 29 28),(4,zL 30 2 8),(6,zF 32 0 8),(7,zM 33 32),(5,zi 31 173 30),(8,W1 34 (.bin .shr (.t 31) (.t 33))),(9,W1 35 (.bin .gtr (.t 29) (.t 34)))] [[],[],[0,1],[2],[],[4],[],[6],[5,7],[3,8]] 0) (zb 35 (za [yc 4 0,zt 5] zc) zd)) k116_2
abbrev k116_4:=ze (.block 1 (za [zV 23 21,zX 24 2 19 21,zL 25 2 24,jL 8,zV 7 23,zS 2 8 25] k116_3)) (.region [zh 45 21 1,zV 21 45])
def b116_5:=za [zm 22 21 20] (ze (zb 22 zd (.exit 0)) k116_4)
abbrev k116_8:=ze (za [zV 9 0,zi 10 172 9,zN 11 10,zV 12 11,zT 13 0 12,yd 14 12 13,zT 15 1 12,yd 16 12 15,jp 17 12 14 16,zO 18 12 17] (zb 18 (za [yc 4 0,zt 5] zc) zd)) (za [yc 6 0] (ze (za [zV 19 0,zn 20 19,zK 21 0] (.block 0 (.loop b116_5))) (za [zV 46 6,zV 4 46,yE 5] zc)))
abbrev c116:=za [yc 4 0,zt 5] k116_8
theorem ok116:Ao Qa 116 c116 47 [.t 4,.t 5]=true:=by kernel_rfl
abbrev k117_0:=za [zJ 1 0 8,zJ 2 8 8,zJ 3 16 16,zJ 4 32 16,W1 5 (.EO 2 4 [.int .i64 0,.int .i64 0] [(0,(.t 1)),(1,(.t 2)),(2,(.t 3)),(3,(.t 4))]),zV 0 5] zc
abbrev c117:=za [zk 0] k117_0
theorem ok117:Ao Qa 117 c117 6 [.t 0]=true:=by kernel_rfl
abbrev k118_0:AD:= .region [zV 6 1,zV 7 2,yW 8 8 7,W1 9 (.build [.int .i64 0,.int .i64 0] [(0,1,(.t 8)),(1,1,(zI 8))]),W1 10 (.EO 2 1 [.int .i64 0,.int .i64 0] [(0,(.t 9))]),yl 11 2 16 6 10,zV 1 11]
def b118_2:=za [yk 4 3 5] (ze (zb 4 zd (.exit 0)) (ze (.block 1 (za [zV 5 3,zV 2 5] k118_0)) (.region [zh 12 3 1,zV 3 12])))
abbrev c118:=za [zk 0] (za [zk 1] (ze (za [zK 3 0] (.block 0 (.loop b118_2))) (za [zV 13 1,zV 0 13] zc)))
theorem ok118:Ao Qa 118 c118 14 [.t 0]=true:=by kernel_rfl
abbrev k119_0:=za [zJ 1 0 16,zJ 2 16 16,zJ 3 32 16,W1 4 (.EO 2 3 [.int .i64 0,.int .i64 0] [(0,(.t 1)),(1,(.t 2)),(2,(.t 3))]),zV 0 4] zc
abbrev c119:=za [zk 0] k119_0
theorem ok119:Ao Qa 119 c119 5 [.t 0]=true:=by kernel_rfl
abbrev k141_3:=za [zF 31 0 1,zM 32 31,zF 33 8 1,zM 34 33,zF 35 6 1,zM 36 35,zF 37 5 1,zM 38 37,W1 39 (.build [.int .i64 0,.int .i64 0,.int .i64 0,.int .i64 0,.int .i64 0,.int .i64 0,.int .i64 0,.bool false,.int .u64 0,.int .u64 0,.int .u64 0,.int .u64 0,.int .u64 0] [(0,1,(.t 32)),(7,1,(.c (.bool true))),(8,1,(.t 34)),(6,1,(.t 36)),(5,1,(.t 38))]),zS 13 2 39] zc
abbrev k141_8:=za [zQ 41 4 4,zV 40 41] (zb 40 (za [zF 42 0 1,zM 43 42,zF 44 8 1,zM 45 44,yy 46 43 8 1 45,zS 13 2 46] zc) (za [zQ 48 4 5,zV 47 48] (zb 47 (za [zF 49 0 1,zM 50 49,zF 51 9 1,zL 52 4 51,yy 53 50 9 4 52,zS 13 2 53] zc) zd)))
abbrev k141_9:=za [zQ 24 4 3,zV 23 24] (zb 23 (ze (za [zF 25 7 1,zM 26 25,zN 27 26] (zb 27 (za [zF 28 0 1,zM 29 28,yt 30 29,zS 13 2 30] zc) zd)) k141_3) k141_8)
abbrev k141_10:=za [zQ 15 4 2,zV 14 15] (zb 14 (za [zF 16 0 1,zM 17 16,zF 18 1 1,zM 19 18,zF 20 2 1,zM 21 20,yr 22 17 1 19 2 21,zS 13 2 22] zc) k141_9)
abbrev k141_11:AD:= .block 0 (za [zQ 6 4 1,zV 5 6] (zb 5 (za [zF 7 0 1,zM 8 7,zF 9 3 1,zM 10 9,zF 11 4 1,zM 12 11,yr 13 8 3 10 4 12,zS 13 2 13] zc) k141_10))
abbrev c141:=za [zl 1 0,zg 2] (ze (za [zF 3 0 1,zM 4 3] k141_11) (za [zq 54,zS 13 2 54] zc))
theorem ok141:Ao Qa 141 c141 55 [.c 2 (some 13)]=true:=by kernel_rfl
abbrev c142:=za [zt 6] (za [zV 7 0,zV 8 1,yJ 9 7 8,zV 10 9,zH 11 0 10,zH 12 2 10,yF,zA 14 10 13,zV 6 14] zc)
theorem ok142:Ao Qa 142 c142 15 [.t 6]=true:=by kernel_rfl
abbrev k143_2:=za [zV 13 4,zV 14 0,zX 15 1 13 14,zM 16 15,W1 17 (.call 187 [(.t 16),(.c (.str [32]))]),zV 12 17,zE 18 12 0,zE 19 12 1,zE 20 12 2,zV 2 18,zV 3 19] (za [zV 21 2,zV 22 3,zV 2 21,zV 3 22] zc)
abbrev k143_3:=ze (za [zV 6 0,yk 7 6 1,zV 8 7,zT 9 0 8,yn 10 8 9 13,zO 11 8 10] (zb 11 (za [W1 2 (.mv (.c (.str []))),W1 3 (.mv (.c (.str [])))] zc) zd)) k143_2
abbrev c143:=za [W1 2 (.mv (.c (.str []))),W1 3 (.mv (.c (.str [])))] (za [W1 5 (.EO 1 14 [.str []] [(0,(.c (.str []))),(1,(.c (.str [109,97,107,101,32,65,66,88,89]))),(2,(.c (.str [99,111,112,121,32,65,66,88]))),(3,(.c (.str [109,105,110,116,32,65,66,88,89]))),(4,(.c (.str [109,111,118,101,32,65,66]))),(5,(.c (.str [100,101,108,101,116,101,32,65]))),(6,(.c (.str [114,101,118,111,107,101,32,65]))),(7,(.c (.str [115,101,110,100,32,65,98,87]))),(8,(.c (.str [114,101,99,118,32,65,98]))),(9,(.c (.str [114,105,110,103,32,65]))),(10,(.c (.str [112,111,108,108,32,65]))),(11,(.c (.str [119,114,105,116,101,32,65,88,87]))),(12,(.c (.str [114,101,97,100,32,65,88]))),(13,(.c (.str [116,101,108,108,32,65])))]),zV 4 5] k143_3)
theorem ok143:Ao Qa 143 c143 23 [.t 2,.t 3]=true:=by kernel_rfl
abbrev k145_0:=za [zF 4 0 1,zM 5 4,zn 6 5,zP 7 6 1,zV 8 7,zR 9 8 0 1,z8 10 8 9,yC 11 8 10,js 12 8 11 3,zA 13 8 12,zV 14 13,zR 15 14 0 1,z8 16 14 15,zH 17 3 14,zy 18 14 190 16 17,yB 19 14 18,zA 20 14 19,zV 2 20] zc
abbrev c145:=za [zl 1 0,zt 2] (za [W1 3 (.mv (.c (.func 189 [])))] k145_0)
theorem ok145:Ao Qa 145 c145 21 [.t 2]=true:=by kernel_rfl
abbrev k147_0:=za [zF 7 3 1,zM 8 7,yp 9 192 8 1 5,zV 10 9,zR 11 10 4 1,z8 12 10 11,jr 13 10 192 12 0 4096,zA 14 10 13,zV 2 14] zc
abbrev k147_2:=za [zF 27 3 1,zM 28 27,zi 29 169 28,zV 30 29,zR 31 30 4 1,z8 32 30 31,jr 33 30 192 32 1 65535,zA 34 30 33,zV 2 34] zc
abbrev k147_5:=ze (za [zQ 36 4 11,zV 35 36] (zb 35 zd (.region [zQ 37 4 12,zV 35 37]))) (zb 35 (za [zF 38 3 1,zM 39 38,yp 40 192 39 0 3,zV 41 40,zR 42 41 4 1,z8 43 41 42,zY 44 41 43 0,zA 45 41 44,zV 2 45] zc) zd)
abbrev k147_7:=za [zQ 16 4 2,zV 15 16] (zb 15 (za [zF 17 3 1,zM 18 17,zi 19 169 18,zV 20 19,zR 21 20 4 1,z8 22 20 21,zY 23 20 22 0,zA 24 20 23,zV 2 24] zc) (za [zQ 26 4 3,zV 25 26] (zb 25 k147_2 k147_5)))
abbrev k147_10:=ze (za [zF 3 0 1,zM 4 3] (.block 0 (za [zQ 6 4 1,zV 5 6] (zb 5 k147_0 k147_7)))) (za [zF 46 3 1,zM 47 46,zQ 48 47 0,zV 49 48,zR 50 49 4 1,z8 51 49 50,zY 52 49 51 0,zA 53 49 52,zV 2 53] zc)
abbrev c147:=za [zl 1 0,zt 2] k147_10
theorem ok147:Ao Qa 147 c147 54 [.t 2]=true:=by kernel_rfl
abbrev k150_2:=za [zF 24 3 3,zM 25 24,zV 26 9,zX 27 5 25 26,zF 28 0 27,zL 29 4 28,zi 30 158 29,zV 23 30] (zb 23 (za [zz 31,zK 6 0,zS 4 7 31,zK 8 4] zc) zd)
abbrev k150_3:=ze (.drawn [(1,zF 33 3 3),(2,zM 34 33),(3,zV 35 9),(4,zX 36 5 34 35),(5,zF 37 0 36),(6,zL 38 4 37),(0,zV 32 9),(7,zV 6 32),(8,zS 4 7 38),(9,zK 8 0)] [[],[],[1],[],[2,3],[4],[5],[0,0],[6,7,0,1,2,3,4,5,6,7],[8,0,1,2,3,4,5,6,7,8]] 0) zc
abbrev k150_4:=ze (.block 0 (za [zV 19 10,zw 20 19 0,zV 18 20] (zb 18 (za [zz 21,zV 22 10,zK 6 0,zS 4 7 21,zV 8 22] zc) k150_2))) k150_3
abbrev c150:=za [zl 3 0,zl 5 2,zK 6 0,zr 7,zK 8 0] (za [zL 12 5 3,zV 13 1,zL 14 1 5,zu 15 203 12 13 14,zV 11 15,zE 16 11 0,zE 17 11 1,zV 9 16,zV 10 17] k150_4)
theorem ok150:Ao Qa 150 c150 39 [.t 6,.c 7 (some 4),.t 8]=true:=by kernel_rfl
abbrev k151_2:=ze (.drawn [(0,zL 10 1 2),(1,zL 11 1 2),(2,zV 12 1),(3,zj 13 206 11 12),(4,zj 14 205 10 13),(5,zV 5 14)] [[],[],[],[1,2],[0,3,3],[4,4,0,1,2,3,4]] 0) (za [zV 15 5,zi 16 73 15] (za [zV 17 5,zV 4 17] zc))
abbrev c151:=za [zl 2 0,zk 4] (ze (za [zL 6 1 2,zV 7 1,zj 8 204 6 7,zN 9 8] (zb 9 (za [zk 4] zc) zd)) k151_2)
theorem ok151:Ao Qa 151 c151 18 [.t 4]=true:=by kernel_rfl
abbrev c153:=za [zt 4] (za [zV 5 0,zV 6 1,zj 7 209 5 6,zQ 8 7 0,zV 4 8] zc)
theorem ok153:Ao Qa 153 c153 9 [.t 4]=true:=by kernel_rfl
abbrev k156_0:=ze (.drawn [(0,zF 3 0 1),(1,zL 4 3 3),(2,zF 5 3 1),(3,zM 6 5),(5,zF 8 4 1),(6,zM 9 8),(4,zi 7 210 6),(7,zi 10 211 9),(8,yN 11 4 7 10),(9,zS 5 2 11)] [[],[0],[],[2],[3],[],[5],[6,4],[1,4,7],[8,7,0,1,2,3,4,5,6,7,8]] 0) zc
abbrev c156:=za [zl 1 0,zf 2] k156_0
theorem ok156:Ao Qa 156 c156 12 [.c 2 (some 5)]=true:=by kernel_rfl
abbrev k157_2:=ze (.block 1 (.region [zV 23 5,zh 24 23 1,zV 5 24])) (.region [zF 18 0 2,zM 19 18,zV 20 6,zX 21 1 19 20,zM 22 21,zV 6 22])
def b157_3:=ze (za [zV 16 6,zw 17 16 (-1)] (zb 17 zd (.exit 0))) k157_2
abbrev k157_4:=ze (za [zF 11 0 2,zM 12 11,zV 13 1,zX 14 1 12 13,zM 15 14,zV 6 15] (.block 0 (.loop b157_3))) (za [zV 25 5,zV 4 25] zc)
abbrev c157:=za [zl 2 0,zK 4 0] (ze (za [zL 7 1 2,zV 8 1,zj 9 204 7 8,zN 10 9] (zb 10 (za [zK 4 (-1)] zc) zd)) (za [zK 5 0] k157_4))
theorem ok157:Ao Qa 157 c157 26 [.t 4]=true:=by kernel_rfl
abbrev c158:=za [zl 1 0,zt 2] (za [zL 3 4 1,zz 4,W1 5 (.eqs false [0,0,0,0] (.t 3) (.t 4)),zV 2 5] zc)
theorem ok158:Ao Qa 158 c158 6 [.t 2]=true:=by kernel_rfl
abbrev k159_0:=za [zV 5 1,zP 6 5 0,zV 7 6,zH 8 1 7,zR 9 7 4 2,z8 10 7 9,yC 11 7 10,yD 12 7 8 11,zA 13 7 12,zV 14 13,zR 15 14 4 2,z8 16 14 15,zH 17 1 14,W2 18 14 true (.A9 13 (.t 16) (.t 17)),zR 19 14 0 18,z8 20 14 19,ya 21 14 20 0,zA 22 14 21,zV 4 22] zc
abbrev c159:=za [zl 2 0,zt 4] k159_0
theorem ok159:Ao Qa 159 c159 23 [.t 4]=true:=by kernel_rfl
abbrev k160_1:=za [zF 16 0 7,zL 17 4 16,zi 18 158 17,zN 19 18,zV 20 19,zR 21 20 0 7,zR 22 20 1 21,z8 23 20 22,zH 24 1 20,jK 25 20 23 24,zA 26 20 25] (zb 26 (.region [zV 27 5,zV 28 6,yz 29 28,yl 30 1 8 27 29,zV 5 30]) zd)
abbrev k160_2:=ze (.block 1 (za [zV 13 11,zX 14 5 9 11,zL 15 5 14,zx 7,zV 6 13,zS 5 7 15] k160_1)) (.region [zh 31 11 1,zV 11 31])
def b160_3:=za [zm 12 11 10] (ze (zb 12 zd (.exit 0)) k160_2)
abbrev c160:=za [zl 2 0,zk 4] (za [zk 5] (ze (za [zF 8 3 2,zM 9 8,zn 10 9,zK 11 0] (.block 0 (.loop b160_3))) (za [zV 32 5,zV 4 32] zc)))
theorem ok160:Ao Qa 160 c160 33 [.t 4]=true:=by kernel_rfl
abbrev k161_2:=za [zL 22 5 3,zV 23 1,zV 24 7,zu 25 212 22 23 24] (za [zV 26 7,zL 27 5 3,zV 28 2,zj 29 213 27 28,W1 30 (.Wb (.bool false) (.t 26) (.t 29)),zV 6 30] zc)
abbrev k161_3:=ze (za [zL 8 5 3,zV 9 1,zj 10 159 8 9,zN 11 10,zV 12 11,yb 13 12 4 3,yg 14 12 13,zT 15 1 12,jb 16 12 13 14 15,yb 17 12 0 16,yg 18 12 17,yA 19 12 18 2,zO 20 12 19] (zb 20 (za [zt 6] zc) zd)) (za [W1 21 (.Pa),zV 7 21] k161_2)
abbrev c161:=za [zl 3 0,zt 6] k161_3
theorem ok161:Ao Qa 161 c161 31 [.t 6]=true:=by kernel_rfl
abbrev k162_0:=za [zV 5 1,zP 6 5 0,zV 7 6,zH 8 1 7,zR 9 7 0 2,z8 10 7 9,yC 11 7 10,yD 12 7 8 11,zA 13 7 12,zV 14 13,zR 15 14 0 2,z8 16 14 15,zH 17 1 14,W2 18 14 true (.A9 1 (.t 16) (.t 17)),z8 19 14 18,ya 20 14 19 (-2),zA 21 14 20,zV 4 21] zc
abbrev c162:=za [zl 2 0,zt 4] k162_0
theorem ok162:Ao Qa 162 c162 22 [.t 4]=true:=by kernel_rfl
abbrev k163_1:=za [zF 7 0 2,zM 8 7,zF 9 0 3,zM 10 9,yw 11 8 10,zV 12 11,zR 13 12 1 2,z8 14 12 13,zR 15 12 1 3,z8 16 12 15,jK 17 12 14 16,zA 18 12 17,zV 19 18,zR 20 19 2 2,z8 21 19 20,zR 22 19 2 3,z8 23 19 22,zy 24 19 153 21 23,zA 25 19 24,zV 26 25,zR 27 26 3 3,z8 28 26 27,zY 29 26 28 0,zH 30 29 26,yb 31 30 3 3,yg 32 30 31,yb 33 30 3 2,yg 34 30 33,W2 35 30 false (.bin .eql (.t 32) (.t 34)),yu 36 26 30 35,zA 37 26 36,zV 4 37] zc
abbrev c163:=za [zl 2 0,zl 3 1,zt 4] (ze (za [zL 5 4 2,zi 6 158 5] (zb 6 (za [yE 4] zc) zd)) k163_1)
theorem ok163:Ao Qa 163 c163 38 [.t 4]=true:=by kernel_rfl
abbrev c168:=za [zt 6] (za [zV 7 0,zV 8 1,yJ 9 7 8,zV 10 9,zH 11 0 10,zH 12 2 10,yF,zA 14 10 13,zV 6 14] zc)
theorem ok168:Ao Qa 168 c168 15 [.t 6]=true:=by kernel_rfl
abbrev c169:=za [zt 2] (za [zV 3 0,zP 4 3 0,zV 5 4,zH 6 0 5,js 7 5 6 7,zA 8 5 7,zV 2 8] zc)
theorem ok169:Ao Qa 169 c169 9 [.t 2]=true:=by kernel_rfl
abbrev c170:=za [zt 2] (za [zV 3 0,zP 4 3 0,zV 5 4,zH 6 0 5,js 7 5 6 65535,zA 8 5 7,zV 2 8] zc)
theorem ok170:Ao Qa 170 c170 9 [.t 2]=true:=by kernel_rfl
abbrev c171:=za [zt 2] (za [zV 3 0,zQ 4 3 3,zV 5 4,zT 6 0 5,W2 7 5 false (.bin .eql (.t 6) (zI 4)),zO 8 5 7,zV 2 8] zc)
theorem ok171:Ao Qa 171 c171 9 [.t 2]=true:=by kernel_rfl
abbrev c172:=za [zt 2] (za [zV 6 0,zi 7 216 6,zV 5 7,zE 8 5 0,zE 9 5 1,zV 3 8,zV 4 9] (za [zV 10 4,zV 2 10] zc))
theorem ok172:Ao Qa 172 c172 11 [.t 2]=true:=by kernel_rfl
abbrev k173_0:=ze (.drawn [(0,zF 3 1 1),(1,zM 4 3),(4,zF 7 0 1),(5,zM 8 7),(2,W1 5 (.bin .shl (.c (.int .u64 1)) (.t 4))),(3,W1 6 (.bin .sub (.t 5) (.c (.int .u64 1)))),(6,W1 9 (.bin .shl (.t 6) (.t 8))),(7,zV 2 9)] [[],[0],[1],[2],[],[4],[3,5],[6,0,1,2,3,4,5,6]] 0) zc
abbrev c173:=za [zl 1 0,yc 2 0] k173_0
theorem ok173:Ao Qa 173 c173 10 [.t 2]=true:=by kernel_rfl
abbrev c189:=za [zt 2] (za [zV 3 0,yk 4 3 0,zV 5 4,zT 6 0 5,yn 7 5 6 15,zO 8 5 7,zV 2 8] zc)
theorem ok189:Ao Qa 189 c189 9 [.t 2]=true:=by kernel_rfl
abbrev c192:=za [zt 6] (za [zV 7 0,zV 8 1,yJ 9 7 8,zV 10 9,zH 11 0 10,zH 12 2 10,yF,zA 14 10 13,zV 6 14] zc)
theorem ok192:Ao Qa 192 c192 15 [.t 6]=true:=by kernel_rfl
abbrev k193_2:=za [zF 22 3 3,zM 23 22,zV 24 8,zX 25 5 23 24,zF 26 0 25,zL 27 4 26,zi 28 158 27,zN 29 28,zV 21 29] (zb 21 (za [zK 6 0,zK 7 5] zc) zd)
abbrev k193_4:=ze (.block 0 (za [zV 18 9,zw 19 18 0,zV 17 19] (zb 17 (za [zV 20 9,zK 6 0,zV 7 20] zc) k193_2))) (za [zV 30 8,zV 6 30,zK 7 0] zc)
abbrev c193:=za [zl 3 0,zl 5 2,zK 6 0,zK 7 0] (za [zL 11 5 3,zV 12 1,zL 13 1 5,zu 14 203 11 12 13,zV 10 14,zE 15 10 0,zE 16 10 1,zV 8 15,zV 9 16] k193_4)
theorem ok193:Ao Qa 193 c193 31 [.t 6,.t 7]=true:=by kernel_rfl
abbrev k194_7:=ze (za [zQ 19 6 3,zV 18 19] (zb 18 zd (.region [zQ 20 6 4,zV 18 20]))) (zb 18 (za [zK 4 1,yE 5] zc) (za [zQ 22 6 5,zV 21 22] (zb 21 (za [zK 4 2,yE 5] zc) zd)))
abbrev k194_8:=za [zQ 13 6 2,zV 12 13] (zb 12 (za [zV 14 1,yp 15 142 14 1 4] (zb 15 (za [zV 16 1,jc 17 16,zV 4 17,yE 5] zc) zd)) k194_7)
abbrev k194_9:AD:= .block 0 (za [zQ 8 6 1,zV 7 8] (zb 7 (za [zV 9 1,yp 10 142 9 1 4096] (zb 10 (za [zV 11 1,zV 4 11,yE 5] zc) zd)) k194_8))
abbrev c194:=za [zK 4 0,zt 5] (ze (za [zV 6 0] k194_9) (za [zK 4 0,zt 5] zc))
theorem ok194:Ao Qa 194 c194 23 [.t 4,.t 5]=true:=by kernel_rfl
abbrev k196_2:=ze (za [zL 3 5 1,zi 4 64 3,zN 5 4] (zb 5 (za [zK 2 (-1)] zc) zd)) (za [zF 6 4 1,zM 7 6,W1 8 (.call 232 [(.t 7),(.c (.func 233 []))]),zV 2 8] zc)
abbrev c196:=za [zl 1 0,zK 2 0] k196_2
theorem ok196:Ao Qa 196 c196 9 [.t 2]=true:=by kernel_rfl
abbrev k197_2:=za [zV 31 6,zV 32 1,jc 33 32,yw 34 31 33] (zb 34 (za [zV 35 7,zh 36 35 1,zV 37 6,yQ 38 36 37,zV 4 38,yE 5] zc) zd)
abbrev k197_4:=za [zV 25 6,zh 26 25 1,zV 6 26] (ze (za [zL 27 5 2,zV 28 7,zj 29 213 27 28,zw 30 29 (-1)] (zb 30 (.region [zK 6 0]) zd)) k197_2)
def b197_6:=za [zm 23 22 21] (ze (zb 23 zd (.exit 0)) (ze (.block 1 (za [zV 24 22,zV 7 24] k197_4)) (.region [zh 39 22 1,zV 22 39])))
abbrev k197_8:=ze (za [zL 8 5 2,zi 9 64 8,zN 10 9,zV 11 10,zT 12 1 11,yj 13 11 12 1,zO 14 11 13,zV 15 14,zT 16 1 15,yn 17 15 16 4,zO 18 15 17] (zb 18 (za [zK 4 0,zt 5] zc) zd)) (za [zK 6 0] (ze (za [zF 19 3 2,zM 20 19,zn 21 20,zK 22 0] (.block 0 (.loop b197_6))) (za [zK 4 0,zt 5] zc)))
abbrev c197:=za [zl 2 0,zK 4 0,zt 5] k197_8
theorem ok197:Ao Qa 197 c197 40 [.t 4,.t 5]=true:=by kernel_rfl
abbrev k198_2:=ze (za [zL 5 4 2,zi 6 115 5,zN 7 6] (zb 7 (za [zz 8,zS 4 4 8] zc) zd)) (za [zF 9 2 2,zM 10 9,zV 11 1,zj 12 234 10 11,zF 13 2 2,zS 1 13 12] (za [zL 14 4 2,zS 4 4 14] zc))
abbrev c198:=za [zl 2 0,zr 4] k198_2
theorem ok198:Ao Qa 198 c198 15 [.c 4 (some 4)]=true:=by kernel_rfl
abbrev k199_6:=za [zF 17 0 2,zM 18 17,zi 19 171 18,zN 20 19,zV 16 20] (zb 16 (za [zz 21,zS 4 4 21,zK 5 7] zc) (za [zF 23 3 2,zM 24 23,zw 25 24 0,zV 22 25] (zb 22 (za [zz 26,zS 4 4 26,zK 5 5] zc) zd)))
abbrev k199_9:=ze (.block 0 (ze (za [zL 7 4 2,zi 8 115 7,zN 9 8,zV 6 9] (zb 6 zd (za [zV 10 1,zi 11 170 10,zN 12 11,zV 6 12] (zb 6 zd (.region [zV 13 1,zQ 14 13 0,zV 6 14]))))) (zb 6 (za [zz 15,zS 4 4 15,zK 5 1] zc) k199_6))) (za [zV 27 1,zF 28 3 2,zS 1 28 27] (za [zL 29 4 2,zS 4 4 29,zK 5 0] zc))
abbrev c199:=za [zl 2 0,zr 4,zK 5 0] k199_9
theorem ok199:Ao Qa 199 c199 30 [.c 4 (some 4),.t 5]=true:=by kernel_rfl
abbrev k203_4:=ze (za [zV 52 9,zN 53 52,zV 54 53,z7 55 54 13 8,zT 56 12 54,ju 57 54 240 55 56,yj 58 54 57 0,zO 59 54 58] (zb 59 (za [zK 6 0,zK 7 3] zc) zd)) (.region [zL 60 13 8,zV 61 12,zj 62 240 60 61,zV 10 62])
abbrev k203_5:=ze (za [zV 44 11,yG 45 44 0] (zb 45 (.region [zL 47 5 3,zV 48 10,zj 49 239 47 48,zV 46 49,zE 50 46 0,zE 51 46 1,zS 13 8 50,zV 9 51]) zd)) k203_4
def b203_7:=za [zm 40 39 38] (ze (zb 40 zd (.exit 0)) (ze (.block 1 (za [zV 41 39,zX 42 1 37 39,zM 43 42,zV 11 41,zV 12 43] k203_5)) (.region [zh 63 39 1,zV 39 63])))
abbrev k203_10:=za [zF 30 4 3,zM 31 30,zV 32 1,W1 33 (.bin .add (zI 2) (.t 32)),zX 34 13 31 33,zL 35 13 34,zg 8,zS 13 8 35,yE 9] (za [zK 10 0] (ze (za [zF 36 0 5,zM 37 36,zn 38 37,zK 39 0] (.block 0 (.loop b203_7))) (za [zV 64 10,zV 6 64,zK 7 0] zc)))
abbrev k203_11:=ze (za [zL 13 5 3,zi 14 64 13,zN 15 14,zV 16 15,zT 17 1 16,yb 18 16 0 3,yb 19 16 0 18,yg 20 16 19,yU 21 16 20,jh 22 16 238 17 21,yf 23 16 22,zO 24 16 23,zV 25 24,z7 26 25 1 5,ym 27 25 145 26,yf 28 25 27,zO 29 25 28] (zb 29 (za [zK 6 0,zK 7 1] zc) zd)) k203_10
abbrev c203:=za [zl 3 0,zl 5 2,zK 6 0,zK 7 0] k203_11
theorem ok203:Ao Qa 203 c203 65 [.t 6,.t 7]=true:=by kernel_rfl
abbrev c204:=za [zl 2 0,zt 4] (za [zL 5 1 2,zi 6 110 5,zV 7 6,zv 8 7 1 2,zH 9 1 7,zy 10 7 162 8 9,zA 11 7 10,zV 4 11] zc)
theorem ok204:Ao Qa 204 c204 12 [.t 4]=true:=by kernel_rfl
abbrev k205_0:AD:= .drawn [(1,zL 19 1 2),(2,zL 20 1 2),(3,zV 21 7),(4,zj 22 206 20 21),(5,zj 23 205 19 22),(0,zV 18 5),(6,yl 24 1 8 18 23),(7,zV 5 24)] [[],[],[],[],[2,3],[1,4,4],[0,5,5],[6,6,0,1,2,3,4,5,6]] 0
abbrev k205_2:=ze (.block 1 (za [zX 12 1 8 10,zM 13 12,zV 7 13] (za [zV 14 5,zV 15 7,yz 16 15,yl 17 1 8 14 16,zV 5 17] k205_0))) (.region [zh 25 10 1,zV 10 25])
def b205_3:=za [zm 11 10 9] (ze (zb 11 zd (.exit 0)) k205_2)
abbrev c205:=za [zl 2 0,zk 4] (za [zk 5] (ze (za [zV 8 1,zn 9 8,zK 10 0] (.block 0 (.loop b205_3))) (za [zV 26 5,zV 4 26] zc)))
theorem ok205:Ao Qa 205 c205 27 [.t 4]=true:=by kernel_rfl
abbrev k206_2:=ze (.block 1 (za [zV 13 11,zX 14 1 9 11,zM 15 14,zV 6 13,zV 7 15] (za [zV 16 7,zV 17 1,yw 18 16 17] (zb 18 (.region [zV 19 5,zV 20 6,yz 21 20,yl 22 1 8 19 21,zV 5 22]) zd)))) (.region [zh 23 11 1,zV 11 23])
def b206_3:=za [zm 12 11 10] (ze (zb 12 zd (.exit 0)) k206_2)
abbrev c206:=za [zl 2 0,zk 4] (za [zk 5] (ze (za [zF 8 0 2,zM 9 8,zn 10 9,zK 11 0] (.block 0 (.loop b206_3))) (za [zV 24 5,zV 4 24] zc)))
theorem ok206:Ao Qa 206 c206 25 [.t 4]=true:=by kernel_rfl
abbrev c209:=za [zK 4 0] (za [zV 5 0,zi 6 242 5,zV 7 1,zi 8 242 7,W1 9 (.bin .andNot (.t 6) (.t 8)),zV 4 9] zc)
theorem ok209:Ao Qa 209 c209 10 [.t 4]=true:=by kernel_rfl
abbrev k212_1:=za [zF 21 0 7,zF 22 0 21,zM 23 22,zQ 24 23 2,zV 25 24,zR 26 25 4 3,z8 27 25 26,zH 28 1 25,W2 29 25 true (.A9 13 (.t 27) (.t 28)),zv 30 25 13 29,zH 31 6 25,zy 32 25 243 30 31,zA 33 25 32,zV 34 33,zv 35 34 5 3,zR 36 34 0 7,zR 37 34 1 36,z8 38 34 37,zy 39 34 159 35 38,zA 40 34 39] (zb 40 (.region [zL 41 5 3,zF 42 0 7,zF 43 1 42,zM 44 43,zV 45 2,zu 46 212 41 44 45]) zd)
abbrev k212_2:=ze (.block 1 (za [zV 18 16,zX 19 5 14 16,zL 20 5 19,zx 7,zV 6 18,zS 5 7 20] k212_1)) (.region [zh 47 16 1,zV 16 47])
def b212_3:=za [zm 17 16 15] (ze (zb 17 zd (.exit 0)) k212_2)
abbrev k212_5:=za [zV 11 2,zV 12 1,⟨none,.ZR (.t 11) (.t 12) (.c (.bool true)),none⟩] (za [zF 13 3 3,zM 14 13,zn 15 14,zK 16 0] (.block 0 (.loop b212_3)))
abbrev c212:=za [zl 3 0] (ze (za [zV 8 2,zV 9 1,W1 10 (.Wb (.bool false) (.t 8) (.t 9))] (zb 10 zc zd)) k212_5)
theorem ok212:Ao Qa 212 c212 48 []=true:=by kernel_rfl
abbrev c213:=za [zl 2 0,zl 3 1,zK 4 0] (za [zF 5 4 2,zM 6 5,W1 7 (.YY 244 [(.t 3)]),zj 8 232 6 7,zV 4 8] zc)
theorem ok213:Ao Qa 213 c213 9 [.t 4]=true:=by kernel_rfl
abbrev k216_2:=ze (za [zF 13 0 6,zM 14 13,yk 15 14 0,zV 16 15,yb 17 16 0 6,yg 18 16 17,W2 19 16 false (.bin .geq (.t 18) (zI 64)),zO 20 16 19,zV 21 20,yb 22 21 1 6,yg 23 21 22,yj 24 21 23 1,zO 25 21 24,zV 26 25,yb 27 26 1 6,yg 28 26 27,yb 29 26 0 6,yg 30 26 29,W2 31 26 false (.bin .sub (zI 64) (.t 30)),W2 32 26 false (.bin .gtr (.t 28) (.t 31)),zO 33 26 32,zV 34 33,zT 35 4 34,z7 36 34 2 6,ym 37 34 173 36,W2 38 34 false (.bin .and (.t 35) (.t 37)),W2 39 34 false (.bin .neq (.t 38) (.c (.int .u64 0))),zO 40 34 39] (zb 40 (za [yc 2 0,zt 3] zc) zd)) (.region [zV 41 4,zL 42 2 6,zi 43 173 42,jv 44 41 43,zV 4 44])
def b216_4:=za [zm 10 9 8] (ze (zb 10 zd (.exit 0)) (ze (.block 1 (za [zX 11 2 7 9,zL 12 2 11,jL 6,zS 2 6 12] k216_2)) (.region [zh 45 9 1,zV 9 45])))
abbrev c216:=za [yc 2 0,zt 3] (za [yc 4 0] (ze (za [zV 7 0,zn 8 7,zK 9 0] (.block 0 (.loop b216_4))) (za [zV 46 4,zV 2 46,yE 3] zc)))
theorem ok216:Ao Qa 216 c216 47 [.t 2,.t 3]=true:=by kernel_rfl
abbrev k231_2:=ze (za [zL 5 1 2,zV 6 1,zj 7 204 5 6,zN 8 7] (zb 8 (za [zk 4] zc) zd)) (za [zL 9 1 2,zV 10 1,zj 11 206 9 10,zV 4 11] zc)
abbrev c231:=za [zl 2 0,zk 4] k231_2
theorem ok231:Ao Qa 231 c231 12 [.t 4]=true:=by kernel_rfl
abbrev c233:=za [zl 1 0,zt 2] (za [zF 3 0 1,zM 4 3,zQ 5 4 0,zV 2 5] zc)
theorem ok233:Ao Qa 233 c233 6 [.t 2]=true:=by kernel_rfl
abbrev c234:=za [zK 4 0] (za [zV 5 0,zi 6 242 5,zV 7 1,zi 8 242 7,W1 9 (.bin .and (.t 6) (.t 8)),zV 4 9] zc)
theorem ok234:Ao Qa 234 c234 10 [.t 4]=true:=by kernel_rfl
abbrev k235_2:=ze (za [zL 5 5 2,zi 6 64 5,zN 7 6,zV 8 7,zT 9 1 8,yj 10 8 9 0,zO 11 8 10,zV 12 11,zT 13 1 12,yb 14 12 3 2,yg 15 12 14,yd 16 12 15,yI 17 12 13 16,zO 18 12 17] (zb 18 (za [zK 4 (-1)] zc) zd)) (za [zL 19 5 2,zV 20 1,zj 21 213 19 20,zV 4 21] zc)
abbrev c235:=za [zl 2 0,zK 4 0] k235_2
theorem ok235:Ao Qa 235 c235 22 [.t 4]=true:=by kernel_rfl
abbrev k236_0:=za [zL 7 5 3,zi 8 64 7,zV 9 8,zH 10 2 9,W2 11 9 true (.bin .geq (.t 10) (zI 0)),zA 12 9 11,zV 13 12,zH 14 2 13,zR 15 13 3 3,z8 16 13 15,yC 17 13 16,yD 18 13 14 17,zA 19 13 18,zV 20 19,zv 21 20 5 3,zH 22 1 20,zH 23 2 20,jq 24 20 161 21 22 23,zA 25 20 24,zV 6 25] zc
abbrev c236:=za [zl 3 0,zt 6] k236_0
theorem ok236:Ao Qa 236 c236 26 [.t 6]=true:=by kernel_rfl
abbrev k237_2:=ze (.block 1 (za [zX 39 1 35 37,zM 40 39,zV 9 40] (.region [zF 41 0 3,zM 42 41,zV 43 9,zV 44 2,zX 45 1 42 43,zS 1 45 44]))) (.region [zh 46 37 1,zV 37 46])
def b237_3:=za [zm 38 37 36] (ze (zb 38 zd (.exit 0)) k237_2)
abbrev k237_6:=ze (.drawn [(0,zF 47 0 3),(1,zM 48 47),(3,zF 50 0 3),(4,zM 51 50),(5,zV 52 1),(6,zX 53 1 51 52),(7,zM 54 53),(2,zV 49 2),(8,zX 55 1 48 49),(9,zS 1 55 54)] [[],[0],[],[],[3],[],[4,5],[6],[1,2,0,1,2,3,4,5,6,7],[8,7,0,1,2,3,4,5,6,7]] 0) (za [zF 56 0 3,zM 57 56,zV 58 1,zX 59 1 57 58,yR 59 (-2)] (za [zL 60 1 3,zS 1 6 60,yE 7] zc))
abbrev k237_8:=za [zL 31 1 3,zi 32 255 31,zS 1 3 32] (ze (za [zL 33 1 3,zV 34 1,zj 35 206 33 34,zn 36 35,zK 37 0] (.block 0 (.loop b237_3))) k237_6)
abbrev k237_9:=ze (za [zL 10 1 3,zV 11 1,zj 12 204 10 11,zN 13 12,zV 14 13,zT 15 2 14,yj 16 14 15 0,zO 17 14 16,zV 18 17,zT 19 2 18,yb 20 18 0 3,yg 21 18 20,yd 22 18 21,yI 23 18 19 22,zO 24 18 23,zV 25 24,z7 26 25 1 3,zT 27 2 25,ju 28 25 162 26 27,zO 29 25 28] (zb 29 (za [W1 30 (.build [.lit (.slice none 0 0)] []),zS 1 6 30,zt 7] zc) zd)) k237_8
abbrev c237:=za [zl 3 0,yL 6,zt 7] k237_9
theorem ok237:Ao Qa 237 c237 61 [.c 6 (some 1),.t 7]=true:=by kernel_rfl
abbrev c238:=za [zt 6] (za [zV 7 0,zV 8 1,yJ 9 7 8,zV 10 9,zH 11 0 10,zH 12 2 10,yF,zA 14 10 13,zV 6 14] zc)
theorem ok238:Ao Qa 238 c238 15 [.t 6]=true:=by kernel_rfl
abbrev k239_2:=ze (za [zF 13 0 6,zM 14 13,zw 15 14 2,zV 16 15,yb 17 16 2 6,yg 18 16 17,W2 19 16 false (.call 153 [(zI 1),(.t 18)]),yf 20 16 19,zO 21 16 20] (zb 21 (za [zq 22,zS 13 4 22,zt 5] zc) zd)) (za [zF 23 4 2,zM 24 23,zF 25 1 6,zM 26 25,zX 27 13 24 26,zL 28 13 27,zS 13 4 28,yE 5] zc)
abbrev c239:=za [zl 2 0,zg 4,zt 5] (za [zF 7 3 2,zM 8 7,zV 9 1,zX 10 5 8 9,zF 11 0 10,zL 12 4 11,zr 6,zS 4 6 12] k239_2)
theorem ok239:Ao Qa 239 c239 29 [.c 4 (some 13),.t 5]=true:=by kernel_rfl
abbrev k240_2:=ze (za [zV 5 1,zF 6 1 2,zM 7 6,jc 8 7,yJ 9 5 8] (zb 9 (za [zK 4 (-1)] zc) zd)) (za [zF 10 2 2,zM 11 10,zV 12 1,zW 13 11 12,zV 4 13] zc)
abbrev c240:=za [zl 2 0,zK 4 0] k240_2
theorem ok240:Ao Qa 240 c240 14 [.t 4]=true:=by kernel_rfl
abbrev c242:=za [zK 2 0] (ze (za [zV 3 0,zi 4 169 3,zN 5 4] (zb 5 (za [zK 2 0] zc) zd)) (za [zV 6 0,zV 2 6] zc))
theorem ok242:Ao Qa 242 c242 7 [.t 2]=true:=by kernel_rfl
abbrev k243_0:=ze (.drawn [(0,zF 5 0 2),(1,zM 6 5),(2,zQ 7 6 2),(3,zV 8 7),(5,zR 10 8 2 2),(6,z8 11 8 10),(4,zH 9 1 8),(7,W2 12 8 true (.bin .geq (.t 9) (.t 11))),(8,zA 13 8 12),(9,zV 14 13),(11,zR 16 14 2 2),(12,z8 17 14 16),(13,zR 18 14 1 2),(14,z8 19 14 18),(10,zH 15 1 14),(15,W2 20 14 true (.bin .shl (zI 1) (.t 19))),(16,jH 21 14 17 20),(17,yD 22 14 15 21),(18,zA 23 14 22),(19,zV 4 23)] [[],[0],[1],[2],[3],[3],[5,3],[4,6,3],[3,7],[8,3],[9],[9],[11,9],[9],[13,9],[14,9],[12,15,9],[10,16,9],[9,17],[18,9,0,1,2,3,4,5,6,7,8,9,10,11,12,13,14,15,16,17,18]] 0) zc
abbrev c243:=za [zl 2 0,zt 4] k243_0
theorem ok243:Ao Qa 243 c243 24 [.t 4]=true:=by kernel_rfl
abbrev c244:=za [zl 2 0,zt 3] (za [zL 4 13 2,zM 5 1,zj 6 243 4 5,zV 3 6] zc)
theorem ok244:Ao Qa 244 c244 7 [.t 3]=true:=by kernel_rfl
abbrev c255:=za [zl 1 0,yL 2] (za [zF 3 0 1,zM 4 3,zi 5 263 4,ja 6 5,zS 1 2 6] zc)
theorem ok255:Ao Qa 255 c255 7 [.c 2 (some 1)]=true:=by kernel_rfl
end Go.Proofs.YtohgndhnndeijaaGreat.Ax
