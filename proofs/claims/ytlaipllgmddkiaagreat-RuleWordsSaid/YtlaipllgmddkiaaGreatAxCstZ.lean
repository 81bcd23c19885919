/- The constants of an operation name no objects. Conditions: none. -/
import Derived.Test.YtlaipllgmddkiaaGreatAxOpZ
set_option linter.unusedSimpArgs false
set_option linter.unusedVariables false
set_option linter.defProp false
namespace Go.Ax
open Go Go.RowKit
def AArg.cst : AArg → Bool
 | .t _ => true
 | .c (.func _ []) => true
 | .c v => v.plain
def optCst : Option AArg → Bool
 | none => true
 | some a => a.cst
def ABirth.cst : ABirth → Bool
 | .new z => plains z
 | .box x => x.cst
 | .bsl _ _ z ps => plains z && ps.all fun p => p.2.cst
 | .mks _ _ z l c => plains z && l.cst && c.cst
 | .mkm => true
def AOp.cst : AOp → Bool
 | .mv x => x.cst
 | .pick c a b => c.cst && a.cst && b.cst
 | .bin _ x y => x.cst && y.cst
 | .sbin _ x y => x.cst && y.cst
 | .eqb _ x y => x.cst && y.cst
 | .eqs _ _ x y => x.cst && y.cst
 | .isNil _ _ x => x.cst
 | .un _ x => x.cst
 | .fld _ x => x.cst
 | .ld _ x => x.cst
 | .st _ x y => x.cst && y.cst
 | .nck x => x.cst
 | .ixa _ _ x i => x.cst && i.cst
 | .ixs _ x i => x.cst && i.cst
 | .ixstr x i => x.cst && i.cst
 | .ixagg _ _ _ x i => x.cst && i.cst
 | .part _ _ x => x.cst
 | .len _ x => x.cst
 | .ext x _ => x.cst
 | .build z ps => plains z && ps.all fun p => p.2.2.cst
 | .bsl _ _ z ps => plains z && ps.all fun p => p.2.cst
 | .box x => x.cst
 | .new z => plains z
 | .mks _ _ z l c => plains z && l.cst && c.cst
 | .app _ _ s x => s.cst && x.cst
 | .rng x => x.cst
 | .nxt x => x.cst
 | .sla _ x lo hi => x.cst && optCst lo && optCst hi
 | .sls _ x lo hi mx => x.cst && optCst lo && optCst hi && optCst mx
 | .sstr x lo hi => x.cst && optCst lo && optCst hi
 | .mxn _ l => l.all AArg.cst
 | .cvt _ x => x.cst
 | .i2s x => x.cst
 | .b2s x => x.cst
 | .s2b x => x.cst
 | .call _ l => l.all AArg.cst
 | .callv x l => x.cst && l.all AArg.cst
 | .mkf _ l => l.all AArg.cst
 | .mkm => true
 | .mlk z x k => z.plain && x.cst && k.cst
 | .mup x k v => x.cst && k.cst && v.cst
 | .cpy _ d s => d.cst && s.cst
 | .born _ b => b.cst
end Go.Ax
