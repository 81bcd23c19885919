/- Texts put behind one another: AxTab2, AxTab. Conditions: none. -/
import Derived.Test.YtfahkkefcdeohaaZC
import Derived.Test.YtfahkkefcdeohaaAxTacZ
set_option linter.unusedSimpArgs false
set_option linter.unusedVariables false
/- The table of the functions of this part of the program, each tied to its text. Conditions: none. Printed by tab.py. -/
namespace Go.Proofs.Ytfahkkefcdeohaa.Ax
open Go Go.Ax

def tree2 : Tab := .node 11 ⟨c11, 11, [.t 2], none⟩ (.node 8 ⟨c8, 33, [.t 0], none⟩ (.node 3 ⟨c3, 105, [.t 4], none⟩ (.node 2 ⟨c2, 1, [], none⟩ (.leaf) (.leaf)) (.leaf)) (.node 10 ⟨c10, 15, [], none⟩ (.node 9 ⟨c9, 22, [.t 6], none⟩ (.leaf) (.leaf)) (.leaf))) (.node 44 ⟨c44, 9, [.t 2], none⟩ (.node 43 ⟨c43, 14, [.t 4], none⟩ (.node 12 ⟨c12, 28, [.t 4], none⟩ (.leaf) (.leaf)) (.leaf)) (.node 45 ⟨c45, 21, [.t 2], none⟩ (.leaf) (.leaf)))

theorem tree2Ok : tree2.Ok Try.prog := ⟨ok11, ⟨ok8, ⟨ok3, ⟨ok2, trivial, trivial⟩, trivial⟩, ⟨ok10, ⟨ok9, trivial, trivial⟩, trivial⟩⟩, ⟨ok44, ⟨ok43, ⟨ok12, trivial, trivial⟩, trivial⟩, ⟨ok45, trivial, trivial⟩⟩⟩

def tab2 := tree2.find
theorem tab2Ok : TabOk Try.prog tab2 := Tab.ok tree2Ok

end Go.Proofs.Ytfahkkefcdeohaa.Ax

/- The table of the functions of this part of the program, each tied to its text. Conditions: none. Printed by tab.py. -/
namespace Go.Proofs.Ytfahkkefcdeohaa.Ax
open Go Go.Ax

def tree : Tab := .node 12 ⟨c12, 28, [.t 4], none⟩ (.node 10 ⟨c10, 15, [], none⟩ (.node 9 ⟨c9, 22, [.t 6], none⟩ (.node 2 ⟨c2, 1, [], none⟩ (.leaf) (.leaf)) (.leaf)) (.node 11 ⟨c11, 11, [.t 2], none⟩ (.leaf) (.leaf))) (.node 44 ⟨c44, 9, [.t 2], none⟩ (.node 43 ⟨c43, 14, [.t 4], none⟩ (.leaf) (.leaf)) (.node 45 ⟨c45, 21, [.t 2], none⟩ (.leaf) (.leaf)))

theorem treeOk : tree.Ok Try.prog := ⟨ok12, ⟨ok10, ⟨ok9, ⟨ok2, trivial, trivial⟩, trivial⟩, ⟨ok11, trivial, trivial⟩⟩, ⟨ok44, ⟨ok43, trivial, trivial⟩, ⟨ok45, trivial, trivial⟩⟩⟩

def tab := tree.find
theorem tabOk : TabOk Try.prog tab := Tab.ok treeOk

end Go.Proofs.Ytfahkkefcdeohaa.Ax
