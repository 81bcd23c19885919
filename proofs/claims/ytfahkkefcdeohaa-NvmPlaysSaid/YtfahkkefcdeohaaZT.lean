/- Texts put behind one another: AxTab3, AxTab. Conditions: none. -/
import Derived.Test.YtfahkkefcdeohaaZC
import Derived.Test.YtfahkkefcdeohaaAxTacZ
set_option linter.unusedSimpArgs false
set_option linter.unusedVariables false
/- The table of the functions of this part of the program, each tied to its text. Conditions: none. Printed by tab.py. -/
namespace Go.Proofs.Ytfahkkefcdeohaa.Ax
open Go Go.Ax

def tree3 : Tab := .node 22 ⟨c22, 34, [], none⟩ (.node 14 ⟨c14, 14, [.t 2, .t 3], none⟩ (.node 10 ⟨c10, 15, [], none⟩ (.node 7 ⟨c7, 236, [.t 4], none⟩ (.node 4 ⟨c4, 90, [.t 2], none⟩ (.node 2 ⟨c2, 1, [], none⟩ (.leaf) (.leaf)) (.leaf)) (.node 9 ⟨c9, 22, [.t 6], none⟩ (.leaf) (.leaf))) (.node 12 ⟨c12, 28, [.t 4], none⟩ (.node 11 ⟨c11, 11, [.t 2], none⟩ (.leaf) (.leaf)) (.node 13 ⟨c13, 67, [.t 0], none⟩ (.leaf) (.leaf)))) (.node 18 ⟨c18, 27, [.t 4], none⟩ (.node 16 ⟨c16, 29, [.t 4, .t 5], none⟩ (.node 15 ⟨c15, 33, [.t 8, .t 9], none⟩ (.leaf) (.leaf)) (.node 17 ⟨c17, 34, [.t 6], none⟩ (.leaf) (.leaf))) (.node 20 ⟨c20, 24, [.t 2], none⟩ (.node 19 ⟨c19, 29, [.t 2], none⟩ (.leaf) (.leaf)) (.node 21 ⟨c21, 28, [.t 2], none⟩ (.leaf) (.leaf))))) (.node 43 ⟨c43, 14, [.t 4], none⟩ (.node 33 ⟨c33, 24, [.t 4], none⟩ (.node 26 ⟨c26, 7, [.t 2], none⟩ (.node 25 ⟨c25, 26, [.t 4], none⟩ (.node 24 ⟨c24, 8, [.t 2], none⟩ (.leaf) (.leaf)) (.leaf)) (.node 27 ⟨c27, 7, [.t 2], none⟩ (.leaf) (.leaf))) (.node 37 ⟨c37, 20, [], none⟩ (.node 36 ⟨c36, 5, [], none⟩ (.leaf) (.leaf)) (.node 41 ⟨c41, 26, [.t 4], none⟩ (.leaf) (.leaf)))) (.node 47 ⟨c47, 33, [.t 2], none⟩ (.node 45 ⟨c45, 21, [.t 2], none⟩ (.node 44 ⟨c44, 9, [.t 2], none⟩ (.leaf) (.leaf)) (.node 46 ⟨c46, 20, [.t 6], none⟩ (.leaf) (.leaf))) (.node 56 ⟨c56, 8, [.t 2], none⟩ (.node 48 ⟨c48, 9, [.t 4], none⟩ (.leaf) (.leaf)) (.node 57 ⟨c57, 19, [.t 4], none⟩ (.leaf) (.leaf)))))

theorem tree3Ok : tree3.Ok Try.prog := ⟨ok22, ⟨ok14, ⟨ok10, ⟨ok7, ⟨ok4, ⟨ok2, trivial, trivial⟩, trivial⟩, ⟨ok9, trivial, trivial⟩⟩, ⟨ok12, ⟨ok11, trivial, trivial⟩, ⟨ok13, trivial, trivial⟩⟩⟩, ⟨ok18, ⟨ok16, ⟨ok15, trivial, trivial⟩, ⟨ok17, trivial, trivial⟩⟩, ⟨ok20, ⟨ok19, trivial, trivial⟩, ⟨ok21, trivial, trivial⟩⟩⟩⟩, ⟨ok43, ⟨ok33, ⟨ok26, ⟨ok25, ⟨ok24, trivial, trivial⟩, trivial⟩, ⟨ok27, trivial, trivial⟩⟩, ⟨ok37, ⟨ok36, trivial, trivial⟩, ⟨ok41, trivial, trivial⟩⟩⟩, ⟨ok47, ⟨ok45, ⟨ok44, trivial, trivial⟩, ⟨ok46, trivial, trivial⟩⟩, ⟨ok56, ⟨ok48, trivial, trivial⟩, ⟨ok57, trivial, trivial⟩⟩⟩⟩⟩

def tab3 := tree3.find
theorem tab3Ok : TabOk Try.prog tab3 := Tab.ok tree3Ok

end Go.Proofs.Ytfahkkefcdeohaa.Ax

/- The table of the functions of this part of the program, each tied to its text. Conditions: none. Printed by tab.py. -/
namespace Go.Proofs.Ytfahkkefcdeohaa.Ax
open Go Go.Ax

def tree : Tab := .node 24 ⟨c24, 8, [.t 2], none⟩ (.node 16 ⟨c16, 29, [.t 4, .t 5], none⟩ (.node 11 ⟨c11, 11, [.t 2], none⟩ (.node 9 ⟨c9, 22, [.t 6], none⟩ (.node 2 ⟨c2, 1, [], none⟩ (.leaf) (.leaf)) (.node 10 ⟨c10, 15, [], none⟩ (.leaf) (.leaf))) (.node 14 ⟨c14, 14, [.t 2, .t 3], none⟩ (.node 12 ⟨c12, 28, [.t 4], none⟩ (.leaf) (.leaf)) (.node 15 ⟨c15, 33, [.t 8, .t 9], none⟩ (.leaf) (.leaf)))) (.node 20 ⟨c20, 24, [.t 2], none⟩ (.node 18 ⟨c18, 27, [.t 4], none⟩ (.node 17 ⟨c17, 34, [.t 6], none⟩ (.leaf) (.leaf)) (.node 19 ⟨c19, 29, [.t 2], none⟩ (.leaf) (.leaf))) (.node 22 ⟨c22, 34, [], none⟩ (.node 21 ⟨c21, 28, [.t 2], none⟩ (.leaf) (.leaf)) (.leaf)))) (.node 44 ⟨c44, 9, [.t 2], none⟩ (.node 36 ⟨c36, 5, [], none⟩ (.node 27 ⟨c27, 7, [.t 2], none⟩ (.node 26 ⟨c26, 7, [.t 2], none⟩ (.leaf) (.leaf)) (.node 33 ⟨c33, 24, [.t 4], none⟩ (.leaf) (.leaf))) (.node 43 ⟨c43, 14, [.t 4], none⟩ (.node 37 ⟨c37, 20, [], none⟩ (.leaf) (.leaf)) (.leaf))) (.node 48 ⟨c48, 9, [.t 4], none⟩ (.node 46 ⟨c46, 20, [.t 6], none⟩ (.node 45 ⟨c45, 21, [.t 2], none⟩ (.leaf) (.leaf)) (.node 47 ⟨c47, 33, [.t 2], none⟩ (.leaf) (.leaf))) (.node 57 ⟨c57, 19, [.t 4], none⟩ (.node 56 ⟨c56, 8, [.t 2], none⟩ (.leaf) (.leaf)) (.leaf))))

theorem treeOk : tree.Ok Try.prog := ⟨ok24, ⟨ok16, ⟨ok11, ⟨ok9, ⟨ok2, trivial, trivial⟩, ⟨ok10, trivial, trivial⟩⟩, ⟨ok14, ⟨ok12, trivial, trivial⟩, ⟨ok15, trivial, trivial⟩⟩⟩, ⟨ok20, ⟨ok18, ⟨ok17, trivial, trivial⟩, ⟨ok19, trivial, trivial⟩⟩, ⟨ok22, ⟨ok21, trivial, trivial⟩, trivial⟩⟩⟩, ⟨ok44, ⟨ok36, ⟨ok27, ⟨ok26, trivial, trivial⟩, ⟨ok33, trivial, trivial⟩⟩, ⟨ok43, ⟨ok37, trivial, trivial⟩, trivial⟩⟩, ⟨ok48, ⟨ok46, ⟨ok45, trivial, trivial⟩, ⟨ok47, trivial, trivial⟩⟩, ⟨ok57, ⟨ok56, trivial, trivial⟩, trivial⟩⟩⟩⟩

def tab := tree.find
theorem tabOk : TabOk Try.prog tab := Tab.ok treeOk

end Go.Proofs.Ytfahkkefcdeohaa.Ax
