/-
  The tables of the program as the machine reads it.
-/
import Derived.Test.YtmlmgbnhaenabaaGreatRows
import Derived.Test.YtmlmgbnhaenabaaGreatLd
set_option linter.unusedSimpArgs false
set_option linter.unusedVariables false
namespace Go.Proofs.YtmlmgbnhaenabaaGreat
open Go Go.Gm
def spec : FuncId → Nat → LSpec
  | 4, 0 => ⟨[0, 1, 5], [1, 4], [], [], []⟩
  | 4, 2 => ⟨[0, 1, 5, 6], [0, 1, 4, 5], [], [], []⟩
  | 8, 0 => ⟨[3, 7, 8, 9], [3], [], [], []⟩
  | 9, 0 => ⟨[0, 3, 4], [3], [], [], []⟩
  | 10, 0 => ⟨[3, 8, 9, 10], [3], [], [], []⟩
  | 11, 0 => ⟨[0, 3, 4], [3], [], [], []⟩
  | 12, 0 => ⟨[0, 1, 5], [4], [], [], []⟩
  | 16, 0 => ⟨[3, 4, 5, 10, 11, 12], [3, 5], [], [(4, 0), (3, 0)], []⟩
  | 18, 0 => ⟨[0, 3], [0, 2], [], [], []⟩
  | 20, 0 => ⟨[0, 1, 7, 8, 9], [4], [], [], []⟩
  | 21, 0 => ⟨[0, 3], [2], [], [], []⟩
  | 22, 0 => ⟨[1, 6, 7, 8], [], [], [], []⟩
  | 25, 0 => ⟨[0, 1, 5], [0], [], [], []⟩
  | 26, 0 => ⟨[1, 2, 5], [1, 2, 4], [], [], []⟩
  | 26, 2 => ⟨[1, 2, 6], [1], [], [], []⟩
  | 27, 0 => ⟨[0, 1, 5], [1, 4], [], [], []⟩
  | 29, 0 => ⟨[3, 6, 7, 8], [3], [3], [], []⟩
  | 31, 0 => ⟨[1, 2, 15, 16, 17], [6], [], [], []⟩
  | 34, 0 => ⟨[2, 3, 5], [4], [], [], []⟩
  | 36, 0 => ⟨[0, 3], [2], [], [], []⟩
  | 39, 0 => ⟨[0, 5], [], [], [], []⟩
  | 40, 0 => ⟨[0, 1, 5], [0, 1, 5], [], [], []⟩
  | 44, 0 => ⟨[0, 1, 12, 13], [4], [], [], []⟩
  | 47, 0 => ⟨[2, 3, 5], [2, 3, 4], [], [], []⟩
  | 47, 2 => ⟨[2, 3, 6], [4], [], [], []⟩
  | 52, 0 => ⟨[0, 1, 2, 3, 8, 9], [], [], [], []⟩
  | 54, 0 => ⟨[1, 2, 3, 11, 12, 13], [1, 2, 3], [3], [], []⟩
  | 57, 0 => ⟨[0, 1, 12, 13], [4], [], [], []⟩
  | 60, 0 => ⟨[0, 3], [2], [], [], []⟩
  | 61, 0 => ⟨[0, 1, 2, 6], [], [], [], []⟩
  | 61, 2 => ⟨[0, 1, 2, 6, 7], [0, 1, 2, 6], [], [], []⟩
  | 62, 0 => ⟨[0, 6, 7, 8, 9], [0, 6, 7, 8], [], [], []⟩
  | 62, 2 => ⟨[0, 6, 7, 10], [], [], [], []⟩
  | 63, 0 => ⟨[0, 1, 6, 7, 8, 9], [], [], [], []⟩
  | 65, 0 => ⟨[0, 6, 7], [], [], [], []⟩
  | 66, 0 => ⟨[0, 1, 2, 7, 8], [6], [], [], []⟩
  | 66, 2 => ⟨[0, 1, 2, 7, 8], [0, 1, 2, 7, 8], [], [], []⟩
  | 66, 4 => ⟨[0, 1, 2, 7, 8, 9], [0, 1, 2, 7, 8], [], [], []⟩
  | 66, 6 => ⟨[0, 1, 2, 7, 8, 10], [0, 1, 2, 7, 8], [], [], []⟩
  | 68, 0 => ⟨[0, 1, 9, 10], [9], [], [], []⟩
  | 68, 2 => ⟨[0, 1, 9, 10], [0, 1, 9, 10], [], [], []⟩
  | 68, 4 => ⟨[0, 1, 9, 10], [0, 1, 9, 10], [], [], []⟩
  | 69, 0 => ⟨[0, 1, 10, 11], [0, 1, 10, 11], [], [], []⟩
  | 69, 2 => ⟨[0, 1, 10, 11], [0, 1, 10, 11], [], [], []⟩
  | 69, 4 => ⟨[0, 1, 10, 11], [0, 1, 11], [], [], []⟩
  | 69, 6 => ⟨[0, 1, 10, 11], [0, 1, 10, 11], [], [], []⟩
  | 69, 8 => ⟨[0, 1, 10, 11], [0, 1, 10, 11], [], [], []⟩
  | 73, 0 => ⟨[0, 1, 12, 13], [4], [], [], []⟩
  | 74, 0 => ⟨[1, 2, 15, 16, 17], [6], [], [], []⟩
  | 76, 0 => ⟨[0, 5, 6, 7], [2], [], [], []⟩
  | 77, 0 => ⟨[1, 3, 4], [3], [], [], []⟩
  | 78, 0 => ⟨[1, 3, 4], [1, 3], [], [], []⟩
  | 79, 0 => ⟨[1, 3, 4], [1, 2, 3], [], [], []⟩
  | 79, 3 => ⟨[1, 3, 5], [1, 2, 3], [], [], []⟩
  | 79, 5 => ⟨[1, 3, 6], [1, 2, 3], [], [], []⟩
  | 81, 0 => ⟨[0, 2, 3, 8], [], [], [], []⟩
  | 87, 0 => ⟨[1, 2, 31, 32, 33], [1, 6, 7], [], [], []⟩
  | 91, 0 => ⟨[0, 3], [2], [], [], []⟩
  | 99, 0 => ⟨[0, 3, 4, 5], [3], [3], [], []⟩
  | 102, 0 => ⟨[0, 5, 6, 7], [2], [], [], []⟩
  | 107, 0 => ⟨[0, 1], [1], [], [], []⟩
  | 112, 0 => ⟨[0, 1, 7, 8], [4], [], [], []⟩
  | 113, 0 => ⟨[0, 1, 7, 8], [4], [], [], []⟩
  | _, _ => {}
def ownedF (f : FuncId) : Bool := [].contains f
def keepF (f : FuncId) : Bool := [].contains f
def preF : FuncId → Nat → List Nat
  | _, _ => []
noncomputable def G : GP := gpOf Tryz.prog spec ownedF keepF preF
theorem own0 : G.owned 0 = false := rfl
theorem kp0 : G.keep 0 = false := rfl
theorem pr0 (i : Nat) : G.pre 0 i = [] := rfl
theorem own1 : G.owned 1 = false := rfl
theorem kp1 : G.keep 1 = false := rfl
theorem pr1 (i : Nat) : G.pre 1 i = [] := rfl
theorem own2 : G.owned 2 = false := rfl
theorem kp2 : G.keep 2 = false := rfl
theorem pr2 (i : Nat) : G.pre 2 i = [] := rfl
theorem own3 : G.owned 3 = false := rfl
theorem kp3 : G.keep 3 = false := rfl
theorem pr3 (i : Nat) : G.pre 3 i = [] := rfl
theorem own4 : G.owned 4 = false := rfl
theorem kp4 : G.keep 4 = false := rfl
theorem pr4 (i : Nat) : G.pre 4 i = [] := rfl
theorem own5 : G.owned 5 = false := rfl
theorem kp5 : G.keep 5 = false := rfl
theorem pr5 (i : Nat) : G.pre 5 i = [] := rfl
theorem own6 : G.owned 6 = false := rfl
theorem kp6 : G.keep 6 = false := rfl
theorem pr6 (i : Nat) : G.pre 6 i = [] := rfl
theorem own7 : G.owned 7 = false := rfl
theorem kp7 : G.keep 7 = false := rfl
theorem pr7 (i : Nat) : G.pre 7 i = [] := rfl
theorem own8 : G.owned 8 = false := rfl
theorem kp8 : G.keep 8 = false := rfl
theorem pr8 (i : Nat) : G.pre 8 i = [] := rfl
theorem own9 : G.owned 9 = false := rfl
theorem kp9 : G.keep 9 = false := rfl
theorem pr9 (i : Nat) : G.pre 9 i = [] := rfl
theorem own10 : G.owned 10 = false := rfl
theorem kp10 : G.keep 10 = false := rfl
theorem pr10 (i : Nat) : G.pre 10 i = [] := rfl
theorem own11 : G.owned 11 = false := rfl
theorem kp11 : G.keep 11 = false := rfl
theorem pr11 (i : Nat) : G.pre 11 i = [] := rfl
theorem own12 : G.owned 12 = false := rfl
theorem kp12 : G.keep 12 = false := rfl
theorem pr12 (i : Nat) : G.pre 12 i = [] := rfl
theorem own13 : G.owned 13 = false := rfl
theorem kp13 : G.keep 13 = false := rfl
theorem pr13 (i : Nat) : G.pre 13 i = [] := rfl
theorem own14 : G.owned 14 = false := rfl
theorem kp14 : G.keep 14 = false := rfl
theorem pr14 (i : Nat) : G.pre 14 i = [] := rfl
theorem own15 : G.owned 15 = false := rfl
theorem kp15 : G.keep 15 = false := rfl
theorem pr15 (i : Nat) : G.pre 15 i = [] := rfl
theorem own16 : G.owned 16 = false := rfl
theorem kp16 : G.keep 16 = false := rfl
theorem pr16 (i : Nat) : G.pre 16 i = [] := rfl
theorem own17 : G.owned 17 = false := rfl
theorem kp17 : G.keep 17 = false := rfl
theorem pr17 (i : Nat) : G.pre 17 i = [] := rfl
theorem own18 : G.owned 18 = false := rfl
theorem kp18 : G.keep 18 = false := rfl
theorem pr18 (i : Nat) : G.pre 18 i = [] := rfl
theorem own19 : G.owned 19 = false := rfl
theorem kp19 : G.keep 19 = false := rfl
theorem pr19 (i : Nat) : G.pre 19 i = [] := rfl
theorem own20 : G.owned 20 = false := rfl
theorem kp20 : G.keep 20 = false := rfl
theorem pr20 (i : Nat) : G.pre 20 i = [] := rfl
theorem own21 : G.owned 21 = false := rfl
theorem kp21 : G.keep 21 = false := rfl
theorem pr21 (i : Nat) : G.pre 21 i = [] := rfl
theorem own22 : G.owned 22 = false := rfl
theorem kp22 : G.keep 22 = false := rfl
theorem pr22 (i : Nat) : G.pre 22 i = [] := rfl
theorem own23 : G.owned 23 = false := rfl
theorem kp23 : G.keep 23 = false := rfl
theorem pr23 (i : Nat) : G.pre 23 i = [] := rfl
theorem own24 : G.owned 24 = false := rfl
theorem kp24 : G.keep 24 = false := rfl
theorem pr24 (i : Nat) : G.pre 24 i = [] := rfl
theorem own25 : G.owned 25 = false := rfl
theorem kp25 : G.keep 25 = false := rfl
theorem pr25 (i : Nat) : G.pre 25 i = [] := rfl
theorem own26 : G.owned 26 = false := rfl
theorem kp26 : G.keep 26 = false := rfl
theorem pr26 (i : Nat) : G.pre 26 i = [] := rfl
theorem own27 : G.owned 27 = false := rfl
theorem kp27 : G.keep 27 = false := rfl
theorem pr27 (i : Nat) : G.pre 27 i = [] := rfl
theorem own28 : G.owned 28 = false := rfl
theorem kp28 : G.keep 28 = false := rfl
theorem pr28 (i : Nat) : G.pre 28 i = [] := rfl
theorem own29 : G.owned 29 = false := rfl
theorem kp29 : G.keep 29 = false := rfl
theorem pr29 (i : Nat) : G.pre 29 i = [] := rfl
theorem own30 : G.owned 30 = false := rfl
theorem kp30 : G.keep 30 = false := rfl
theorem pr30 (i : Nat) : G.pre 30 i = [] := rfl
theorem own31 : G.owned 31 = false := rfl
theorem kp31 : G.keep 31 = false := rfl
theorem pr31 (i : Nat) : G.pre 31 i = [] := rfl
theorem own32 : G.owned 32 = false := rfl
theorem kp32 : G.keep 32 = false := rfl
theorem pr32 (i : Nat) : G.pre 32 i = [] := rfl
theorem own33 : G.owned 33 = false := rfl
theorem kp33 : G.keep 33 = false := rfl
theorem pr33 (i : Nat) : G.pre 33 i = [] := rfl
theorem own34 : G.owned 34 = false := rfl
theorem kp34 : G.keep 34 = false := rfl
theorem pr34 (i : Nat) : G.pre 34 i = [] := rfl
theorem own35 : G.owned 35 = false := rfl
theorem kp35 : G.keep 35 = false := rfl
theorem pr35 (i : Nat) : G.pre 35 i = [] := rfl
theorem own36 : G.owned 36 = false := rfl
theorem kp36 : G.keep 36 = false := rfl
theorem pr36 (i : Nat) : G.pre 36 i = [] := rfl
theorem own37 : G.owned 37 = false := rfl
theorem kp37 : G.keep 37 = false := rfl
theorem pr37 (i : Nat) : G.pre 37 i = [] := rfl
theorem own38 : G.owned 38 = false := rfl
theorem kp38 : G.keep 38 = false := rfl
theorem pr38 (i : Nat) : G.pre 38 i = [] := rfl
theorem own39 : G.owned 39 = false := rfl
theorem kp39 : G.keep 39 = false := rfl
theorem pr39 (i : Nat) : G.pre 39 i = [] := rfl
theorem own40 : G.owned 40 = false := rfl
theorem kp40 : G.keep 40 = false := rfl
theorem pr40 (i : Nat) : G.pre 40 i = [] := rfl
theorem own41 : G.owned 41 = false := rfl
theorem kp41 : G.keep 41 = false := rfl
theorem pr41 (i : Nat) : G.pre 41 i = [] := rfl
theorem own42 : G.owned 42 = false := rfl
theorem kp42 : G.keep 42 = false := rfl
theorem pr42 (i : Nat) : G.pre 42 i = [] := rfl
theorem own43 : G.owned 43 = false := rfl
theorem kp43 : G.keep 43 = false := rfl
theorem pr43 (i : Nat) : G.pre 43 i = [] := rfl
theorem own44 : G.owned 44 = false := rfl
theorem kp44 : G.keep 44 = false := rfl
theorem pr44 (i : Nat) : G.pre 44 i = [] := rfl
theorem own45 : G.owned 45 = false := rfl
theorem kp45 : G.keep 45 = false := rfl
theorem pr45 (i : Nat) : G.pre 45 i = [] := rfl
theorem own46 : G.owned 46 = false := rfl
theorem kp46 : G.keep 46 = false := rfl
theorem pr46 (i : Nat) : G.pre 46 i = [] := rfl
theorem own47 : G.owned 47 = false := rfl
theorem kp47 : G.keep 47 = false := rfl
theorem pr47 (i : Nat) : G.pre 47 i = [] := rfl
theorem own48 : G.owned 48 = false := rfl
theorem kp48 : G.keep 48 = false := rfl
theorem pr48 (i : Nat) : G.pre 48 i = [] := rfl
theorem own49 : G.owned 49 = false := rfl
theorem kp49 : G.keep 49 = false := rfl
theorem pr49 (i : Nat) : G.pre 49 i = [] := rfl
theorem own50 : G.owned 50 = false := rfl
theorem kp50 : G.keep 50 = false := rfl
theorem pr50 (i : Nat) : G.pre 50 i = [] := rfl
theorem own51 : G.owned 51 = false := rfl
theorem kp51 : G.keep 51 = false := rfl
theorem pr51 (i : Nat) : G.pre 51 i = [] := rfl
theorem own52 : G.owned 52 = false := rfl
theorem kp52 : G.keep 52 = false := rfl
theorem pr52 (i : Nat) : G.pre 52 i = [] := rfl
theorem own53 : G.owned 53 = false := rfl
theorem kp53 : G.keep 53 = false := rfl
theorem pr53 (i : Nat) : G.pre 53 i = [] := rfl
theorem own54 : G.owned 54 = false := rfl
theorem kp54 : G.keep 54 = false := rfl
theorem pr54 (i : Nat) : G.pre 54 i = [] := rfl
theorem own55 : G.owned 55 = false := rfl
theorem kp55 : G.keep 55 = false := rfl
theorem pr55 (i : Nat) : G.pre 55 i = [] := rfl
theorem own56 : G.owned 56 = false := rfl
theorem kp56 : G.keep 56 = false := rfl
theorem pr56 (i : Nat) : G.pre 56 i = [] := rfl
theorem own57 : G.owned 57 = false := rfl
theorem kp57 : G.keep 57 = false := rfl
theorem pr57 (i : Nat) : G.pre 57 i = [] := rfl
theorem own58 : G.owned 58 = false := rfl
theorem kp58 : G.keep 58 = false := rfl
theorem pr58 (i : Nat) : G.pre 58 i = [] := rfl
theorem own59 : G.owned 59 = false := rfl
theorem kp59 : G.keep 59 = false := rfl
theorem pr59 (i : Nat) : G.pre 59 i = [] := rfl
theorem own60 : G.owned 60 = false := rfl
theorem kp60 : G.keep 60 = false := rfl
theorem pr60 (i : Nat) : G.pre 60 i = [] := rfl
theorem own61 : G.owned 61 = false := rfl
theorem kp61 : G.keep 61 = false := rfl
theorem pr61 (i : Nat) : G.pre 61 i = [] := rfl
theorem own62 : G.owned 62 = false := rfl
theorem kp62 : G.keep 62 = false := rfl
theorem pr62 (i : Nat) : G.pre 62 i = [] := rfl
theorem own63 : G.owned 63 = false := rfl
theorem kp63 : G.keep 63 = false := rfl
theorem pr63 (i : Nat) : G.pre 63 i = [] := rfl
theorem own64 : G.owned 64 = false := rfl
theorem kp64 : G.keep 64 = false := rfl
theorem pr64 (i : Nat) : G.pre 64 i = [] := rfl
theorem own65 : G.owned 65 = false := rfl
theorem kp65 : G.keep 65 = false := rfl
theorem pr65 (i : Nat) : G.pre 65 i = [] := rfl
theorem own66 : G.owned 66 = false := rfl
theorem kp66 : G.keep 66 = false := rfl
theorem pr66 (i : Nat) : G.pre 66 i = [] := rfl
theorem own67 : G.owned 67 = false := rfl
theorem kp67 : G.keep 67 = false := rfl
theorem pr67 (i : Nat) : G.pre 67 i = [] := rfl
theorem own68 : G.owned 68 = false := rfl
theorem kp68 : G.keep 68 = false := rfl
theorem pr68 (i : Nat) : G.pre 68 i = [] := rfl
theorem own69 : G.owned 69 = false := rfl
theorem kp69 : G.keep 69 = false := rfl
theorem pr69 (i : Nat) : G.pre 69 i = [] := rfl
theorem own70 : G.owned 70 = false := rfl
theorem kp70 : G.keep 70 = false := rfl
theorem pr70 (i : Nat) : G.pre 70 i = [] := rfl
theorem own71 : G.owned 71 = false := rfl
theorem kp71 : G.keep 71 = false := rfl
theorem pr71 (i : Nat) : G.pre 71 i = [] := rfl
theorem own72 : G.owned 72 = false := rfl
theorem kp72 : G.keep 72 = false := rfl
theorem pr72 (i : Nat) : G.pre 72 i = [] := rfl
theorem own73 : G.owned 73 = false := rfl
theorem kp73 : G.keep 73 = false := rfl
theorem pr73 (i : Nat) : G.pre 73 i = [] := rfl
theorem own74 : G.owned 74 = false := rfl
theorem kp74 : G.keep 74 = false := rfl
theorem pr74 (i : Nat) : G.pre 74 i = [] := rfl
theorem own75 : G.owned 75 = false := rfl
theorem kp75 : G.keep 75 = false := rfl
theorem pr75 (i : Nat) : G.pre 75 i = [] := rfl
theorem own76 : G.owned 76 = false := rfl
theorem kp76 : G.keep 76 = false := rfl
theorem pr76 (i : Nat) : G.pre 76 i = [] := rfl
theorem own77 : G.owned 77 = false := rfl
theorem kp77 : G.keep 77 = false := rfl
theorem pr77 (i : Nat) : G.pre 77 i = [] := rfl
theorem own78 : G.owned 78 = false := rfl
theorem kp78 : G.keep 78 = false := rfl
theorem pr78 (i : Nat) : G.pre 78 i = [] := rfl
theorem own79 : G.owned 79 = false := rfl
theorem kp79 : G.keep 79 = false := rfl
theorem pr79 (i : Nat) : G.pre 79 i = [] := rfl
theorem own80 : G.owned 80 = false := rfl
theorem kp80 : G.keep 80 = false := rfl
theorem pr80 (i : Nat) : G.pre 80 i = [] := rfl
theorem own81 : G.owned 81 = false := rfl
theorem kp81 : G.keep 81 = false := rfl
theorem pr81 (i : Nat) : G.pre 81 i = [] := rfl
theorem own82 : G.owned 82 = false := rfl
theorem kp82 : G.keep 82 = false := rfl
theorem pr82 (i : Nat) : G.pre 82 i = [] := rfl
theorem own83 : G.owned 83 = false := rfl
theorem kp83 : G.keep 83 = false := rfl
theorem pr83 (i : Nat) : G.pre 83 i = [] := rfl
theorem own84 : G.owned 84 = false := rfl
theorem kp84 : G.keep 84 = false := rfl
theorem pr84 (i : Nat) : G.pre 84 i = [] := rfl
theorem own85 : G.owned 85 = false := rfl
theorem kp85 : G.keep 85 = false := rfl
theorem pr85 (i : Nat) : G.pre 85 i = [] := rfl
theorem own86 : G.owned 86 = false := rfl
theorem kp86 : G.keep 86 = false := rfl
theorem pr86 (i : Nat) : G.pre 86 i = [] := rfl
theorem own87 : G.owned 87 = false := rfl
theorem kp87 : G.keep 87 = false := rfl
theorem pr87 (i : Nat) : G.pre 87 i = [] := rfl
theorem own88 : G.owned 88 = false := rfl
theorem kp88 : G.keep 88 = false := rfl
theorem pr88 (i : Nat) : G.pre 88 i = [] := rfl
theorem own89 : G.owned 89 = false := rfl
theorem kp89 : G.keep 89 = false := rfl
theorem pr89 (i : Nat) : G.pre 89 i = [] := rfl
theorem own90 : G.owned 90 = false := rfl
theorem kp90 : G.keep 90 = false := rfl
theorem pr90 (i : Nat) : G.pre 90 i = [] := rfl
theorem own91 : G.owned 91 = false := rfl
theorem kp91 : G.keep 91 = false := rfl
theorem pr91 (i : Nat) : G.pre 91 i = [] := rfl
theorem own92 : G.owned 92 = false := rfl
theorem kp92 : G.keep 92 = false := rfl
theorem pr92 (i : Nat) : G.pre 92 i = [] := rfl
theorem own93 : G.owned 93 = false := rfl
theorem kp93 : G.keep 93 = false := rfl
theorem pr93 (i : Nat) : G.pre 93 i = [] := rfl
theorem own94 : G.owned 94 = false := rfl
theorem kp94 : G.keep 94 = false := rfl
theorem pr94 (i : Nat) : G.pre 94 i = [] := rfl
theorem own95 : G.owned 95 = false := rfl
theorem kp95 : G.keep 95 = false := rfl
theorem pr95 (i : Nat) : G.pre 95 i = [] := rfl
theorem own96 : G.owned 96 = false := rfl
theorem kp96 : G.keep 96 = false := rfl
theorem pr96 (i : Nat) : G.pre 96 i = [] := rfl
theorem own97 : G.owned 97 = false := rfl
theorem kp97 : G.keep 97 = false := rfl
theorem pr97 (i : Nat) : G.pre 97 i = [] := rfl
theorem own98 : G.owned 98 = false := rfl
theorem kp98 : G.keep 98 = false := rfl
theorem pr98 (i : Nat) : G.pre 98 i = [] := rfl
theorem own99 : G.owned 99 = false := rfl
theorem kp99 : G.keep 99 = false := rfl
theorem pr99 (i : Nat) : G.pre 99 i = [] := rfl
theorem own100 : G.owned 100 = false := rfl
theorem kp100 : G.keep 100 = false := rfl
theorem pr100 (i : Nat) : G.pre 100 i = [] := rfl
theorem own101 : G.owned 101 = false := rfl
theorem kp101 : G.keep 101 = false := rfl
theorem pr101 (i : Nat) : G.pre 101 i = [] := rfl
theorem own102 : G.owned 102 = false := rfl
theorem kp102 : G.keep 102 = false := rfl
theorem pr102 (i : Nat) : G.pre 102 i = [] := rfl
theorem own103 : G.owned 103 = false := rfl
theorem kp103 : G.keep 103 = false := rfl
theorem pr103 (i : Nat) : G.pre 103 i = [] := rfl
theorem own104 : G.owned 104 = false := rfl
theorem kp104 : G.keep 104 = false := rfl
theorem pr104 (i : Nat) : G.pre 104 i = [] := rfl
theorem own105 : G.owned 105 = false := rfl
theorem kp105 : G.keep 105 = false := rfl
theorem pr105 (i : Nat) : G.pre 105 i = [] := rfl
theorem own106 : G.owned 106 = false := rfl
theorem kp106 : G.keep 106 = false := rfl
theorem pr106 (i : Nat) : G.pre 106 i = [] := rfl
theorem own107 : G.owned 107 = false := rfl
theorem kp107 : G.keep 107 = false := rfl
theorem pr107 (i : Nat) : G.pre 107 i = [] := rfl
theorem own108 : G.owned 108 = false := rfl
theorem kp108 : G.keep 108 = false := rfl
theorem pr108 (i : Nat) : G.pre 108 i = [] := rfl
theorem own109 : G.owned 109 = false := rfl
theorem kp109 : G.keep 109 = false := rfl
theorem pr109 (i : Nat) : G.pre 109 i = [] := rfl
theorem own110 : G.owned 110 = false := rfl
theorem kp110 : G.keep 110 = false := rfl
theorem pr110 (i : Nat) : G.pre 110 i = [] := rfl
theorem own111 : G.owned 111 = false := rfl
theorem kp111 : G.keep 111 = false := rfl
theorem pr111 (i : Nat) : G.pre 111 i = [] := rfl
theorem own112 : G.owned 112 = false := rfl
theorem kp112 : G.keep 112 = false := rfl
theorem pr112 (i : Nat) : G.pre 112 i = [] := rfl
theorem own113 : G.owned 113 = false := rfl
theorem kp113 : G.keep 113 = false := rfl
theorem pr113 (i : Nat) : G.pre 113 i = [] := rfl
theorem own114 : G.owned 114 = false := rfl
theorem kp114 : G.keep 114 = false := rfl
theorem pr114 (i : Nat) : G.pre 114 i = [] := rfl
theorem own115 : G.owned 115 = false := rfl
theorem kp115 : G.keep 115 = false := rfl
theorem pr115 (i : Nat) : G.pre 115 i = [] := rfl
theorem own116 : G.owned 116 = false := rfl
theorem kp116 : G.keep 116 = false := rfl
theorem pr116 (i : Nat) : G.pre 116 i = [] := rfl
theorem own117 : G.owned 117 = false := rfl
theorem kp117 : G.keep 117 = false := rfl
theorem pr117 (i : Nat) : G.pre 117 i = [] := rfl
theorem own118 : G.owned 118 = false := rfl
theorem kp118 : G.keep 118 = false := rfl
theorem pr118 (i : Nat) : G.pre 118 i = [] := rfl
theorem own119 : G.owned 119 = false := rfl
theorem kp119 : G.keep 119 = false := rfl
theorem pr119 (i : Nat) : G.pre 119 i = [] := rfl
theorem own120 : G.owned 120 = false := rfl
theorem kp120 : G.keep 120 = false := rfl
theorem pr120 (i : Nat) : G.pre 120 i = [] := rfl
theorem own121 : G.owned 121 = false := rfl
theorem kp121 : G.keep 121 = false := rfl
theorem pr121 (i : Nat) : G.pre 121 i = [] := rfl
theorem own122 : G.owned 122 = false := rfl
theorem kp122 : G.keep 122 = false := rfl
theorem pr122 (i : Nat) : G.pre 122 i = [] := rfl
theorem own123 : G.owned 123 = false := rfl
theorem kp123 : G.keep 123 = false := rfl
theorem pr123 (i : Nat) : G.pre 123 i = [] := rfl
theorem own124 : G.owned 124 = false := rfl
theorem kp124 : G.keep 124 = false := rfl
theorem pr124 (i : Nat) : G.pre 124 i = [] := rfl
theorem own125 : G.owned 125 = false := rfl
theorem kp125 : G.keep 125 = false := rfl
theorem pr125 (i : Nat) : G.pre 125 i = [] := rfl
theorem own126 : G.owned 126 = false := rfl
theorem kp126 : G.keep 126 = false := rfl
theorem pr126 (i : Nat) : G.pre 126 i = [] := rfl
theorem own127 : G.owned 127 = false := rfl
theorem kp127 : G.keep 127 = false := rfl
theorem pr127 (i : Nat) : G.pre 127 i = [] := rfl
theorem own128 : G.owned 128 = false := rfl
theorem kp128 : G.keep 128 = false := rfl
theorem pr128 (i : Nat) : G.pre 128 i = [] := rfl
theorem own129 : G.owned 129 = false := rfl
theorem kp129 : G.keep 129 = false := rfl
theorem pr129 (i : Nat) : G.pre 129 i = [] := rfl
theorem sp4_0 : G.spec 4 0 = ⟨[0, 1, 5], [1, 4], [], [], []⟩ := rfl
theorem sp4_2 : G.spec 4 2 = ⟨[0, 1, 5, 6], [0, 1, 4, 5], [], [], []⟩ := rfl
theorem sp8_0 : G.spec 8 0 = ⟨[3, 7, 8, 9], [3], [], [], []⟩ := rfl
theorem sp9_0 : G.spec 9 0 = ⟨[0, 3, 4], [3], [], [], []⟩ := rfl
theorem sp10_0 : G.spec 10 0 = ⟨[3, 8, 9, 10], [3], [], [], []⟩ := rfl
theorem sp11_0 : G.spec 11 0 = ⟨[0, 3, 4], [3], [], [], []⟩ := rfl
theorem sp12_0 : G.spec 12 0 = ⟨[0, 1, 5], [4], [], [], []⟩ := rfl
theorem sp16_0 : G.spec 16 0 = ⟨[3, 4, 5, 10, 11, 12], [3, 5], [], [(4, 0), (3, 0)], []⟩ := rfl
theorem sp18_0 : G.spec 18 0 = ⟨[0, 3], [0, 2], [], [], []⟩ := rfl
theorem sp20_0 : G.spec 20 0 = ⟨[0, 1, 7, 8, 9], [4], [], [], []⟩ := rfl
theorem sp21_0 : G.spec 21 0 = ⟨[0, 3], [2], [], [], []⟩ := rfl
theorem sp22_0 : G.spec 22 0 = ⟨[1, 6, 7, 8], [], [], [], []⟩ := rfl
theorem sp25_0 : G.spec 25 0 = ⟨[0, 1, 5], [0], [], [], []⟩ := rfl
theorem sp26_0 : G.spec 26 0 = ⟨[1, 2, 5], [1, 2, 4], [], [], []⟩ := rfl
theorem sp26_2 : G.spec 26 2 = ⟨[1, 2, 6], [1], [], [], []⟩ := rfl
theorem sp27_0 : G.spec 27 0 = ⟨[0, 1, 5], [1, 4], [], [], []⟩ := rfl
theorem sp29_0 : G.spec 29 0 = ⟨[3, 6, 7, 8], [3], [3], [], []⟩ := rfl
theorem sp31_0 : G.spec 31 0 = ⟨[1, 2, 15, 16, 17], [6], [], [], []⟩ := rfl
theorem sp34_0 : G.spec 34 0 = ⟨[2, 3, 5], [4], [], [], []⟩ := rfl
theorem sp36_0 : G.spec 36 0 = ⟨[0, 3], [2], [], [], []⟩ := rfl
theorem sp39_0 : G.spec 39 0 = ⟨[0, 5], [], [], [], []⟩ := rfl
theorem sp40_0 : G.spec 40 0 = ⟨[0, 1, 5], [0, 1, 5], [], [], []⟩ := rfl
theorem sp44_0 : G.spec 44 0 = ⟨[0, 1, 12, 13], [4], [], [], []⟩ := rfl
theorem sp47_0 : G.spec 47 0 = ⟨[2, 3, 5], [2, 3, 4], [], [], []⟩ := rfl
theorem sp47_2 : G.spec 47 2 = ⟨[2, 3, 6], [4], [], [], []⟩ := rfl
theorem sp52_0 : G.spec 52 0 = ⟨[0, 1, 2, 3, 8, 9], [], [], [], []⟩ := rfl
theorem sp54_0 : G.spec 54 0 = ⟨[1, 2, 3, 11, 12, 13], [1, 2, 3], [3], [], []⟩ := rfl
theorem sp57_0 : G.spec 57 0 = ⟨[0, 1, 12, 13], [4], [], [], []⟩ := rfl
theorem sp60_0 : G.spec 60 0 = ⟨[0, 3], [2], [], [], []⟩ := rfl
theorem sp61_0 : G.spec 61 0 = ⟨[0, 1, 2, 6], [], [], [], []⟩ := rfl
theorem sp61_2 : G.spec 61 2 = ⟨[0, 1, 2, 6, 7], [0, 1, 2, 6], [], [], []⟩ := rfl
theorem sp62_0 : G.spec 62 0 = ⟨[0, 6, 7, 8, 9], [0, 6, 7, 8], [], [], []⟩ := rfl
theorem sp62_2 : G.spec 62 2 = ⟨[0, 6, 7, 10], [], [], [], []⟩ := rfl
theorem sp63_0 : G.spec 63 0 = ⟨[0, 1, 6, 7, 8, 9], [], [], [], []⟩ := rfl
theorem sp65_0 : G.spec 65 0 = ⟨[0, 6, 7], [], [], [], []⟩ := rfl
theorem sp66_0 : G.spec 66 0 = ⟨[0, 1, 2, 7, 8], [6], [], [], []⟩ := rfl
theorem sp66_2 : G.spec 66 2 = ⟨[0, 1, 2, 7, 8], [0, 1, 2, 7, 8], [], [], []⟩ := rfl
theorem sp66_4 : G.spec 66 4 = ⟨[0, 1, 2, 7, 8, 9], [0, 1, 2, 7, 8], [], [], []⟩ := rfl
theorem sp66_6 : G.spec 66 6 = ⟨[0, 1, 2, 7, 8, 10], [0, 1, 2, 7, 8], [], [], []⟩ := rfl
theorem sp68_0 : G.spec 68 0 = ⟨[0, 1, 9, 10], [9], [], [], []⟩ := rfl
theorem sp68_2 : G.spec 68 2 = ⟨[0, 1, 9, 10], [0, 1, 9, 10], [], [], []⟩ := rfl
theorem sp68_4 : G.spec 68 4 = ⟨[0, 1, 9, 10], [0, 1, 9, 10], [], [], []⟩ := rfl
theorem sp69_0 : G.spec 69 0 = ⟨[0, 1, 10, 11], [0, 1, 10, 11], [], [], []⟩ := rfl
theorem sp69_2 : G.spec 69 2 = ⟨[0, 1, 10, 11], [0, 1, 10, 11], [], [], []⟩ := rfl
theorem sp69_4 : G.spec 69 4 = ⟨[0, 1, 10, 11], [0, 1, 11], [], [], []⟩ := rfl
theorem sp69_6 : G.spec 69 6 = ⟨[0, 1, 10, 11], [0, 1, 10, 11], [], [], []⟩ := rfl
theorem sp69_8 : G.spec 69 8 = ⟨[0, 1, 10, 11], [0, 1, 10, 11], [], [], []⟩ := rfl
theorem sp73_0 : G.spec 73 0 = ⟨[0, 1, 12, 13], [4], [], [], []⟩ := rfl
theorem sp74_0 : G.spec 74 0 = ⟨[1, 2, 15, 16, 17], [6], [], [], []⟩ := rfl
theorem sp76_0 : G.spec 76 0 = ⟨[0, 5, 6, 7], [2], [], [], []⟩ := rfl
theorem sp77_0 : G.spec 77 0 = ⟨[1, 3, 4], [3], [], [], []⟩ := rfl
theorem sp78_0 : G.spec 78 0 = ⟨[1, 3, 4], [1, 3], [], [], []⟩ := rfl
theorem sp79_0 : G.spec 79 0 = ⟨[1, 3, 4], [1, 2, 3], [], [], []⟩ := rfl
theorem sp79_3 : G.spec 79 3 = ⟨[1, 3, 5], [1, 2, 3], [], [], []⟩ := rfl
theorem sp79_5 : G.spec 79 5 = ⟨[1, 3, 6], [1, 2, 3], [], [], []⟩ := rfl
theorem sp81_0 : G.spec 81 0 = ⟨[0, 2, 3, 8], [], [], [], []⟩ := rfl
theorem sp87_0 : G.spec 87 0 = ⟨[1, 2, 31, 32, 33], [1, 6, 7], [], [], []⟩ := rfl
theorem sp91_0 : G.spec 91 0 = ⟨[0, 3], [2], [], [], []⟩ := rfl
theorem sp99_0 : G.spec 99 0 = ⟨[0, 3, 4, 5], [3], [3], [], []⟩ := rfl
theorem sp102_0 : G.spec 102 0 = ⟨[0, 5, 6, 7], [2], [], [], []⟩ := rfl
theorem sp107_0 : G.spec 107 0 = ⟨[0, 1], [1], [], [], []⟩ := rfl
theorem sp112_0 : G.spec 112 0 = ⟨[0, 1, 7, 8], [4], [], [], []⟩ := rfl
theorem sp113_0 : G.spec 113 0 = ⟨[0, 1, 7, 8], [4], [], [], []⟩ := rfl
theorem ti1 : G.ti 1 = some ⟨1, 8, .func, [.nilfn], false⟩ := by kernel_rfl
theorem ti2 : G.ti 2 = some ⟨1, 8, .int .i64, [.int .i64 0], false⟩ := by kernel_rfl
theorem ti3 : G.ti 3 = some ⟨1, 8, .int .i64, [.int .i64 0], false⟩ := by kernel_rfl
theorem ti4 : G.ti 4 = some ⟨1, 1, .bool, [.bool false], false⟩ := by kernel_rfl
theorem ti5 : G.ti 5 = some ⟨1, 1, .int .u8, [.int .u8 0], false⟩ := by kernel_rfl
theorem ti6 : G.ti 6 = some ⟨1, 1, .int .u8, [.int .u8 0], false⟩ := by kernel_rfl
theorem ti7 : G.ti 7 = some ⟨4, 24, .struct [(0, 1, 2), (1, 1, 3), (2, 1, 4), (3, 1, 6)], [.int .i64 0, .int .i64 0, .bool false, .int .u8 0], true⟩ := by kernel_rfl
theorem ti8 : G.ti 8 = some ⟨4, 24, .struct [(0, 1, 2), (1, 1, 3), (2, 1, 4), (3, 1, 6)], [.int .i64 0, .int .i64 0, .bool false, .int .u8 0], true⟩ := by kernel_rfl
theorem ti9 : G.ti 9 = some ⟨1, 16, .string, [.str []], false⟩ := by kernel_rfl
theorem ti10 : G.ti 10 = some ⟨1, 16, .string, [.str []], false⟩ := by kernel_rfl
theorem ti11 : G.ti 11 = some ⟨1, 16, .string, [.str []], false⟩ := by kernel_rfl
theorem ti12 : G.ti 12 = some ⟨1, 8, .int .u64, [.int .u64 0], false⟩ := by kernel_rfl
theorem ti13 : G.ti 13 = some ⟨2, 24, .struct [(0, 1, 9), (1, 1, 12)], [.str [], .int .u64 0], false⟩ := by kernel_rfl
theorem ti14 : G.ti 14 = some ⟨2, 24, .struct [(0, 1, 9), (1, 1, 12)], [.str [], .int .u64 0], false⟩ := by kernel_rfl
theorem ti15 : G.ti 15 = some ⟨1, 8, .ptr, [.nilptr], false⟩ := by kernel_rfl
theorem ti16 : G.ti 16 = some ⟨1, 8, .ptr, [.nilptr], false⟩ := by kernel_rfl
theorem ti17 : G.ti 17 = some ⟨1, 8, .ptr, [.nilptr], false⟩ := by kernel_rfl
theorem ti18 : G.ti 18 = some ⟨1, 8, .struct [(0, 1, 17)], [.nilptr], false⟩ := by kernel_rfl
theorem ti19 : G.ti 19 = some ⟨1, 8, .struct [(0, 1, 17)], [.nilptr], false⟩ := by kernel_rfl
theorem ti20 : G.ti 20 = some ⟨1, 16, .other, [.nilif], false⟩ := by kernel_rfl
theorem ti21 : G.ti 21 = some ⟨1, 4, .int .i32, [.int .i32 0], false⟩ := by kernel_rfl
theorem ti22 : G.ti 22 = some ⟨1, 24, .slice 39, [.sl true 0 []], false⟩ := by kernel_rfl
theorem ti23 : G.ti 23 = some ⟨1, 8, .func, [.nilfn], false⟩ := by kernel_rfl
theorem ti24 : G.ti 24 = some ⟨1, 8, .func, [.nilfn], false⟩ := by kernel_rfl
theorem ti25 : G.ti 25 = some ⟨1, 8, .func, [.nilfn], false⟩ := by kernel_rfl
theorem ti26 : G.ti 26 = some ⟨1, 8, .func, [.nilfn], false⟩ := by kernel_rfl
theorem ti27 : G.ti 27 = some ⟨1, 8, .func, [.nilfn], false⟩ := by kernel_rfl
theorem ti28 : G.ti 28 = some ⟨1, 24, .slice 3, [.sl true 0 []], false⟩ := by kernel_rfl
theorem ti29 : G.ti 29 = some ⟨1, 8, .func, [.nilfn], false⟩ := by kernel_rfl
theorem ti30 : G.ti 30 = some ⟨1, 24, .slice 66, [.sl true 0 []], false⟩ := by kernel_rfl
theorem ti31 : G.ti 31 = some ⟨1, 24, .slice 33, [.sl true 0 []], false⟩ := by kernel_rfl
theorem ti32 : G.ti 32 = some ⟨8, 104, .struct [(0, 1, 3), (1, 1, 9), (2, 1, 4), (3, 1, 30), (4, 1, 3), (5, 1, 3), (6, 1, 4), (7, 1, 31)], [.int .i64 0, .str [], .bool false, .sl true 0 [], .int .i64 0, .int .i64 0, .bool false, .sl true 0 []], true⟩ := by kernel_rfl
theorem ti33 : G.ti 33 = some ⟨8, 104, .struct [(0, 1, 3), (1, 1, 9), (2, 1, 4), (3, 1, 30), (4, 1, 3), (5, 1, 3), (6, 1, 4), (7, 1, 31)], [.int .i64 0, .str [], .bool false, .sl true 0 [], .int .i64 0, .int .i64 0, .bool false, .sl true 0 []], true⟩ := by kernel_rfl
theorem ti34 : G.ti 34 = some ⟨1, 24, .slice 68, [.sl true 0 []], false⟩ := by kernel_rfl
theorem ti35 : G.ti 35 = some ⟨11, 136, .struct [(0, 8, 33), (8, 1, 34), (9, 1, 4), (10, 1, 4)], [.int .i64 0, .str [], .bool false, .sl true 0 [], .int .i64 0, .int .i64 0, .bool false, .sl true 0 [], .sl true 0 [], .bool false, .bool false], false⟩ := by kernel_rfl
theorem ti36 : G.ti 36 = some ⟨11, 136, .struct [(0, 8, 33), (8, 1, 34), (9, 1, 4), (10, 1, 4)], [.int .i64 0, .str [], .bool false, .sl true 0 [], .int .i64 0, .int .i64 0, .bool false, .sl true 0 [], .sl true 0 [], .bool false, .bool false], false⟩ := by kernel_rfl
theorem ti37 : G.ti 37 = some ⟨1, 24, .slice 9, [.sl true 0 []], false⟩ := by kernel_rfl
theorem ti38 : G.ti 38 = some ⟨18, 224, .struct [(0, 1, 3), (1, 1, 9), (2, 1, 3), (3, 1, 4), (4, 1, 4), (5, 11, 36), (16, 1, 37), (17, 1, 22)], [.int .i64 0, .str [], .int .i64 0, .bool false, .bool false, .int .i64 0, .str [], .bool false, .sl true 0 [], .int .i64 0, .int .i64 0, .bool false, .sl true 0 [], .sl true 0 [], .bool false, .bool false, .sl true 0 [], .sl true 0 []], false⟩ := by kernel_rfl
theorem ti39 : G.ti 39 = some ⟨18, 224, .struct [(0, 1, 3), (1, 1, 9), (2, 1, 3), (3, 1, 4), (4, 1, 4), (5, 11, 36), (16, 1, 37), (17, 1, 22)], [.int .i64 0, .str [], .int .i64 0, .bool false, .bool false, .int .i64 0, .str [], .bool false, .sl true 0 [], .int .i64 0, .int .i64 0, .bool false, .sl true 0 [], .sl true 0 [], .bool false, .bool false, .sl true 0 [], .sl true 0 []], false⟩ := by kernel_rfl
theorem ti40 : G.ti 40 = some ⟨1, 8, .func, [.nilfn], false⟩ := by kernel_rfl
theorem ti41 : G.ti 41 = some ⟨1, 8, .func, [.nilfn], false⟩ := by kernel_rfl
theorem ti42 : G.ti 42 = some ⟨1, 8, .func, [.nilfn], false⟩ := by kernel_rfl
theorem ti43 : G.ti 43 = some ⟨1, 8, .func, [.nilfn], false⟩ := by kernel_rfl
theorem ti44 : G.ti 44 = some ⟨1, 8, .func, [.nilfn], false⟩ := by kernel_rfl
theorem ti45 : G.ti 45 = some ⟨1, 8, .func, [.nilfn], false⟩ := by kernel_rfl
theorem ti46 : G.ti 46 = some ⟨1, 8, .map 3 3, [.nilmap], false⟩ := by kernel_rfl
theorem ti47 : G.ti 47 = some ⟨1, 8, .func, [.nilfn], false⟩ := by kernel_rfl
theorem ti48 : G.ti 48 = some ⟨1, 8, .func, [.nilfn], false⟩ := by kernel_rfl
theorem ti49 : G.ti 49 = some ⟨1, 8, .func, [.nilfn], false⟩ := by kernel_rfl
theorem ti50 : G.ti 50 = some ⟨1, 8, .func, [.nilfn], false⟩ := by kernel_rfl
theorem ti51 : G.ti 51 = some ⟨1, 8, .func, [.nilfn], false⟩ := by kernel_rfl
theorem ti52 : G.ti 52 = some ⟨1, 8, .func, [.nilfn], false⟩ := by kernel_rfl
theorem ti53 : G.ti 53 = some ⟨1, 8, .func, [.nilfn], false⟩ := by kernel_rfl
theorem ti54 : G.ti 54 = some ⟨1, 8, .func, [.nilfn], false⟩ := by kernel_rfl
theorem ti55 : G.ti 55 = some ⟨1, 24, .slice 5, [.sl true 0 []], false⟩ := by kernel_rfl
theorem ti56 : G.ti 56 = some ⟨1, 8, .func, [.nilfn], false⟩ := by kernel_rfl
theorem ti57 : G.ti 57 = some ⟨1, 8, .func, [.nilfn], false⟩ := by kernel_rfl
theorem ti58 : G.ti 58 = some ⟨1, 8, .func, [.nilfn], false⟩ := by kernel_rfl
theorem ti59 : G.ti 59 = some ⟨1, 8, .func, [.nilfn], false⟩ := by kernel_rfl
theorem ti60 : G.ti 60 = some ⟨1, 8, .func, [.nilfn], false⟩ := by kernel_rfl
theorem ti61 : G.ti 61 = some ⟨1, 8, .func, [.nilfn], false⟩ := by kernel_rfl
theorem ti62 : G.ti 62 = some ⟨1, 8, .func, [.nilfn], false⟩ := by kernel_rfl
theorem ti63 : G.ti 63 = some ⟨1, 8, .func, [.nilfn], false⟩ := by kernel_rfl
theorem ti64 : G.ti 64 = some ⟨1, 8, .func, [.nilfn], false⟩ := by kernel_rfl
theorem ti65 : G.ti 65 = some ⟨2, 32, .struct [(0, 1, 9), (1, 1, 9)], [.str [], .str []], true⟩ := by kernel_rfl
theorem ti66 : G.ti 66 = some ⟨2, 32, .struct [(0, 1, 9), (1, 1, 9)], [.str [], .str []], true⟩ := by kernel_rfl
theorem ti67 : G.ti 67 = some ⟨5, 56, .struct [(0, 1, 3), (1, 1, 3), (2, 1, 3), (3, 1, 9), (4, 1, 9)], [.int .i64 0, .int .i64 0, .int .i64 0, .str [], .str []], true⟩ := by kernel_rfl
theorem ti68 : G.ti 68 = some ⟨5, 56, .struct [(0, 1, 3), (1, 1, 3), (2, 1, 3), (3, 1, 9), (4, 1, 9)], [.int .i64 0, .int .i64 0, .int .i64 0, .str [], .str []], true⟩ := by kernel_rfl
theorem ti69 : G.ti 69 = some ⟨1, 8, .func, [.nilfn], false⟩ := by kernel_rfl
theorem ti70 : G.ti 70 = some ⟨1, 8, .func, [.nilfn], false⟩ := by kernel_rfl
theorem ti71 : G.ti 71 = some ⟨1, 8, .func, [.nilfn], false⟩ := by kernel_rfl
theorem ti72 : G.ti 72 = some ⟨1, 8, .func, [.nilfn], false⟩ := by kernel_rfl
theorem ti73 : G.ti 73 = some ⟨1, 8, .func, [.nilfn], false⟩ := by kernel_rfl
theorem ti74 : G.ti 74 = some ⟨1, 8, .func, [.nilfn], false⟩ := by kernel_rfl
theorem ti75 : G.ti 75 = some ⟨1, 8, .func, [.nilfn], false⟩ := by kernel_rfl
theorem ti76 : G.ti 76 = some ⟨1, 8, .func, [.nilfn], false⟩ := by kernel_rfl
theorem ti77 : G.ti 77 = some ⟨1, 8, .int .u64, [.int .u64 0], false⟩ := by kernel_rfl
theorem ti78 : G.ti 78 = some ⟨1, 8, .func, [.nilfn], false⟩ := by kernel_rfl
theorem ti79 : G.ti 79 = some ⟨1, 8, .func, [.nilfn], false⟩ := by kernel_rfl
theorem ti80 : G.ti 80 = some ⟨1, 8, .func, [.nilfn], false⟩ := by kernel_rfl
theorem ti81 : G.ti 81 = some ⟨1, 8, .func, [.nilfn], false⟩ := by kernel_rfl
theorem ti82 : G.ti 82 = some ⟨1, 8, .func, [.nilfn], false⟩ := by kernel_rfl
theorem ti83 : G.ti 83 = some ⟨1, 8, .func, [.nilfn], false⟩ := by kernel_rfl
theorem ti84 : G.ti 84 = some ⟨1, 8, .int .i64, [.int .i64 0], false⟩ := by kernel_rfl
theorem ti86 : G.ti 86 = some ⟨1, 8, .func, [.nilfn], false⟩ := by kernel_rfl
theorem ti87 : G.ti 87 = some ⟨1, 8, .func, [.nilfn], false⟩ := by kernel_rfl
theorem ti88 : G.ti 88 = some ⟨1, 8, .func, [.nilfn], false⟩ := by kernel_rfl
theorem ti89 : G.ti 89 = some ⟨1, 8, .func, [.nilfn], false⟩ := by kernel_rfl
theorem ti91 : G.ti 91 = some ⟨1, 8, .func, [.nilfn], false⟩ := by kernel_rfl
theorem ti92 : G.ti 92 = some ⟨1, 8, .func, [.nilfn], false⟩ := by kernel_rfl
theorem ti93 : G.ti 93 = some ⟨1, 4, .int .u32, [.int .u32 0], false⟩ := by kernel_rfl
theorem ti94 : G.ti 94 = some ⟨1, 8, .func, [.nilfn], false⟩ := by kernel_rfl
theorem ti95 : G.ti 95 = some ⟨1, 8, .int .u64, [.int .u64 0], false⟩ := by kernel_rfl
theorem ti96 : G.ti 96 = some ⟨1, 8, .func, [.nilfn], false⟩ := by kernel_rfl
theorem ti97 : G.ti 97 = some ⟨1, 8, .func, [.nilfn], false⟩ := by kernel_rfl
theorem ti98 : G.ti 98 = some ⟨1, 8, .func, [.nilfn], false⟩ := by kernel_rfl
theorem ti99 : G.ti 99 = some ⟨1, 8, .func, [.nilfn], false⟩ := by kernel_rfl
theorem ti100 : G.ti 100 = some ⟨1, 8, .func, [.nilfn], false⟩ := by kernel_rfl
theorem ti101 : G.ti 101 = some ⟨1, 8, .int .u64, [.int .u64 0], false⟩ := by kernel_rfl
theorem ti102 : G.ti 102 = some ⟨1, 8, .func, [.nilfn], false⟩ := by kernel_rfl
theorem ti103 : G.ti 103 = some ⟨1, 8, .func, [.nilfn], false⟩ := by kernel_rfl
theorem ti104 : G.ti 104 = some ⟨1, 8, .func, [.nilfn], false⟩ := by kernel_rfl
theorem ti105 : G.ti 105 = some ⟨1, 8, .ptr, [.nilptr], false⟩ := by kernel_rfl
theorem ti106 : G.ti 106 = some ⟨1, 8, .func, [.nilfn], false⟩ := by kernel_rfl
theorem ti107 : G.ti 107 = some ⟨1, 8, .func, [.nilfn], false⟩ := by kernel_rfl
theorem ti108 : G.ti 108 = some ⟨1, 8, .func, [.nilfn], false⟩ := by kernel_rfl
theorem ti109 : G.ti 109 = some ⟨1, 8, .func, [.nilfn], false⟩ := by kernel_rfl
theorem ti110 : G.ti 110 = some ⟨1, 8, .ptr, [.nilptr], false⟩ := by kernel_rfl
theorem ti112 : G.ti 112 = some ⟨1, 8, .func, [.nilfn], false⟩ := by kernel_rfl
theorem ti113 : G.ti 113 = some ⟨1, 8, .func, [.nilfn], false⟩ := by kernel_rfl
theorem ti114 : G.ti 114 = some ⟨1, 8, .func, [.nilfn], false⟩ := by kernel_rfl
theorem ti115 : G.ti 115 = some ⟨1, 8, .func, [.nilfn], false⟩ := by kernel_rfl
theorem ti116 : G.ti 116 = some ⟨1, 8, .func, [.nilfn], false⟩ := by kernel_rfl
theorem ti117 : G.ti 117 = some ⟨1, 8, .func, [.nilfn], false⟩ := by kernel_rfl
theorem ti118 : G.ti 118 = some ⟨1, 8, .func, [.nilfn], false⟩ := by kernel_rfl
theorem ti119 : G.ti 119 = some ⟨1, 8, .func, [.nilfn], false⟩ := by kernel_rfl
theorem ti120 : G.ti 120 = some ⟨1, 8, .func, [.nilfn], false⟩ := by kernel_rfl
theorem ti121 : G.ti 121 = some ⟨1, 8, .func, [.nilfn], false⟩ := by kernel_rfl
theorem ti122 : G.ti 122 = some ⟨1, 8, .func, [.nilfn], false⟩ := by kernel_rfl
theorem ti123 : G.ti 123 = some ⟨1, 8, .func, [.nilfn], false⟩ := by kernel_rfl
theorem ti124 : G.ti 124 = some ⟨1, 8, .func, [.nilfn], false⟩ := by kernel_rfl
theorem ti125 : G.ti 125 = some ⟨4, 40, .struct [(0, 1, 17), (1, 1, 17), (2, 1, 17), (3, 1, 9)], [.nilptr, .nilptr, .nilptr, .str []], false⟩ := by kernel_rfl
theorem ti126 : G.ti 126 = some ⟨4, 40, .struct [(0, 1, 17), (1, 1, 17), (2, 1, 17), (3, 1, 9)], [.nilptr, .nilptr, .nilptr, .str []], false⟩ := by kernel_rfl
theorem ti127 : G.ti 127 = some ⟨0, 0, .array 0 16, [], false⟩ := by kernel_rfl
theorem ti128 : G.ti 128 = some ⟨0, 0, .struct [(0, 0, 127)], [], false⟩ := by kernel_rfl
theorem ti129 : G.ti 129 = some ⟨0, 0, .struct [(0, 0, 127)], [], false⟩ := by kernel_rfl
theorem ti130 : G.ti 130 = some ⟨1, 8, .func, [.nilfn], false⟩ := by kernel_rfl
theorem ti131 : G.ti 131 = some ⟨1, 1, .int .u8, [.int .u8 0], false⟩ := by kernel_rfl
theorem ti132 : G.ti 132 = some ⟨1, 1, .int .u8, [.int .u8 0], false⟩ := by kernel_rfl
theorem ti133 : G.ti 133 = some ⟨1, 8, .func, [.nilfn], false⟩ := by kernel_rfl
theorem ti134 : G.ti 134 = some ⟨1, 8, .ptr, [.nilptr], false⟩ := by kernel_rfl
theorem ti135 : G.ti 135 = some ⟨1, 4, .int .i32, [.int .i32 0], false⟩ := by kernel_rfl
theorem ti136 : G.ti 136 = some ⟨1, 4, .int .i32, [.int .i32 0], false⟩ := by kernel_rfl
theorem ti137 : G.ti 137 = some ⟨11, 48, .struct [(0, 1, 12), (1, 1, 12), (2, 1, 93), (3, 1, 131), (4, 1, 5), (5, 1, 5), (6, 1, 132), (7, 1, 133), (8, 1, 134), (9, 1, 135), (10, 1, 136)], [.int .u64 0, .int .u64 0, .int .u32 0, .int .u8 0, .int .u8 0, .int .u8 0, .int .u8 0, .nilfn, .nilptr, .int .i32 0, .int .i32 0], false⟩ := by kernel_rfl
theorem ti138 : G.ti 138 = some ⟨11, 48, .struct [(0, 1, 12), (1, 1, 12), (2, 1, 93), (3, 1, 131), (4, 1, 5), (5, 1, 5), (6, 1, 132), (7, 1, 133), (8, 1, 134), (9, 1, 135), (10, 1, 136)], [.int .u64 0, .int .u64 0, .int .u32 0, .int .u8 0, .int .u8 0, .int .u8 0, .int .u8 0, .nilfn, .nilptr, .int .i32 0, .int .i32 0], false⟩ := by kernel_rfl
def tab0 := PLift.up (And.intro (And.intro (And.intro (And.intro (And.intro (ti1) (ti2)) (And.intro (ti3) (ti4))) (And.intro (And.intro (ti5) (ti6)) (And.intro (ti7) (ti8)))) (And.intro (And.intro (And.intro (ti9) (ti10)) (And.intro (ti11) (ti12))) (And.intro (And.intro (ti13) (ti14)) (And.intro (ti15) (ti16))))) (And.intro (And.intro (And.intro (And.intro (ti17) (ti18)) (And.intro (ti19) (ti20))) (And.intro (And.intro (ti21) (ti22)) (And.intro (ti23) (ti24)))) (And.intro (And.intro (And.intro (ti25) (ti26)) (And.intro (ti27) (ti28))) (And.intro (And.intro (ti29) (ti30)) (And.intro (ti31) (ti32))))))
def tab1 := PLift.up (And.intro (And.intro (And.intro (And.intro (And.intro (ti33) (ti34)) (And.intro (ti35) (ti36))) (And.intro (And.intro (ti37) (ti38)) (And.intro (ti39) (ti40)))) (And.intro (And.intro (And.intro (ti41) (ti42)) (And.intro (ti43) (ti44))) (And.intro (And.intro (ti45) (ti46)) (And.intro (ti47) (ti48))))) (And.intro (And.intro (And.intro (And.intro (ti49) (ti50)) (And.intro (ti51) (ti52))) (And.intro (And.intro (ti53) (ti54)) (And.intro (ti55) (ti56)))) (And.intro (And.intro (And.intro (ti57) (ti58)) (And.intro (ti59) (ti60))) (And.intro (And.intro (ti61) (ti62)) (And.intro (ti63) (ti64))))))
def tab2 := PLift.up (And.intro (And.intro (And.intro (And.intro (And.intro (ti65) (ti66)) (And.intro (ti67) (ti68))) (And.intro (And.intro (ti69) (ti70)) (And.intro (ti71) (ti72)))) (And.intro (And.intro (And.intro (ti73) (ti74)) (And.intro (ti75) (ti76))) (And.intro (And.intro (ti77) (ti78)) (And.intro (ti79) (ti80))))) (And.intro (And.intro (And.intro (And.intro (ti81) (ti82)) (And.intro (ti83) (ti84))) (And.intro (And.intro (ti86) (ti87)) (And.intro (ti88) (ti89)))) (And.intro (And.intro (And.intro (ti91) (ti92)) (And.intro (ti93) (ti94))) (And.intro (And.intro (ti95) (ti96)) (And.intro (ti97) (ti98))))))
def tab3 := PLift.up (And.intro (And.intro (And.intro (And.intro (And.intro (ti99) (ti100)) (And.intro (ti101) (ti102))) (And.intro (And.intro (ti103) (ti104)) (And.intro (ti105) (ti106)))) (And.intro (And.intro (And.intro (ti107) (ti108)) (And.intro (ti109) (ti110))) (And.intro (And.intro (ti112) (ti113)) (And.intro (ti114) (ti115))))) (And.intro (And.intro (And.intro (And.intro (ti116) (ti117)) (And.intro (ti118) (ti119))) (And.intro (And.intro (ti120) (ti121)) (And.intro (ti122) (ti123)))) (And.intro (And.intro (And.intro (ti124) (ti125)) (And.intro (ti126) (ti127))) (And.intro (And.intro (ti128) (ti129)) (And.intro (ti130) (ti131))))))
def tab4 := PLift.up (And.intro (And.intro (And.intro (And.intro (And.intro (ti132) (ti133)) (And.intro (ti134) (ti135))) (And.intro (And.intro (ti136) (ti137)) (And.intro (ti138) (own0)))) (And.intro (And.intro (And.intro (own1) (own2)) (And.intro (own3) (own4))) (And.intro (And.intro (own5) (own6)) (And.intro (own7) (own8))))) (And.intro (And.intro (And.intro (And.intro (own9) (own10)) (And.intro (own11) (own12))) (And.intro (And.intro (own13) (own14)) (And.intro (own15) (own16)))) (And.intro (And.intro (And.intro (own17) (own18)) (And.intro (own19) (own20))) (And.intro (And.intro (own21) (own22)) (And.intro (own23) (own24))))))
def tab5 := PLift.up (And.intro (And.intro (And.intro (And.intro (And.intro (own25) (own26)) (And.intro (own27) (own28))) (And.intro (And.intro (own29) (own30)) (And.intro (own31) (own32)))) (And.intro (And.intro (And.intro (own33) (own34)) (And.intro (own35) (own36))) (And.intro (And.intro (own37) (own38)) (And.intro (own39) (own40))))) (And.intro (And.intro (And.intro (And.intro (own41) (own42)) (And.intro (own43) (own44))) (And.intro (And.intro (own45) (own46)) (And.intro (own47) (own48)))) (And.intro (And.intro (And.intro (own49) (own50)) (And.intro (own51) (own52))) (And.intro (And.intro (own53) (own54)) (And.intro (own55) (own56))))))
def tab6 := PLift.up (And.intro (And.intro (And.intro (And.intro (And.intro (own57) (own58)) (And.intro (own59) (own60))) (And.intro (And.intro (own61) (own62)) (And.intro (own63) (own64)))) (And.intro (And.intro (And.intro (own65) (own66)) (And.intro (own67) (own68))) (And.intro (And.intro (own69) (own70)) (And.intro (own71) (own72))))) (And.intro (And.intro (And.intro (And.intro (own73) (own74)) (And.intro (own75) (own76))) (And.intro (And.intro (own77) (own78)) (And.intro (own79) (own80)))) (And.intro (And.intro (And.intro (own81) (own82)) (And.intro (own83) (own84))) (And.intro (And.intro (own85) (own86)) (And.intro (own87) (own88))))))
def tab7 := PLift.up (And.intro (And.intro (And.intro (And.intro (And.intro (own89) (own90)) (And.intro (own91) (own92))) (And.intro (And.intro (own93) (own94)) (And.intro (own95) (own96)))) (And.intro (And.intro (And.intro (own97) (own98)) (And.intro (own99) (own100))) (And.intro (And.intro (own101) (own102)) (And.intro (own103) (own104))))) (And.intro (And.intro (And.intro (And.intro (own105) (own106)) (And.intro (own107) (own108))) (And.intro (And.intro (own109) (own110)) (And.intro (own111) (own112)))) (And.intro (And.intro (And.intro (own113) (own114)) (And.intro (own115) (own116))) (And.intro (And.intro (own117) (own118)) (And.intro (own119) (own120))))))
def tab8 := PLift.up (And.intro (And.intro (And.intro (And.intro (And.intro (own121) (own122)) (And.intro (own123) (own124))) (And.intro (And.intro (own125) (own126)) (And.intro (own127) (own128)))) (And.intro (And.intro (And.intro (own129) (kp0)) (And.intro (kp1) (kp2))) (And.intro (And.intro (kp3) (kp4)) (And.intro (kp5) (kp6))))) (And.intro (And.intro (And.intro (And.intro (kp7) (kp8)) (And.intro (kp9) (kp10))) (And.intro (And.intro (kp11) (kp12)) (And.intro (kp13) (kp14)))) (And.intro (And.intro (And.intro (kp15) (kp16)) (And.intro (kp17) (kp18))) (And.intro (And.intro (kp19) (kp20)) (And.intro (kp21) (kp22))))))
def tab9 := PLift.up (And.intro (And.intro (And.intro (And.intro (And.intro (kp23) (kp24)) (And.intro (kp25) (kp26))) (And.intro (And.intro (kp27) (kp28)) (And.intro (kp29) (kp30)))) (And.intro (And.intro (And.intro (kp31) (kp32)) (And.intro (kp33) (kp34))) (And.intro (And.intro (kp35) (kp36)) (And.intro (kp37) (kp38))))) (And.intro (And.intro (And.intro (And.intro (kp39) (kp40)) (And.intro (kp41) (kp42))) (And.intro (And.intro (kp43) (kp44)) (And.intro (kp45) (kp46)))) (And.intro (And.intro (And.intro (kp47) (kp48)) (And.intro (kp49) (kp50))) (And.intro (And.intro (kp51) (kp52)) (And.intro (kp53) (kp54))))))
def tab10 := PLift.up (And.intro (And.intro (And.intro (And.intro (And.intro (kp55) (kp56)) (And.intro (kp57) (kp58))) (And.intro (And.intro (kp59) (kp60)) (And.intro (kp61) (kp62)))) (And.intro (And.intro (And.intro (kp63) (kp64)) (And.intro (kp65) (kp66))) (And.intro (And.intro (kp67) (kp68)) (And.intro (kp69) (kp70))))) (And.intro (And.intro (And.intro (And.intro (kp71) (kp72)) (And.intro (kp73) (kp74))) (And.intro (And.intro (kp75) (kp76)) (And.intro (kp77) (kp78)))) (And.intro (And.intro (And.intro (kp79) (kp80)) (And.intro (kp81) (kp82))) (And.intro (And.intro (kp83) (kp84)) (And.intro (kp85) (kp86))))))
def tab11 := PLift.up (And.intro (And.intro (And.intro (And.intro (And.intro (kp87) (kp88)) (And.intro (kp89) (kp90))) (And.intro (And.intro (kp91) (kp92)) (And.intro (kp93) (kp94)))) (And.intro (And.intro (And.intro (kp95) (kp96)) (And.intro (kp97) (kp98))) (And.intro (And.intro (kp99) (kp100)) (And.intro (kp101) (kp102))))) (And.intro (And.intro (And.intro (And.intro (kp103) (kp104)) (And.intro (kp105) (kp106))) (And.intro (And.intro (kp107) (kp108)) (And.intro (kp109) (kp110)))) (And.intro (And.intro (And.intro (kp111) (kp112)) (And.intro (kp113) (kp114))) (And.intro (And.intro (kp115) (kp116)) (And.intro (kp117) (kp118))))))
def tab12 := PLift.up (And.intro (And.intro (And.intro (And.intro (And.intro (kp119) (kp120)) (And.intro (kp121) (kp122))) (And.intro (And.intro (kp123) (kp124)) (And.intro (kp125) (kp126)))) (And.intro (And.intro (And.intro (kp127) (kp128)) (And.intro (kp129) (pr0))) (And.intro (And.intro (pr1) (pr2)) (And.intro (pr3) (pr4))))) (And.intro (And.intro (And.intro (And.intro (pr5) (pr6)) (And.intro (pr7) (pr8))) (And.intro (And.intro (pr9) (pr10)) (And.intro (pr11) (pr12)))) (And.intro (And.intro (And.intro (pr13) (pr14)) (And.intro (pr15) (pr16))) (And.intro (And.intro (pr17) (pr18)) (And.intro (pr19) (pr20))))))
def tab13 := PLift.up (And.intro (And.intro (And.intro (And.intro (And.intro (pr21) (pr22)) (And.intro (pr23) (pr24))) (And.intro (And.intro (pr25) (pr26)) (And.intro (pr27) (pr28)))) (And.intro (And.intro (And.intro (pr29) (pr30)) (And.intro (pr31) (pr32))) (And.intro (And.intro (pr33) (pr34)) (And.intro (pr35) (pr36))))) (And.intro (And.intro (And.intro (And.intro (pr37) (pr38)) (And.intro (pr39) (pr40))) (And.intro (And.intro (pr41) (pr42)) (And.intro (pr43) (pr44)))) (And.intro (And.intro (And.intro (pr45) (pr46)) (And.intro (pr47) (pr48))) (And.intro (And.intro (pr49) (pr50)) (And.intro (pr51) (pr52))))))
def tab14 := PLift.up (And.intro (And.intro (And.intro (And.intro (And.intro (pr53) (pr54)) (And.intro (pr55) (pr56))) (And.intro (And.intro (pr57) (pr58)) (And.intro (pr59) (pr60)))) (And.intro (And.intro (And.intro (pr61) (pr62)) (And.intro (pr63) (pr64))) (And.intro (And.intro (pr65) (pr66)) (And.intro (pr67) (pr68))))) (And.intro (And.intro (And.intro (And.intro (pr69) (pr70)) (And.intro (pr71) (pr72))) (And.intro (And.intro (pr73) (pr74)) (And.intro (pr75) (pr76)))) (And.intro (And.intro (And.intro (pr77) (pr78)) (And.intro (pr79) (pr80))) (And.intro (And.intro (pr81) (pr82)) (And.intro (pr83) (pr84))))))
def tab15 := PLift.up (And.intro (And.intro (And.intro (And.intro (And.intro (pr85) (pr86)) (And.intro (pr87) (pr88))) (And.intro (And.intro (pr89) (pr90)) (And.intro (pr91) (pr92)))) (And.intro (And.intro (And.intro (pr93) (pr94)) (And.intro (pr95) (pr96))) (And.intro (And.intro (pr97) (pr98)) (And.intro (pr99) (pr100))))) (And.intro (And.intro (And.intro (And.intro (pr101) (pr102)) (And.intro (pr103) (pr104))) (And.intro (And.intro (pr105) (pr106)) (And.intro (pr107) (pr108)))) (And.intro (And.intro (And.intro (pr109) (pr110)) (And.intro (pr111) (pr112))) (And.intro (And.intro (pr113) (pr114)) (And.intro (pr115) (pr116))))))
def tab16 := PLift.up (And.intro (And.intro (And.intro (pr117) (And.intro (pr118) (pr119))) (And.intro (pr120) (And.intro (pr121) (pr122)))) (And.intro (And.intro (pr123) (And.intro (pr124) (pr125))) (And.intro (And.intro (pr126) (pr127)) (And.intro (pr128) (pr129)))))
def tab := PLift.up (And.intro (And.intro (And.intro (And.intro (tab0.down) (tab1.down)) (And.intro (tab2.down) (tab3.down))) (And.intro (And.intro (tab4.down) (tab5.down)) (And.intro (tab6.down) (tab7.down)))) (And.intro (And.intro (And.intro (tab8.down) (tab9.down)) (And.intro (tab10.down) (tab11.down))) (And.intro (And.intro (tab12.down) (tab13.down)) (And.intro (tab14.down) (And.intro (tab15.down) (tab16.down))))))
theorem fn2 : G.fn 2 = some ⟨Tryz.f2.ntmps, Tryz.f2.results.toList, Tryz.f2.body.get!⟩ := by kernel_rfl
theorem fn3 : G.fn 3 = some ⟨Tryz.f3.ntmps, Tryz.f3.results.toList, Tryz.f3.body.get!⟩ := by kernel_rfl
theorem fn4 : G.fn 4 = some ⟨Tryz.f4.ntmps, Tryz.f4.results.toList, Tryz.f4.body.get!⟩ := by kernel_rfl
theorem fn5 : G.fn 5 = some ⟨Tryz.f5.ntmps, Tryz.f5.results.toList, Tryz.f5.body.get!⟩ := by kernel_rfl
theorem fn6 : G.fn 6 = some ⟨Tryz.f6.ntmps, Tryz.f6.results.toList, Tryz.f6.body.get!⟩ := by kernel_rfl
theorem fn7 : G.fn 7 = some ⟨Tryz.f7.ntmps, Tryz.f7.results.toList, Tryz.f7.body.get!⟩ := by kernel_rfl
theorem fn8 : G.fn 8 = some ⟨Tryz.f8.ntmps, Tryz.f8.results.toList, Tryz.f8.body.get!⟩ := by kernel_rfl
theorem fn9 : G.fn 9 = some ⟨Tryz.f9.ntmps, Tryz.f9.results.toList, Tryz.f9.body.get!⟩ := by kernel_rfl
theorem fn10 : G.fn 10 = some ⟨Tryz.f10.ntmps, Tryz.f10.results.toList, Tryz.f10.body.get!⟩ := by kernel_rfl
theorem fn11 : G.fn 11 = some ⟨Tryz.f11.ntmps, Tryz.f11.results.toList, Tryz.f11.body.get!⟩ := by kernel_rfl
theorem fn12 : G.fn 12 = some ⟨Tryz.f12.ntmps, Tryz.f12.results.toList, Tryz.f12.body.get!⟩ := by kernel_rfl
theorem fn13 : G.fn 13 = some ⟨Tryz.f13.ntmps, Tryz.f13.results.toList, Tryz.f13.body.get!⟩ := by kernel_rfl
theorem fn14 : G.fn 14 = some ⟨Tryz.f14.ntmps, Tryz.f14.results.toList, Tryz.f14.body.get!⟩ := by kernel_rfl
theorem fn15 : G.fn 15 = some ⟨Tryz.f15.ntmps, Tryz.f15.results.toList, Tryz.f15.body.get!⟩ := by kernel_rfl
theorem fn16 : G.fn 16 = some ⟨Tryz.f16.ntmps, Tryz.f16.results.toList, Tryz.f16.body.get!⟩ := by kernel_rfl
theorem fn17 : G.fn 17 = some ⟨Tryz.f17.ntmps, Tryz.f17.results.toList, Tryz.f17.body.get!⟩ := by kernel_rfl
theorem fn18 : G.fn 18 = some ⟨Tryz.f18.ntmps, Tryz.f18.results.toList, Tryz.f18.body.get!⟩ := by kernel_rfl
theorem fn19 : G.fn 19 = some ⟨Tryz.f19.ntmps, Tryz.f19.results.toList, Tryz.f19.body.get!⟩ := by kernel_rfl
theorem fn20 : G.fn 20 = some ⟨Tryz.f20.ntmps, Tryz.f20.results.toList, Tryz.f20.body.get!⟩ := by kernel_rfl
theorem fn21 : G.fn 21 = some ⟨Tryz.f21.ntmps, Tryz.f21.results.toList, Tryz.f21.body.get!⟩ := by kernel_rfl
theorem fn22 : G.fn 22 = some ⟨Tryz.f22.ntmps, Tryz.f22.results.toList, Tryz.f22.body.get!⟩ := by kernel_rfl
theorem fn23 : G.fn 23 = some ⟨Tryz.f23.ntmps, Tryz.f23.results.toList, Tryz.f23.body.get!⟩ := by kernel_rfl
theorem fn24 : G.fn 24 = some ⟨Tryz.f24.ntmps, Tryz.f24.results.toList, Tryz.f24.body.get!⟩ := by kernel_rfl
theorem fn25 : G.fn 25 = some ⟨Tryz.f25.ntmps, Tryz.f25.results.toList, Tryz.f25.body.get!⟩ := by kernel_rfl
theorem fn26 : G.fn 26 = some ⟨Tryz.f26.ntmps, Tryz.f26.results.toList, Tryz.f26.body.get!⟩ := by kernel_rfl
theorem fn27 : G.fn 27 = some ⟨Tryz.f27.ntmps, Tryz.f27.results.toList, Tryz.f27.body.get!⟩ := by kernel_rfl
theorem fn28 : G.fn 28 = some ⟨Tryz.f28.ntmps, Tryz.f28.results.toList, Tryz.f28.body.get!⟩ := by kernel_rfl
theorem fn29 : G.fn 29 = some ⟨Tryz.f29.ntmps, Tryz.f29.results.toList, Tryz.f29.body.get!⟩ := by kernel_rfl
theorem fn30 : G.fn 30 = some ⟨Tryz.f30.ntmps, Tryz.f30.results.toList, Tryz.f30.body.get!⟩ := by kernel_rfl
theorem fn31 : G.fn 31 = some ⟨Tryz.f31.ntmps, Tryz.f31.results.toList, Tryz.f31.body.get!⟩ := by kernel_rfl
theorem fn32 : G.fn 32 = some ⟨Tryz.f32.ntmps, Tryz.f32.results.toList, Tryz.f32.body.get!⟩ := by kernel_rfl
theorem fn33 : G.fn 33 = some ⟨Tryz.f33.ntmps, Tryz.f33.results.toList, Tryz.f33.body.get!⟩ := by kernel_rfl
theorem fn34 : G.fn 34 = some ⟨Tryz.f34.ntmps, Tryz.f34.results.toList, Tryz.f34.body.get!⟩ := by kernel_rfl
theorem fn35 : G.fn 35 = some ⟨Tryz.f35.ntmps, Tryz.f35.results.toList, Tryz.f35.body.get!⟩ := by kernel_rfl
theorem fn36 : G.fn 36 = some ⟨Tryz.f36.ntmps, Tryz.f36.results.toList, Tryz.f36.body.get!⟩ := by kernel_rfl
theorem fn37 : G.fn 37 = some ⟨Tryz.f37.ntmps, Tryz.f37.results.toList, Tryz.f37.body.get!⟩ := by kernel_rfl
theorem fn38 : G.fn 38 = some ⟨Tryz.f38.ntmps, Tryz.f38.results.toList, Tryz.f38.body.get!⟩ := by kernel_rfl
theorem fn39 : G.fn 39 = some ⟨Tryz.f39.ntmps, Tryz.f39.results.toList, Tryz.f39.body.get!⟩ := by kernel_rfl
theorem fn40 : G.fn 40 = some ⟨Tryz.f40.ntmps, Tryz.f40.results.toList, Tryz.f40.body.get!⟩ := by kernel_rfl
theorem fn41 : G.fn 41 = some ⟨Tryz.f41.ntmps, Tryz.f41.results.toList, Tryz.f41.body.get!⟩ := by kernel_rfl
theorem fn42 : G.fn 42 = some ⟨Tryz.f42.ntmps, Tryz.f42.results.toList, Tryz.f42.body.get!⟩ := by kernel_rfl
theorem fn43 : G.fn 43 = some ⟨Tryz.f43.ntmps, Tryz.f43.results.toList, Tryz.f43.body.get!⟩ := by kernel_rfl
theorem fn44 : G.fn 44 = some ⟨Tryz.f44.ntmps, Tryz.f44.results.toList, Tryz.f44.body.get!⟩ := by kernel_rfl
theorem fn45 : G.fn 45 = some ⟨Tryz.f45.ntmps, Tryz.f45.results.toList, Tryz.f45.body.get!⟩ := by kernel_rfl
theorem fn46 : G.fn 46 = some ⟨Tryz.f46.ntmps, Tryz.f46.results.toList, Tryz.f46.body.get!⟩ := by kernel_rfl
theorem fn47 : G.fn 47 = some ⟨Tryz.f47.ntmps, Tryz.f47.results.toList, Tryz.f47.body.get!⟩ := by kernel_rfl
theorem fn48 : G.fn 48 = some ⟨Tryz.f48.ntmps, Tryz.f48.results.toList, Tryz.f48.body.get!⟩ := by kernel_rfl
theorem fn49 : G.fn 49 = some ⟨Tryz.f49.ntmps, Tryz.f49.results.toList, Tryz.f49.body.get!⟩ := by kernel_rfl
theorem fn50 : G.fn 50 = some ⟨Tryz.f50.ntmps, Tryz.f50.results.toList, Tryz.f50.body.get!⟩ := by kernel_rfl
theorem fn51 : G.fn 51 = some ⟨Tryz.f51.ntmps, Tryz.f51.results.toList, Tryz.f51.body.get!⟩ := by kernel_rfl
theorem fn52 : G.fn 52 = some ⟨Tryz.f52.ntmps, Tryz.f52.results.toList, Tryz.f52.body.get!⟩ := by kernel_rfl
theorem fn53 : G.fn 53 = some ⟨Tryz.f53.ntmps, Tryz.f53.results.toList, Tryz.f53.body.get!⟩ := by kernel_rfl
theorem fn54 : G.fn 54 = some ⟨Tryz.f54.ntmps, Tryz.f54.results.toList, Tryz.f54.body.get!⟩ := by kernel_rfl
theorem fn55 : G.fn 55 = some ⟨Tryz.f55.ntmps, Tryz.f55.results.toList, Tryz.f55.body.get!⟩ := by kernel_rfl
theorem fn56 : G.fn 56 = some ⟨Tryz.f56.ntmps, Tryz.f56.results.toList, Tryz.f56.body.get!⟩ := by kernel_rfl
theorem fn57 : G.fn 57 = some ⟨Tryz.f57.ntmps, Tryz.f57.results.toList, Tryz.f57.body.get!⟩ := by kernel_rfl
theorem fn58 : G.fn 58 = some ⟨Tryz.f58.ntmps, Tryz.f58.results.toList, Tryz.f58.body.get!⟩ := by kernel_rfl
theorem fn59 : G.fn 59 = some ⟨Tryz.f59.ntmps, Tryz.f59.results.toList, Tryz.f59.body.get!⟩ := by kernel_rfl
theorem fn60 : G.fn 60 = some ⟨Tryz.f60.ntmps, Tryz.f60.results.toList, Tryz.f60.body.get!⟩ := by kernel_rfl
theorem fn61 : G.fn 61 = some ⟨Tryz.f61.ntmps, Tryz.f61.results.toList, Tryz.f61.body.get!⟩ := by kernel_rfl
theorem fn62 : G.fn 62 = some ⟨Tryz.f62.ntmps, Tryz.f62.results.toList, Tryz.f62.body.get!⟩ := by kernel_rfl
theorem fn63 : G.fn 63 = some ⟨Tryz.f63.ntmps, Tryz.f63.results.toList, Tryz.f63.body.get!⟩ := by kernel_rfl
theorem fn64 : G.fn 64 = some ⟨Tryz.f64.ntmps, Tryz.f64.results.toList, Tryz.f64.body.get!⟩ := by kernel_rfl
theorem fn65 : G.fn 65 = some ⟨Tryz.f65.ntmps, Tryz.f65.results.toList, Tryz.f65.body.get!⟩ := by kernel_rfl
theorem fn66 : G.fn 66 = some ⟨Tryz.f66.ntmps, Tryz.f66.results.toList, Tryz.f66.body.get!⟩ := by kernel_rfl
theorem fn67 : G.fn 67 = some ⟨Tryz.f67.ntmps, Tryz.f67.results.toList, Tryz.f67.body.get!⟩ := by kernel_rfl
theorem fn68 : G.fn 68 = some ⟨Tryz.f68.ntmps, Tryz.f68.results.toList, Tryz.f68.body.get!⟩ := by kernel_rfl
theorem fn69 : G.fn 69 = some ⟨Tryz.f69.ntmps, Tryz.f69.results.toList, Tryz.f69.body.get!⟩ := by kernel_rfl
theorem fn70 : G.fn 70 = some ⟨Tryz.f70.ntmps, Tryz.f70.results.toList, Tryz.f70.body.get!⟩ := by kernel_rfl
theorem fn71 : G.fn 71 = some ⟨Tryz.f71.ntmps, Tryz.f71.results.toList, Tryz.f71.body.get!⟩ := by kernel_rfl
theorem fn72 : G.fn 72 = some ⟨Tryz.f72.ntmps, Tryz.f72.results.toList, Tryz.f72.body.get!⟩ := by kernel_rfl
theorem fn73 : G.fn 73 = some ⟨Tryz.f73.ntmps, Tryz.f73.results.toList, Tryz.f73.body.get!⟩ := by kernel_rfl
theorem fn74 : G.fn 74 = some ⟨Tryz.f74.ntmps, Tryz.f74.results.toList, Tryz.f74.body.get!⟩ := by kernel_rfl
theorem fn75 : G.fn 75 = some ⟨Tryz.f75.ntmps, Tryz.f75.results.toList, Tryz.f75.body.get!⟩ := by kernel_rfl
theorem fn76 : G.fn 76 = some ⟨Tryz.f76.ntmps, Tryz.f76.results.toList, Tryz.f76.body.get!⟩ := by kernel_rfl
theorem fn77 : G.fn 77 = some ⟨Tryz.f77.ntmps, Tryz.f77.results.toList, Tryz.f77.body.get!⟩ := by kernel_rfl
theorem fn78 : G.fn 78 = some ⟨Tryz.f78.ntmps, Tryz.f78.results.toList, Tryz.f78.body.get!⟩ := by kernel_rfl
theorem fn79 : G.fn 79 = some ⟨Tryz.f79.ntmps, Tryz.f79.results.toList, Tryz.f79.body.get!⟩ := by kernel_rfl
theorem fn80 : G.fn 80 = some ⟨Tryz.f80.ntmps, Tryz.f80.results.toList, Tryz.f80.body.get!⟩ := by kernel_rfl
theorem fn81 : G.fn 81 = some ⟨Tryz.f81.ntmps, Tryz.f81.results.toList, Tryz.f81.body.get!⟩ := by kernel_rfl
theorem fn82 : G.fn 82 = some ⟨Tryz.f82.ntmps, Tryz.f82.results.toList, Tryz.f82.body.get!⟩ := by kernel_rfl
theorem fn83 : G.fn 83 = some ⟨Tryz.f83.ntmps, Tryz.f83.results.toList, Tryz.f83.body.get!⟩ := by kernel_rfl
theorem fn84 : G.fn 84 = some ⟨Tryz.f84.ntmps, Tryz.f84.results.toList, Tryz.f84.body.get!⟩ := by kernel_rfl
theorem fn85 : G.fn 85 = some ⟨Tryz.f85.ntmps, Tryz.f85.results.toList, Tryz.f85.body.get!⟩ := by kernel_rfl
theorem fn86 : G.fn 86 = some ⟨Tryz.f86.ntmps, Tryz.f86.results.toList, Tryz.f86.body.get!⟩ := by kernel_rfl
theorem fn87 : G.fn 87 = some ⟨Tryz.f87.ntmps, Tryz.f87.results.toList, Tryz.f87.body.get!⟩ := by kernel_rfl
theorem fn88 : G.fn 88 = some ⟨Tryz.f88.ntmps, Tryz.f88.results.toList, Tryz.f88.body.get!⟩ := by kernel_rfl
theorem fn89 : G.fn 89 = some ⟨Tryz.f89.ntmps, Tryz.f89.results.toList, Tryz.f89.body.get!⟩ := by kernel_rfl
theorem fn90 : G.fn 90 = some ⟨Tryz.f90.ntmps, Tryz.f90.results.toList, Tryz.f90.body.get!⟩ := by kernel_rfl
theorem fn91 : G.fn 91 = some ⟨Tryz.f91.ntmps, Tryz.f91.results.toList, Tryz.f91.body.get!⟩ := by kernel_rfl
theorem fn92 : G.fn 92 = some ⟨Tryz.f92.ntmps, Tryz.f92.results.toList, Tryz.f92.body.get!⟩ := by kernel_rfl
theorem fn93 : G.fn 93 = some ⟨Tryz.f93.ntmps, Tryz.f93.results.toList, Tryz.f93.body.get!⟩ := by kernel_rfl
theorem fn94 : G.fn 94 = some ⟨Tryz.f94.ntmps, Tryz.f94.results.toList, Tryz.f94.body.get!⟩ := by kernel_rfl
theorem fn95 : G.fn 95 = some ⟨Tryz.f95.ntmps, Tryz.f95.results.toList, Tryz.f95.body.get!⟩ := by kernel_rfl
theorem fn96 : G.fn 96 = some ⟨Tryz.f96.ntmps, Tryz.f96.results.toList, Tryz.f96.body.get!⟩ := by kernel_rfl
theorem fn97 : G.fn 97 = some ⟨Tryz.f97.ntmps, Tryz.f97.results.toList, Tryz.f97.body.get!⟩ := by kernel_rfl
theorem fn98 : G.fn 98 = some ⟨Tryz.f98.ntmps, Tryz.f98.results.toList, Tryz.f98.body.get!⟩ := by kernel_rfl
theorem fn99 : G.fn 99 = some ⟨Tryz.f99.ntmps, Tryz.f99.results.toList, Tryz.f99.body.get!⟩ := by kernel_rfl
theorem fn100 : G.fn 100 = some ⟨Tryz.f100.ntmps, Tryz.f100.results.toList, Tryz.f100.body.get!⟩ := by kernel_rfl
theorem fn101 : G.fn 101 = some ⟨Tryz.f101.ntmps, Tryz.f101.results.toList, Tryz.f101.body.get!⟩ := by kernel_rfl
theorem fn102 : G.fn 102 = some ⟨Tryz.f102.ntmps, Tryz.f102.results.toList, Tryz.f102.body.get!⟩ := by kernel_rfl
theorem fn103 : G.fn 103 = some ⟨Tryz.f103.ntmps, Tryz.f103.results.toList, Tryz.f103.body.get!⟩ := by kernel_rfl
theorem fn104 : G.fn 104 = some ⟨Tryz.f104.ntmps, Tryz.f104.results.toList, Tryz.f104.body.get!⟩ := by kernel_rfl
theorem fn105 : G.fn 105 = some ⟨Tryz.f105.ntmps, Tryz.f105.results.toList, Tryz.f105.body.get!⟩ := by kernel_rfl
theorem fn106 : G.fn 106 = some ⟨Tryz.f106.ntmps, Tryz.f106.results.toList, Tryz.f106.body.get!⟩ := by kernel_rfl
theorem fn107 : G.fn 107 = some ⟨Tryz.f107.ntmps, Tryz.f107.results.toList, Tryz.f107.body.get!⟩ := by kernel_rfl
theorem fn108 : G.fn 108 = some ⟨Tryz.f108.ntmps, Tryz.f108.results.toList, Tryz.f108.body.get!⟩ := by kernel_rfl
theorem fn109 : G.fn 109 = some ⟨Tryz.f109.ntmps, Tryz.f109.results.toList, Tryz.f109.body.get!⟩ := by kernel_rfl
theorem fn110 : G.fn 110 = some ⟨Tryz.f110.ntmps, Tryz.f110.results.toList, Tryz.f110.body.get!⟩ := by kernel_rfl
theorem fn111 : G.fn 111 = some ⟨Tryz.f111.ntmps, Tryz.f111.results.toList, Tryz.f111.body.get!⟩ := by kernel_rfl
theorem fn112 : G.fn 112 = some ⟨Tryz.f112.ntmps, Tryz.f112.results.toList, Tryz.f112.body.get!⟩ := by kernel_rfl
theorem fn113 : G.fn 113 = some ⟨Tryz.f113.ntmps, Tryz.f113.results.toList, Tryz.f113.body.get!⟩ := by kernel_rfl
end Go.Proofs.YtmlmgbnhaenabaaGreat
