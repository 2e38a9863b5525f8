/-
  The tables of the program as the machine reads it.
-/
import Derived.Test.YtmlmgbnhaenabaaRows
import Derived.Test.YtmlmgbnhaenabaaLd
set_option linter.unusedSimpArgs false
set_option linter.unusedVariables false
namespace Go.Proofs.Ytmlmgbnhaenabaa
open Go Go.Gm
def spec : FuncId → Nat → LSpec
  | 4, 0 => ⟨[0, 3, 4, 5, 6], [3, 4, 5], [3], [], [], 0⟩
  | 4, 2 => ⟨[3, 4, 5, 7, 8, 9], [2, 3, 4, 5, 7, 8], [], [], [], 0⟩
  | 5, 0 => ⟨[0, 1, 2, 7, 8], [0, 7], [], [], [], 0⟩
  | 6, 0 => ⟨[1, 5, 6, 7], [1, 5, 6], [], [], [6], 0⟩
  | 7, 0 => ⟨[0, 3, 4], [0, 2, 3], [], [], [], 0⟩
  | 7, 2 => ⟨[0, 3, 5, 6, 7], [0, 2, 5, 6], [5], [], [], 0⟩
  | 7, 4 => ⟨[0, 3, 5, 6, 7, 8, 9], [0, 3, 5, 6, 7, 8], [], [], [], 0⟩
  | 7, 6 => ⟨[0, 5, 6, 10], [0, 2, 5], [], [], [], 0⟩
  | 8, 0 => ⟨[0, 1, 5], [1, 4], [], [], [], 0⟩
  | 8, 2 => ⟨[0, 1, 5, 6], [0, 1, 4, 5], [], [], [], 0⟩
  | 11, 0 => ⟨[0, 1, 5], [4], [], [], [], 0⟩
  | 13, 0 => ⟨[3, 4, 5, 10, 11, 12], [3, 5], [], [(4, 0), (3, 0)], [], 2⟩
  | 14, 0 => ⟨[0, 3, 4], [3], [3], [], [], 0⟩
  | 16, 0 => ⟨[0, 3], [0, 2], [], [], [], 0⟩
  | 17, 0 => ⟨[0, 3], [2], [], [], [], 0⟩
  | 18, 0 => ⟨[3, 7, 8, 9], [3], [], [], [], 0⟩
  | 21, 0 => ⟨[3, 8, 9, 10], [3], [], [], [], 0⟩
  | 23, 0 => ⟨[1, 2, 15, 16, 17], [6], [], [], [], 0⟩
  | 25, 0 => ⟨[2, 3, 5], [4], [], [], [], 0⟩
  | 26, 0 => ⟨[0, 1, 5], [4], [], [], [], 0⟩
  | 28, 0 => ⟨[3, 6, 7, 8], [3], [3], [], [], 0⟩
  | 32, 0 => ⟨[0, 1, 7, 8, 9], [4], [], [], [], 0⟩
  | 33, 0 => ⟨[1, 6, 7, 8], [], [], [], [], 0⟩
  | 36, 0 => ⟨[1, 2, 5], [1, 2, 4], [], [], [], 0⟩
  | 36, 2 => ⟨[1, 2, 6], [1], [], [], [], 0⟩
  | 37, 0 => ⟨[0, 1, 5], [1, 4], [], [], [], 0⟩
  | 39, 0 => ⟨[0, 1, 12, 13], [4], [], [], [], 0⟩
  | 40, 0 => ⟨[2, 3, 5], [2, 3, 4], [], [], [], 0⟩
  | 40, 2 => ⟨[2, 3, 6], [4], [], [], [], 0⟩
  | 46, 0 => ⟨[0, 5], [], [], [], [], 0⟩
  | 48, 0 => ⟨[0, 1, 12, 13], [4], [], [], [], 0⟩
  | 49, 0 => ⟨[1, 2, 3, 11, 12, 13], [1, 2, 3], [3], [], [], 0⟩
  | 54, 0 => ⟨[0, 1, 2, 3, 8, 9], [], [], [], [], 0⟩
  | 56, 0 => ⟨[0, 1, 12, 13], [4], [], [], [], 0⟩
  | 57, 0 => ⟨[1, 2, 15, 16, 17], [6], [], [], [], 0⟩
  | 60, 0 => ⟨[0, 1, 2, 6], [], [], [], [], 0⟩
  | 60, 2 => ⟨[0, 1, 2, 6, 7], [0, 1, 2, 6], [], [], [], 0⟩
  | 61, 0 => ⟨[0, 6, 7, 8, 9], [0, 6, 7, 8], [], [], [], 0⟩
  | 61, 2 => ⟨[0, 6, 7, 10], [], [], [], [], 0⟩
  | 62, 0 => ⟨[0, 1, 6, 7, 8, 9], [], [], [], [], 0⟩
  | 64, 0 => ⟨[0, 6, 7], [], [], [], [], 0⟩
  | 65, 0 => ⟨[0, 1, 2, 7, 8], [6], [], [], [], 0⟩
  | 65, 2 => ⟨[0, 1, 2, 7, 8], [0, 1, 2, 7, 8], [], [], [], 0⟩
  | 65, 4 => ⟨[0, 1, 2, 7, 8, 9], [0, 1, 2, 7, 8], [], [], [], 0⟩
  | 65, 6 => ⟨[0, 1, 2, 7, 8, 10], [0, 1, 2, 7, 8], [], [], [], 0⟩
  | 67, 0 => ⟨[0, 1, 9, 10], [9], [], [], [], 0⟩
  | 67, 2 => ⟨[0, 1, 9, 10], [0, 1, 9, 10], [], [], [], 0⟩
  | 67, 4 => ⟨[0, 1, 9, 10], [0, 1, 9, 10], [], [], [], 0⟩
  | 68, 0 => ⟨[0, 1, 10, 11], [0, 1, 10, 11], [], [], [], 0⟩
  | 68, 2 => ⟨[0, 1, 10, 11], [0, 1, 10, 11], [], [], [], 0⟩
  | 68, 4 => ⟨[0, 1, 10, 11], [0, 1, 11], [], [], [], 0⟩
  | 68, 6 => ⟨[0, 1, 10, 11], [0, 1, 10, 11], [], [], [], 0⟩
  | 68, 8 => ⟨[0, 1, 10, 11], [0, 1, 10, 11], [], [], [], 0⟩
  | 72, 0 => ⟨[0, 5, 6, 7], [2], [], [], [], 0⟩
  | 73, 0 => ⟨[0, 2, 3, 8], [], [], [], [], 0⟩
  | 79, 0 => ⟨[1, 2, 31, 32, 33], [1, 6, 7], [], [], [], 0⟩
  | 88, 0 => ⟨[0, 5, 6, 7], [2], [], [], [], 0⟩
  | 93, 0 => ⟨[0, 1], [1], [], [], [], 0⟩
  | 98, 0 => ⟨[0, 1, 7, 8], [4], [], [], [], 0⟩
  | 99, 0 => ⟨[0, 1, 7, 8], [4], [], [], [], 0⟩
  | _, _ => {}
def ownedF (f : FuncId) : Bool := [].contains f
def keepF (f : FuncId) : Bool := [].contains f
def preF : FuncId → Nat → List Nat
  | _, _ => []
noncomputable def G : GP := gpOf Try.prog spec ownedF keepF preF
theorem own0 : G.owned 0 = false := rfl
theorem kp0 : G.keep 0 = false := rfl
theorem pr0 (i : Nat) : G.pre 0 i = [] := rfl
theorem own1 : G.owned 1 = false := rfl
theorem kp1 : G.keep 1 = false := rfl
theorem pr1 (i : Nat) : G.pre 1 i = [] := rfl
theorem own2 : G.owned 2 = false := rfl
theorem kp2 : G.keep 2 = false := rfl
theorem pr2 (i : Nat) : G.pre 2 i = [] := rfl
theorem own3 : G.owned 3 = false := rfl
theorem kp3 : G.keep 3 = false := rfl
theorem pr3 (i : Nat) : G.pre 3 i = [] := rfl
theorem own4 : G.owned 4 = false := rfl
theorem kp4 : G.keep 4 = false := rfl
theorem pr4 (i : Nat) : G.pre 4 i = [] := rfl
theorem own5 : G.owned 5 = false := rfl
theorem kp5 : G.keep 5 = false := rfl
theorem pr5 (i : Nat) : G.pre 5 i = [] := rfl
theorem own6 : G.owned 6 = false := rfl
theorem kp6 : G.keep 6 = false := rfl
theorem pr6 (i : Nat) : G.pre 6 i = [] := rfl
theorem own7 : G.owned 7 = false := rfl
theorem kp7 : G.keep 7 = false := rfl
theorem pr7 (i : Nat) : G.pre 7 i = [] := rfl
theorem own8 : G.owned 8 = false := rfl
theorem kp8 : G.keep 8 = false := rfl
theorem pr8 (i : Nat) : G.pre 8 i = [] := rfl
theorem own9 : G.owned 9 = false := rfl
theorem kp9 : G.keep 9 = false := rfl
theorem pr9 (i : Nat) : G.pre 9 i = [] := rfl
theorem own10 : G.owned 10 = false := rfl
theorem kp10 : G.keep 10 = false := rfl
theorem pr10 (i : Nat) : G.pre 10 i = [] := rfl
theorem own11 : G.owned 11 = false := rfl
theorem kp11 : G.keep 11 = false := rfl
theorem pr11 (i : Nat) : G.pre 11 i = [] := rfl
theorem own12 : G.owned 12 = false := rfl
theorem kp12 : G.keep 12 = false := rfl
theorem pr12 (i : Nat) : G.pre 12 i = [] := rfl
theorem own13 : G.owned 13 = false := rfl
theorem kp13 : G.keep 13 = false := rfl
theorem pr13 (i : Nat) : G.pre 13 i = [] := rfl
theorem own14 : G.owned 14 = false := rfl
theorem kp14 : G.keep 14 = false := rfl
theorem pr14 (i : Nat) : G.pre 14 i = [] := rfl
theorem own15 : G.owned 15 = false := rfl
theorem kp15 : G.keep 15 = false := rfl
theorem pr15 (i : Nat) : G.pre 15 i = [] := rfl
theorem own16 : G.owned 16 = false := rfl
theorem kp16 : G.keep 16 = false := rfl
theorem pr16 (i : Nat) : G.pre 16 i = [] := rfl
theorem own17 : G.owned 17 = false := rfl
theorem kp17 : G.keep 17 = false := rfl
theorem pr17 (i : Nat) : G.pre 17 i = [] := rfl
theorem own18 : G.owned 18 = false := rfl
theorem kp18 : G.keep 18 = false := rfl
theorem pr18 (i : Nat) : G.pre 18 i = [] := rfl
theorem own19 : G.owned 19 = false := rfl
theorem kp19 : G.keep 19 = false := rfl
theorem pr19 (i : Nat) : G.pre 19 i = [] := rfl
theorem own20 : G.owned 20 = false := rfl
theorem kp20 : G.keep 20 = false := rfl
theorem pr20 (i : Nat) : G.pre 20 i = [] := rfl
theorem own21 : G.owned 21 = false := rfl
theorem kp21 : G.keep 21 = false := rfl
theorem pr21 (i : Nat) : G.pre 21 i = [] := rfl
theorem own22 : G.owned 22 = false := rfl
theorem kp22 : G.keep 22 = false := rfl
theorem pr22 (i : Nat) : G.pre 22 i = [] := rfl
theorem own23 : G.owned 23 = false := rfl
theorem kp23 : G.keep 23 = false := rfl
theorem pr23 (i : Nat) : G.pre 23 i = [] := rfl
theorem own24 : G.owned 24 = false := rfl
theorem kp24 : G.keep 24 = false := rfl
theorem pr24 (i : Nat) : G.pre 24 i = [] := rfl
theorem own25 : G.owned 25 = false := rfl
theorem kp25 : G.keep 25 = false := rfl
theorem pr25 (i : Nat) : G.pre 25 i = [] := rfl
theorem own26 : G.owned 26 = false := rfl
theorem kp26 : G.keep 26 = false := rfl
theorem pr26 (i : Nat) : G.pre 26 i = [] := rfl
theorem own27 : G.owned 27 = false := rfl
theorem kp27 : G.keep 27 = false := rfl
theorem pr27 (i : Nat) : G.pre 27 i = [] := rfl
theorem own28 : G.owned 28 = false := rfl
theorem kp28 : G.keep 28 = false := rfl
theorem pr28 (i : Nat) : G.pre 28 i = [] := rfl
theorem own29 : G.owned 29 = false := rfl
theorem kp29 : G.keep 29 = false := rfl
theorem pr29 (i : Nat) : G.pre 29 i = [] := rfl
theorem own30 : G.owned 30 = false := rfl
theorem kp30 : G.keep 30 = false := rfl
theorem pr30 (i : Nat) : G.pre 30 i = [] := rfl
theorem own31 : G.owned 31 = false := rfl
theorem kp31 : G.keep 31 = false := rfl
theorem pr31 (i : Nat) : G.pre 31 i = [] := rfl
theorem own32 : G.owned 32 = false := rfl
theorem kp32 : G.keep 32 = false := rfl
theorem pr32 (i : Nat) : G.pre 32 i = [] := rfl
theorem own33 : G.owned 33 = false := rfl
theorem kp33 : G.keep 33 = false := rfl
theorem pr33 (i : Nat) : G.pre 33 i = [] := rfl
theorem own34 : G.owned 34 = false := rfl
theorem kp34 : G.keep 34 = false := rfl
theorem pr34 (i : Nat) : G.pre 34 i = [] := rfl
theorem own35 : G.owned 35 = false := rfl
theorem kp35 : G.keep 35 = false := rfl
theorem pr35 (i : Nat) : G.pre 35 i = [] := rfl
theorem own36 : G.owned 36 = false := rfl
theorem kp36 : G.keep 36 = false := rfl
theorem pr36 (i : Nat) : G.pre 36 i = [] := rfl
theorem own37 : G.owned 37 = false := rfl
theorem kp37 : G.keep 37 = false := rfl
theorem pr37 (i : Nat) : G.pre 37 i = [] := rfl
theorem own38 : G.owned 38 = false := rfl
theorem kp38 : G.keep 38 = false := rfl
theorem pr38 (i : Nat) : G.pre 38 i = [] := rfl
theorem own39 : G.owned 39 = false := rfl
theorem kp39 : G.keep 39 = false := rfl
theorem pr39 (i : Nat) : G.pre 39 i = [] := rfl
theorem own40 : G.owned 40 = false := rfl
theorem kp40 : G.keep 40 = false := rfl
theorem pr40 (i : Nat) : G.pre 40 i = [] := rfl
theorem own41 : G.owned 41 = false := rfl
theorem kp41 : G.keep 41 = false := rfl
theorem pr41 (i : Nat) : G.pre 41 i = [] := rfl
theorem own42 : G.owned 42 = false := rfl
theorem kp42 : G.keep 42 = false := rfl
theorem pr42 (i : Nat) : G.pre 42 i = [] := rfl
theorem own43 : G.owned 43 = false := rfl
theorem kp43 : G.keep 43 = false := rfl
theorem pr43 (i : Nat) : G.pre 43 i = [] := rfl
theorem own44 : G.owned 44 = false := rfl
theorem kp44 : G.keep 44 = false := rfl
theorem pr44 (i : Nat) : G.pre 44 i = [] := rfl
theorem own45 : G.owned 45 = false := rfl
theorem kp45 : G.keep 45 = false := rfl
theorem pr45 (i : Nat) : G.pre 45 i = [] := rfl
theorem own46 : G.owned 46 = false := rfl
theorem kp46 : G.keep 46 = false := rfl
theorem pr46 (i : Nat) : G.pre 46 i = [] := rfl
theorem own47 : G.owned 47 = false := rfl
theorem kp47 : G.keep 47 = false := rfl
theorem pr47 (i : Nat) : G.pre 47 i = [] := rfl
theorem own48 : G.owned 48 = false := rfl
theorem kp48 : G.keep 48 = false := rfl
theorem pr48 (i : Nat) : G.pre 48 i = [] := rfl
theorem own49 : G.owned 49 = false := rfl
theorem kp49 : G.keep 49 = false := rfl
theorem pr49 (i : Nat) : G.pre 49 i = [] := rfl
theorem own50 : G.owned 50 = false := rfl
theorem kp50 : G.keep 50 = false := rfl
theorem pr50 (i : Nat) : G.pre 50 i = [] := rfl
theorem own51 : G.owned 51 = false := rfl
theorem kp51 : G.keep 51 = false := rfl
theorem pr51 (i : Nat) : G.pre 51 i = [] := rfl
theorem own52 : G.owned 52 = false := rfl
theorem kp52 : G.keep 52 = false := rfl
theorem pr52 (i : Nat) : G.pre 52 i = [] := rfl
theorem own53 : G.owned 53 = false := rfl
theorem kp53 : G.keep 53 = false := rfl
theorem pr53 (i : Nat) : G.pre 53 i = [] := rfl
theorem own54 : G.owned 54 = false := rfl
theorem kp54 : G.keep 54 = false := rfl
theorem pr54 (i : Nat) : G.pre 54 i = [] := rfl
theorem own55 : G.owned 55 = false := rfl
theorem kp55 : G.keep 55 = false := rfl
theorem pr55 (i : Nat) : G.pre 55 i = [] := rfl
theorem own56 : G.owned 56 = false := rfl
theorem kp56 : G.keep 56 = false := rfl
theorem pr56 (i : Nat) : G.pre 56 i = [] := rfl
theorem own57 : G.owned 57 = false := rfl
theorem kp57 : G.keep 57 = false := rfl
theorem pr57 (i : Nat) : G.pre 57 i = [] := rfl
theorem own58 : G.owned 58 = false := rfl
theorem kp58 : G.keep 58 = false := rfl
theorem pr58 (i : Nat) : G.pre 58 i = [] := rfl
theorem own59 : G.owned 59 = false := rfl
theorem kp59 : G.keep 59 = false := rfl
theorem pr59 (i : Nat) : G.pre 59 i = [] := rfl
theorem own60 : G.owned 60 = false := rfl
theorem kp60 : G.keep 60 = false := rfl
theorem pr60 (i : Nat) : G.pre 60 i = [] := rfl
theorem own61 : G.owned 61 = false := rfl
theorem kp61 : G.keep 61 = false := rfl
theorem pr61 (i : Nat) : G.pre 61 i = [] := rfl
theorem own62 : G.owned 62 = false := rfl
theorem kp62 : G.keep 62 = false := rfl
theorem pr62 (i : Nat) : G.pre 62 i = [] := rfl
theorem own63 : G.owned 63 = false := rfl
theorem kp63 : G.keep 63 = false := rfl
theorem pr63 (i : Nat) : G.pre 63 i = [] := rfl
theorem own64 : G.owned 64 = false := rfl
theorem kp64 : G.keep 64 = false := rfl
theorem pr64 (i : Nat) : G.pre 64 i = [] := rfl
theorem own65 : G.owned 65 = false := rfl
theorem kp65 : G.keep 65 = false := rfl
theorem pr65 (i : Nat) : G.pre 65 i = [] := rfl
theorem own66 : G.owned 66 = false := rfl
theorem kp66 : G.keep 66 = false := rfl
theorem pr66 (i : Nat) : G.pre 66 i = [] := rfl
theorem own67 : G.owned 67 = false := rfl
theorem kp67 : G.keep 67 = false := rfl
theorem pr67 (i : Nat) : G.pre 67 i = [] := rfl
theorem own68 : G.owned 68 = false := rfl
theorem kp68 : G.keep 68 = false := rfl
theorem pr68 (i : Nat) : G.pre 68 i = [] := rfl
theorem own69 : G.owned 69 = false := rfl
theorem kp69 : G.keep 69 = false := rfl
theorem pr69 (i : Nat) : G.pre 69 i = [] := rfl
theorem own70 : G.owned 70 = false := rfl
theorem kp70 : G.keep 70 = false := rfl
theorem pr70 (i : Nat) : G.pre 70 i = [] := rfl
theorem own71 : G.owned 71 = false := rfl
theorem kp71 : G.keep 71 = false := rfl
theorem pr71 (i : Nat) : G.pre 71 i = [] := rfl
theorem own72 : G.owned 72 = false := rfl
theorem kp72 : G.keep 72 = false := rfl
theorem pr72 (i : Nat) : G.pre 72 i = [] := rfl
theorem own73 : G.owned 73 = false := rfl
theorem kp73 : G.keep 73 = false := rfl
theorem pr73 (i : Nat) : G.pre 73 i = [] := rfl
theorem own74 : G.owned 74 = false := rfl
theorem kp74 : G.keep 74 = false := rfl
theorem pr74 (i : Nat) : G.pre 74 i = [] := rfl
theorem own75 : G.owned 75 = false := rfl
theorem kp75 : G.keep 75 = false := rfl
theorem pr75 (i : Nat) : G.pre 75 i = [] := rfl
theorem own76 : G.owned 76 = false := rfl
theorem kp76 : G.keep 76 = false := rfl
theorem pr76 (i : Nat) : G.pre 76 i = [] := rfl
theorem own77 : G.owned 77 = false := rfl
theorem kp77 : G.keep 77 = false := rfl
theorem pr77 (i : Nat) : G.pre 77 i = [] := rfl
theorem own78 : G.owned 78 = false := rfl
theorem kp78 : G.keep 78 = false := rfl
theorem pr78 (i : Nat) : G.pre 78 i = [] := rfl
theorem own79 : G.owned 79 = false := rfl
theorem kp79 : G.keep 79 = false := rfl
theorem pr79 (i : Nat) : G.pre 79 i = [] := rfl
theorem own80 : G.owned 80 = false := rfl
theorem kp80 : G.keep 80 = false := rfl
theorem pr80 (i : Nat) : G.pre 80 i = [] := rfl
theorem own81 : G.owned 81 = false := rfl
theorem kp81 : G.keep 81 = false := rfl
theorem pr81 (i : Nat) : G.pre 81 i = [] := rfl
theorem own82 : G.owned 82 = false := rfl
theorem kp82 : G.keep 82 = false := rfl
theorem pr82 (i : Nat) : G.pre 82 i = [] := rfl
theorem own83 : G.owned 83 = false := rfl
theorem kp83 : G.keep 83 = false := rfl
theorem pr83 (i : Nat) : G.pre 83 i = [] := rfl
theorem own84 : G.owned 84 = false := rfl
theorem kp84 : G.keep 84 = false := rfl
theorem pr84 (i : Nat) : G.pre 84 i = [] := rfl
theorem own85 : G.owned 85 = false := rfl
theorem kp85 : G.keep 85 = false := rfl
theorem pr85 (i : Nat) : G.pre 85 i = [] := rfl
theorem own86 : G.owned 86 = false := rfl
theorem kp86 : G.keep 86 = false := rfl
theorem pr86 (i : Nat) : G.pre 86 i = [] := rfl
theorem own87 : G.owned 87 = false := rfl
theorem kp87 : G.keep 87 = false := rfl
theorem pr87 (i : Nat) : G.pre 87 i = [] := rfl
theorem own88 : G.owned 88 = false := rfl
theorem kp88 : G.keep 88 = false := rfl
theorem pr88 (i : Nat) : G.pre 88 i = [] := rfl
theorem own89 : G.owned 89 = false := rfl
theorem kp89 : G.keep 89 = false := rfl
theorem pr89 (i : Nat) : G.pre 89 i = [] := rfl
theorem own90 : G.owned 90 = false := rfl
theorem kp90 : G.keep 90 = false := rfl
theorem pr90 (i : Nat) : G.pre 90 i = [] := rfl
theorem own91 : G.owned 91 = false := rfl
theorem kp91 : G.keep 91 = false := rfl
theorem pr91 (i : Nat) : G.pre 91 i = [] := rfl
theorem own92 : G.owned 92 = false := rfl
theorem kp92 : G.keep 92 = false := rfl
theorem pr92 (i : Nat) : G.pre 92 i = [] := rfl
theorem own93 : G.owned 93 = false := rfl
theorem kp93 : G.keep 93 = false := rfl
theorem pr93 (i : Nat) : G.pre 93 i = [] := rfl
theorem own94 : G.owned 94 = false := rfl
theorem kp94 : G.keep 94 = false := rfl
theorem pr94 (i : Nat) : G.pre 94 i = [] := rfl
theorem own95 : G.owned 95 = false := rfl
theorem kp95 : G.keep 95 = false := rfl
theorem pr95 (i : Nat) : G.pre 95 i = [] := rfl
theorem own96 : G.owned 96 = false := rfl
theorem kp96 : G.keep 96 = false := rfl
theorem pr96 (i : Nat) : G.pre 96 i = [] := rfl
theorem own97 : G.owned 97 = false := rfl
theorem kp97 : G.keep 97 = false := rfl
theorem pr97 (i : Nat) : G.pre 97 i = [] := rfl
theorem own98 : G.owned 98 = false := rfl
theorem kp98 : G.keep 98 = false := rfl
theorem pr98 (i : Nat) : G.pre 98 i = [] := rfl
theorem own99 : G.owned 99 = false := rfl
theorem kp99 : G.keep 99 = false := rfl
theorem pr99 (i : Nat) : G.pre 99 i = [] := rfl
theorem own100 : G.owned 100 = false := rfl
theorem kp100 : G.keep 100 = false := rfl
theorem pr100 (i : Nat) : G.pre 100 i = [] := rfl
theorem own101 : G.owned 101 = false := rfl
theorem kp101 : G.keep 101 = false := rfl
theorem pr101 (i : Nat) : G.pre 101 i = [] := rfl
theorem own102 : G.owned 102 = false := rfl
theorem kp102 : G.keep 102 = false := rfl
theorem pr102 (i : Nat) : G.pre 102 i = [] := rfl
theorem own103 : G.owned 103 = false := rfl
theorem kp103 : G.keep 103 = false := rfl
theorem pr103 (i : Nat) : G.pre 103 i = [] := rfl
theorem own104 : G.owned 104 = false := rfl
theorem kp104 : G.keep 104 = false := rfl
theorem pr104 (i : Nat) : G.pre 104 i = [] := rfl
theorem own105 : G.owned 105 = false := rfl
theorem kp105 : G.keep 105 = false := rfl
theorem pr105 (i : Nat) : G.pre 105 i = [] := rfl
theorem own106 : G.owned 106 = false := rfl
theorem kp106 : G.keep 106 = false := rfl
theorem pr106 (i : Nat) : G.pre 106 i = [] := rfl
theorem own107 : G.owned 107 = false := rfl
theorem kp107 : G.keep 107 = false := rfl
theorem pr107 (i : Nat) : G.pre 107 i = [] := rfl
theorem own108 : G.owned 108 = false := rfl
theorem kp108 : G.keep 108 = false := rfl
theorem pr108 (i : Nat) : G.pre 108 i = [] := rfl
theorem own109 : G.owned 109 = false := rfl
theorem kp109 : G.keep 109 = false := rfl
theorem pr109 (i : Nat) : G.pre 109 i = [] := rfl
theorem own110 : G.owned 110 = false := rfl
theorem kp110 : G.keep 110 = false := rfl
theorem pr110 (i : Nat) : G.pre 110 i = [] := rfl
theorem own111 : G.owned 111 = false := rfl
theorem kp111 : G.keep 111 = false := rfl
theorem pr111 (i : Nat) : G.pre 111 i = [] := rfl
theorem own112 : G.owned 112 = false := rfl
theorem kp112 : G.keep 112 = false := rfl
theorem pr112 (i : Nat) : G.pre 112 i = [] := rfl
theorem own113 : G.owned 113 = false := rfl
theorem kp113 : G.keep 113 = false := rfl
theorem pr113 (i : Nat) : G.pre 113 i = [] := rfl
theorem own114 : G.owned 114 = false := rfl
theorem kp114 : G.keep 114 = false := rfl
theorem pr114 (i : Nat) : G.pre 114 i = [] := rfl
theorem own115 : G.owned 115 = false := rfl
theorem kp115 : G.keep 115 = false := rfl
theorem pr115 (i : Nat) : G.pre 115 i = [] := rfl
theorem sp4_0 : G.spec 4 0 = ⟨[0, 3, 4, 5, 6], [3, 4, 5], [3], [], [], 0⟩ := rfl
theorem sp4_2 : G.spec 4 2 = ⟨[3, 4, 5, 7, 8, 9], [2, 3, 4, 5, 7, 8], [], [], [], 0⟩ := rfl
theorem sp5_0 : G.spec 5 0 = ⟨[0, 1, 2, 7, 8], [0, 7], [], [], [], 0⟩ := rfl
theorem sp6_0 : G.spec 6 0 = ⟨[1, 5, 6, 7], [1, 5, 6], [], [], [6], 0⟩ := rfl
theorem sp7_0 : G.spec 7 0 = ⟨[0, 3, 4], [0, 2, 3], [], [], [], 0⟩ := rfl
theorem sp7_2 : G.spec 7 2 = ⟨[0, 3, 5, 6, 7], [0, 2, 5, 6], [5], [], [], 0⟩ := rfl
theorem sp7_4 : G.spec 7 4 = ⟨[0, 3, 5, 6, 7, 8, 9], [0, 3, 5, 6, 7, 8], [], [], [], 0⟩ := rfl
theorem sp7_6 : G.spec 7 6 = ⟨[0, 5, 6, 10], [0, 2, 5], [], [], [], 0⟩ := rfl
theorem sp8_0 : G.spec 8 0 = ⟨[0, 1, 5], [1, 4], [], [], [], 0⟩ := rfl
theorem sp8_2 : G.spec 8 2 = ⟨[0, 1, 5, 6], [0, 1, 4, 5], [], [], [], 0⟩ := rfl
theorem sp11_0 : G.spec 11 0 = ⟨[0, 1, 5], [4], [], [], [], 0⟩ := rfl
theorem sp13_0 : G.spec 13 0 = ⟨[3, 4, 5, 10, 11, 12], [3, 5], [], [(4, 0), (3, 0)], [], 2⟩ := rfl
theorem sp14_0 : G.spec 14 0 = ⟨[0, 3, 4], [3], [3], [], [], 0⟩ := rfl
theorem sp16_0 : G.spec 16 0 = ⟨[0, 3], [0, 2], [], [], [], 0⟩ := rfl
theorem sp17_0 : G.spec 17 0 = ⟨[0, 3], [2], [], [], [], 0⟩ := rfl
theorem sp18_0 : G.spec 18 0 = ⟨[3, 7, 8, 9], [3], [], [], [], 0⟩ := rfl
theorem sp21_0 : G.spec 21 0 = ⟨[3, 8, 9, 10], [3], [], [], [], 0⟩ := rfl
theorem sp23_0 : G.spec 23 0 = ⟨[1, 2, 15, 16, 17], [6], [], [], [], 0⟩ := rfl
theorem sp25_0 : G.spec 25 0 = ⟨[2, 3, 5], [4], [], [], [], 0⟩ := rfl
theorem sp26_0 : G.spec 26 0 = ⟨[0, 1, 5], [4], [], [], [], 0⟩ := rfl
theorem sp28_0 : G.spec 28 0 = ⟨[3, 6, 7, 8], [3], [3], [], [], 0⟩ := rfl
theorem sp32_0 : G.spec 32 0 = ⟨[0, 1, 7, 8, 9], [4], [], [], [], 0⟩ := rfl
theorem sp33_0 : G.spec 33 0 = ⟨[1, 6, 7, 8], [], [], [], [], 0⟩ := rfl
theorem sp36_0 : G.spec 36 0 = ⟨[1, 2, 5], [1, 2, 4], [], [], [], 0⟩ := rfl
theorem sp36_2 : G.spec 36 2 = ⟨[1, 2, 6], [1], [], [], [], 0⟩ := rfl
theorem sp37_0 : G.spec 37 0 = ⟨[0, 1, 5], [1, 4], [], [], [], 0⟩ := rfl
theorem sp39_0 : G.spec 39 0 = ⟨[0, 1, 12, 13], [4], [], [], [], 0⟩ := rfl
theorem sp40_0 : G.spec 40 0 = ⟨[2, 3, 5], [2, 3, 4], [], [], [], 0⟩ := rfl
theorem sp40_2 : G.spec 40 2 = ⟨[2, 3, 6], [4], [], [], [], 0⟩ := rfl
theorem sp46_0 : G.spec 46 0 = ⟨[0, 5], [], [], [], [], 0⟩ := rfl
theorem sp48_0 : G.spec 48 0 = ⟨[0, 1, 12, 13], [4], [], [], [], 0⟩ := rfl
theorem sp49_0 : G.spec 49 0 = ⟨[1, 2, 3, 11, 12, 13], [1, 2, 3], [3], [], [], 0⟩ := rfl
theorem sp54_0 : G.spec 54 0 = ⟨[0, 1, 2, 3, 8, 9], [], [], [], [], 0⟩ := rfl
theorem sp56_0 : G.spec 56 0 = ⟨[0, 1, 12, 13], [4], [], [], [], 0⟩ := rfl
theorem sp57_0 : G.spec 57 0 = ⟨[1, 2, 15, 16, 17], [6], [], [], [], 0⟩ := rfl
theorem sp60_0 : G.spec 60 0 = ⟨[0, 1, 2, 6], [], [], [], [], 0⟩ := rfl
theorem sp60_2 : G.spec 60 2 = ⟨[0, 1, 2, 6, 7], [0, 1, 2, 6], [], [], [], 0⟩ := rfl
theorem sp61_0 : G.spec 61 0 = ⟨[0, 6, 7, 8, 9], [0, 6, 7, 8], [], [], [], 0⟩ := rfl
theorem sp61_2 : G.spec 61 2 = ⟨[0, 6, 7, 10], [], [], [], [], 0⟩ := rfl
theorem sp62_0 : G.spec 62 0 = ⟨[0, 1, 6, 7, 8, 9], [], [], [], [], 0⟩ := rfl
theorem sp64_0 : G.spec 64 0 = ⟨[0, 6, 7], [], [], [], [], 0⟩ := rfl
theorem sp65_0 : G.spec 65 0 = ⟨[0, 1, 2, 7, 8], [6], [], [], [], 0⟩ := rfl
theorem sp65_2 : G.spec 65 2 = ⟨[0, 1, 2, 7, 8], [0, 1, 2, 7, 8], [], [], [], 0⟩ := rfl
theorem sp65_4 : G.spec 65 4 = ⟨[0, 1, 2, 7, 8, 9], [0, 1, 2, 7, 8], [], [], [], 0⟩ := rfl
theorem sp65_6 : G.spec 65 6 = ⟨[0, 1, 2, 7, 8, 10], [0, 1, 2, 7, 8], [], [], [], 0⟩ := rfl
theorem sp67_0 : G.spec 67 0 = ⟨[0, 1, 9, 10], [9], [], [], [], 0⟩ := rfl
theorem sp67_2 : G.spec 67 2 = ⟨[0, 1, 9, 10], [0, 1, 9, 10], [], [], [], 0⟩ := rfl
theorem sp67_4 : G.spec 67 4 = ⟨[0, 1, 9, 10], [0, 1, 9, 10], [], [], [], 0⟩ := rfl
theorem sp68_0 : G.spec 68 0 = ⟨[0, 1, 10, 11], [0, 1, 10, 11], [], [], [], 0⟩ := rfl
theorem sp68_2 : G.spec 68 2 = ⟨[0, 1, 10, 11], [0, 1, 10, 11], [], [], [], 0⟩ := rfl
theorem sp68_4 : G.spec 68 4 = ⟨[0, 1, 10, 11], [0, 1, 11], [], [], [], 0⟩ := rfl
theorem sp68_6 : G.spec 68 6 = ⟨[0, 1, 10, 11], [0, 1, 10, 11], [], [], [], 0⟩ := rfl
theorem sp68_8 : G.spec 68 8 = ⟨[0, 1, 10, 11], [0, 1, 10, 11], [], [], [], 0⟩ := rfl
theorem sp72_0 : G.spec 72 0 = ⟨[0, 5, 6, 7], [2], [], [], [], 0⟩ := rfl
theorem sp73_0 : G.spec 73 0 = ⟨[0, 2, 3, 8], [], [], [], [], 0⟩ := rfl
theorem sp79_0 : G.spec 79 0 = ⟨[1, 2, 31, 32, 33], [1, 6, 7], [], [], [], 0⟩ := rfl
theorem sp88_0 : G.spec 88 0 = ⟨[0, 5, 6, 7], [2], [], [], [], 0⟩ := rfl
theorem sp93_0 : G.spec 93 0 = ⟨[0, 1], [1], [], [], [], 0⟩ := rfl
theorem sp98_0 : G.spec 98 0 = ⟨[0, 1, 7, 8], [4], [], [], [], 0⟩ := rfl
theorem sp99_0 : G.spec 99 0 = ⟨[0, 1, 7, 8], [4], [], [], [], 0⟩ := rfl
theorem ti1 : G.ti 1 = some ⟨1, 8, .func, [.nilfn], false⟩ := by kernel_rfl
theorem ti2 : G.ti 2 = some ⟨1, 8, .int .i64, [.int .i64 0], false⟩ := by kernel_rfl
theorem ti3 : G.ti 3 = some ⟨1, 8, .int .i64, [.int .i64 0], false⟩ := by kernel_rfl
theorem ti4 : G.ti 4 = some ⟨1, 1, .bool, [.bool false], false⟩ := by kernel_rfl
theorem ti5 : G.ti 5 = some ⟨1, 1, .int .u8, [.int .u8 0], false⟩ := by kernel_rfl
theorem ti6 : G.ti 6 = some ⟨1, 1, .int .u8, [.int .u8 0], false⟩ := by kernel_rfl
theorem ti7 : G.ti 7 = some ⟨4, 24, .struct [(0, 1, 2), (1, 1, 3), (2, 1, 4), (3, 1, 6)], [.int .i64 0, .int .i64 0, .bool false, .int .u8 0], true⟩ := by kernel_rfl
theorem ti8 : G.ti 8 = some ⟨4, 24, .struct [(0, 1, 2), (1, 1, 3), (2, 1, 4), (3, 1, 6)], [.int .i64 0, .int .i64 0, .bool false, .int .u8 0], true⟩ := by kernel_rfl
theorem ti9 : G.ti 9 = some ⟨1, 16, .string, [.str []], false⟩ := by kernel_rfl
theorem ti10 : G.ti 10 = some ⟨1, 16, .string, [.str []], false⟩ := by kernel_rfl
theorem ti11 : G.ti 11 = some ⟨1, 16, .string, [.str []], false⟩ := by kernel_rfl
theorem ti12 : G.ti 12 = some ⟨1, 8, .int .u64, [.int .u64 0], false⟩ := by kernel_rfl
theorem ti13 : G.ti 13 = some ⟨2, 24, .struct [(0, 1, 9), (1, 1, 12)], [.str [], .int .u64 0], false⟩ := by kernel_rfl
theorem ti14 : G.ti 14 = some ⟨2, 24, .struct [(0, 1, 9), (1, 1, 12)], [.str [], .int .u64 0], false⟩ := by kernel_rfl
theorem ti15 : G.ti 15 = some ⟨1, 8, .ptr, [.nilptr], false⟩ := by kernel_rfl
theorem ti16 : G.ti 16 = some ⟨1, 8, .ptr, [.nilptr], false⟩ := by kernel_rfl
theorem ti17 : G.ti 17 = some ⟨1, 8, .ptr, [.nilptr], false⟩ := by kernel_rfl
theorem ti18 : G.ti 18 = some ⟨1, 8, .struct [(0, 1, 17)], [.nilptr], false⟩ := by kernel_rfl
theorem ti19 : G.ti 19 = some ⟨1, 8, .struct [(0, 1, 17)], [.nilptr], false⟩ := by kernel_rfl
theorem ti20 : G.ti 20 = some ⟨1, 16, .other, [.nilif], false⟩ := by kernel_rfl
theorem ti21 : G.ti 21 = some ⟨1, 4, .int .i32, [.int .i32 0], false⟩ := by kernel_rfl
theorem ti22 : G.ti 22 = some ⟨1, 24, .slice 35, [.sl true 0 []], false⟩ := by kernel_rfl
theorem ti23 : G.ti 23 = some ⟨1, 8, .func, [.nilfn], false⟩ := by kernel_rfl
theorem ti24 : G.ti 24 = some ⟨1, 8, .func, [.nilfn], false⟩ := by kernel_rfl
theorem ti25 : G.ti 25 = some ⟨1, 8, .func, [.nilfn], false⟩ := by kernel_rfl
theorem ti26 : G.ti 26 = some ⟨1, 24, .slice 74, [.sl true 0 []], false⟩ := by kernel_rfl
theorem ti27 : G.ti 27 = some ⟨1, 24, .slice 29, [.sl true 0 []], false⟩ := by kernel_rfl
theorem ti28 : G.ti 28 = some ⟨8, 104, .struct [(0, 1, 3), (1, 1, 9), (2, 1, 4), (3, 1, 26), (4, 1, 3), (5, 1, 3), (6, 1, 4), (7, 1, 27)], [.int .i64 0, .str [], .bool false, .sl true 0 [], .int .i64 0, .int .i64 0, .bool false, .sl true 0 []], true⟩ := by kernel_rfl
theorem ti29 : G.ti 29 = some ⟨8, 104, .struct [(0, 1, 3), (1, 1, 9), (2, 1, 4), (3, 1, 26), (4, 1, 3), (5, 1, 3), (6, 1, 4), (7, 1, 27)], [.int .i64 0, .str [], .bool false, .sl true 0 [], .int .i64 0, .int .i64 0, .bool false, .sl true 0 []], true⟩ := by kernel_rfl
theorem ti30 : G.ti 30 = some ⟨1, 24, .slice 67, [.sl true 0 []], false⟩ := by kernel_rfl
theorem ti31 : G.ti 31 = some ⟨11, 136, .struct [(0, 8, 29), (8, 1, 30), (9, 1, 4), (10, 1, 4)], [.int .i64 0, .str [], .bool false, .sl true 0 [], .int .i64 0, .int .i64 0, .bool false, .sl true 0 [], .sl true 0 [], .bool false, .bool false], false⟩ := by kernel_rfl
theorem ti32 : G.ti 32 = some ⟨11, 136, .struct [(0, 8, 29), (8, 1, 30), (9, 1, 4), (10, 1, 4)], [.int .i64 0, .str [], .bool false, .sl true 0 [], .int .i64 0, .int .i64 0, .bool false, .sl true 0 [], .sl true 0 [], .bool false, .bool false], false⟩ := by kernel_rfl
theorem ti33 : G.ti 33 = some ⟨1, 24, .slice 9, [.sl true 0 []], false⟩ := by kernel_rfl
theorem ti34 : G.ti 34 = some ⟨18, 224, .struct [(0, 1, 3), (1, 1, 9), (2, 1, 3), (3, 1, 4), (4, 1, 4), (5, 11, 32), (16, 1, 33), (17, 1, 22)], [.int .i64 0, .str [], .int .i64 0, .bool false, .bool false, .int .i64 0, .str [], .bool false, .sl true 0 [], .int .i64 0, .int .i64 0, .bool false, .sl true 0 [], .sl true 0 [], .bool false, .bool false, .sl true 0 [], .sl true 0 []], false⟩ := by kernel_rfl
theorem ti35 : G.ti 35 = some ⟨18, 224, .struct [(0, 1, 3), (1, 1, 9), (2, 1, 3), (3, 1, 4), (4, 1, 4), (5, 11, 32), (16, 1, 33), (17, 1, 22)], [.int .i64 0, .str [], .int .i64 0, .bool false, .bool false, .int .i64 0, .str [], .bool false, .sl true 0 [], .int .i64 0, .int .i64 0, .bool false, .sl true 0 [], .sl true 0 [], .bool false, .bool false, .sl true 0 [], .sl true 0 []], false⟩ := by kernel_rfl
theorem ti36 : G.ti 36 = some ⟨1, 8, .func, [.nilfn], false⟩ := by kernel_rfl
theorem ti37 : G.ti 37 = some ⟨1, 8, .func, [.nilfn], false⟩ := by kernel_rfl
theorem ti38 : G.ti 38 = some ⟨1, 8, .func, [.nilfn], false⟩ := by kernel_rfl
theorem ti39 : G.ti 39 = some ⟨1, 8, .func, [.nilfn], false⟩ := by kernel_rfl
theorem ti40 : G.ti 40 = some ⟨1, 8, .func, [.nilfn], false⟩ := by kernel_rfl
theorem ti41 : G.ti 41 = some ⟨1, 24, .slice 5, [.sl true 0 []], false⟩ := by kernel_rfl
theorem ti42 : G.ti 42 = some ⟨1, 8, .func, [.nilfn], false⟩ := by kernel_rfl
theorem ti43 : G.ti 43 = some ⟨1, 8, .func, [.nilfn], false⟩ := by kernel_rfl
theorem ti44 : G.ti 44 = some ⟨1, 8, .func, [.nilfn], false⟩ := by kernel_rfl
theorem ti45 : G.ti 45 = some ⟨1, 8, .func, [.nilfn], false⟩ := by kernel_rfl
theorem ti46 : G.ti 46 = some ⟨1, 24, .slice 3, [.sl true 0 []], false⟩ := by kernel_rfl
theorem ti47 : G.ti 47 = some ⟨1, 8, .func, [.nilfn], false⟩ := by kernel_rfl
theorem ti48 : G.ti 48 = some ⟨1, 24, .slice 4, [.sl true 0 []], false⟩ := by kernel_rfl
theorem ti49 : G.ti 49 = some ⟨1, 8, .func, [.nilfn], false⟩ := by kernel_rfl
theorem ti50 : G.ti 50 = some ⟨1, 8, .func, [.nilfn], false⟩ := by kernel_rfl
theorem ti51 : G.ti 51 = some ⟨1, 8, .func, [.nilfn], false⟩ := by kernel_rfl
theorem ti52 : G.ti 52 = some ⟨1, 8, .func, [.nilfn], false⟩ := by kernel_rfl
theorem ti53 : G.ti 53 = some ⟨1, 8, .func, [.nilfn], false⟩ := by kernel_rfl
theorem ti54 : G.ti 54 = some ⟨1, 8, .int .u64, [.int .u64 0], false⟩ := by kernel_rfl
theorem ti55 : G.ti 55 = some ⟨1, 8, .func, [.nilfn], false⟩ := by kernel_rfl
theorem ti56 : G.ti 56 = some ⟨1, 8, .func, [.nilfn], false⟩ := by kernel_rfl
theorem ti57 : G.ti 57 = some ⟨1, 8, .map 3 3, [.nilmap], false⟩ := by kernel_rfl
theorem ti58 : G.ti 58 = some ⟨1, 8, .func, [.nilfn], false⟩ := by kernel_rfl
theorem ti59 : G.ti 59 = some ⟨1, 8, .func, [.nilfn], false⟩ := by kernel_rfl
theorem ti60 : G.ti 60 = some ⟨1, 8, .func, [.nilfn], false⟩ := by kernel_rfl
theorem ti61 : G.ti 61 = some ⟨1, 8, .func, [.nilfn], false⟩ := by kernel_rfl
theorem ti62 : G.ti 62 = some ⟨1, 8, .func, [.nilfn], false⟩ := by kernel_rfl
theorem ti63 : G.ti 63 = some ⟨1, 8, .func, [.nilfn], false⟩ := by kernel_rfl
theorem ti64 : G.ti 64 = some ⟨1, 8, .func, [.nilfn], false⟩ := by kernel_rfl
theorem ti65 : G.ti 65 = some ⟨1, 8, .func, [.nilfn], false⟩ := by kernel_rfl
theorem ti66 : G.ti 66 = some ⟨5, 56, .struct [(0, 1, 3), (1, 1, 3), (2, 1, 3), (3, 1, 9), (4, 1, 9)], [.int .i64 0, .int .i64 0, .int .i64 0, .str [], .str []], true⟩ := by kernel_rfl
theorem ti67 : G.ti 67 = some ⟨5, 56, .struct [(0, 1, 3), (1, 1, 3), (2, 1, 3), (3, 1, 9), (4, 1, 9)], [.int .i64 0, .int .i64 0, .int .i64 0, .str [], .str []], true⟩ := by kernel_rfl
theorem ti68 : G.ti 68 = some ⟨1, 8, .func, [.nilfn], false⟩ := by kernel_rfl
theorem ti69 : G.ti 69 = some ⟨1, 8, .func, [.nilfn], false⟩ := by kernel_rfl
theorem ti70 : G.ti 70 = some ⟨1, 8, .func, [.nilfn], false⟩ := by kernel_rfl
theorem ti71 : G.ti 71 = some ⟨1, 8, .func, [.nilfn], false⟩ := by kernel_rfl
theorem ti72 : G.ti 72 = some ⟨1, 8, .func, [.nilfn], false⟩ := by kernel_rfl
theorem ti73 : G.ti 73 = some ⟨2, 32, .struct [(0, 1, 9), (1, 1, 9)], [.str [], .str []], true⟩ := by kernel_rfl
theorem ti74 : G.ti 74 = some ⟨2, 32, .struct [(0, 1, 9), (1, 1, 9)], [.str [], .str []], true⟩ := by kernel_rfl
theorem ti75 : G.ti 75 = some ⟨1, 8, .func, [.nilfn], false⟩ := by kernel_rfl
theorem ti76 : G.ti 76 = some ⟨1, 8, .func, [.nilfn], false⟩ := by kernel_rfl
theorem ti77 : G.ti 77 = some ⟨1, 8, .func, [.nilfn], false⟩ := by kernel_rfl
theorem ti78 : G.ti 78 = some ⟨1, 8, .func, [.nilfn], false⟩ := by kernel_rfl
theorem ti79 : G.ti 79 = some ⟨1, 8, .func, [.nilfn], false⟩ := by kernel_rfl
theorem ti80 : G.ti 80 = some ⟨1, 8, .func, [.nilfn], false⟩ := by kernel_rfl
theorem ti81 : G.ti 81 = some ⟨1, 8, .func, [.nilfn], false⟩ := by kernel_rfl
theorem ti82 : G.ti 82 = some ⟨1, 8, .func, [.nilfn], false⟩ := by kernel_rfl
theorem ti83 : G.ti 83 = some ⟨1, 8, .func, [.nilfn], false⟩ := by kernel_rfl
theorem ti84 : G.ti 84 = some ⟨1, 8, .func, [.nilfn], false⟩ := by kernel_rfl
theorem ti85 : G.ti 85 = some ⟨1, 8, .func, [.nilfn], false⟩ := by kernel_rfl
theorem ti86 : G.ti 86 = some ⟨1, 8, .int .i64, [.int .i64 0], false⟩ := by kernel_rfl
theorem ti88 : G.ti 88 = some ⟨1, 8, .func, [.nilfn], false⟩ := by kernel_rfl
theorem ti89 : G.ti 89 = some ⟨1, 8, .func, [.nilfn], false⟩ := by kernel_rfl
theorem ti90 : G.ti 90 = some ⟨1, 8, .func, [.nilfn], false⟩ := by kernel_rfl
theorem ti92 : G.ti 92 = some ⟨1, 8, .func, [.nilfn], false⟩ := by kernel_rfl
theorem ti93 : G.ti 93 = some ⟨1, 8, .func, [.nilfn], false⟩ := by kernel_rfl
theorem ti94 : G.ti 94 = some ⟨1, 4, .int .u32, [.int .u32 0], false⟩ := by kernel_rfl
theorem ti95 : G.ti 95 = some ⟨1, 8, .func, [.nilfn], false⟩ := by kernel_rfl
theorem ti96 : G.ti 96 = some ⟨1, 8, .int .u64, [.int .u64 0], false⟩ := by kernel_rfl
theorem ti97 : G.ti 97 = some ⟨1, 8, .func, [.nilfn], false⟩ := by kernel_rfl
theorem ti98 : G.ti 98 = some ⟨1, 8, .func, [.nilfn], false⟩ := by kernel_rfl
theorem ti99 : G.ti 99 = some ⟨1, 8, .int .u64, [.int .u64 0], false⟩ := by kernel_rfl
theorem ti100 : G.ti 100 = some ⟨1, 8, .func, [.nilfn], false⟩ := by kernel_rfl
theorem ti101 : G.ti 101 = some ⟨1, 8, .func, [.nilfn], false⟩ := by kernel_rfl
theorem ti102 : G.ti 102 = some ⟨1, 8, .func, [.nilfn], false⟩ := by kernel_rfl
theorem ti103 : G.ti 103 = some ⟨1, 8, .ptr, [.nilptr], false⟩ := by kernel_rfl
theorem ti104 : G.ti 104 = some ⟨1, 8, .func, [.nilfn], false⟩ := by kernel_rfl
theorem ti105 : G.ti 105 = some ⟨1, 8, .func, [.nilfn], false⟩ := by kernel_rfl
theorem ti106 : G.ti 106 = some ⟨1, 8, .func, [.nilfn], false⟩ := by kernel_rfl
theorem ti107 : G.ti 107 = some ⟨1, 8, .ptr, [.nilptr], false⟩ := by kernel_rfl
theorem ti109 : G.ti 109 = some ⟨1, 8, .func, [.nilfn], false⟩ := by kernel_rfl
theorem ti110 : G.ti 110 = some ⟨1, 8, .func, [.nilfn], false⟩ := by kernel_rfl
theorem ti111 : G.ti 111 = some ⟨1, 8, .func, [.nilfn], false⟩ := by kernel_rfl
theorem ti112 : G.ti 112 = some ⟨1, 8, .func, [.nilfn], false⟩ := by kernel_rfl
theorem ti113 : G.ti 113 = some ⟨1, 8, .func, [.nilfn], false⟩ := by kernel_rfl
theorem ti114 : G.ti 114 = some ⟨1, 8, .func, [.nilfn], false⟩ := by kernel_rfl
theorem ti115 : G.ti 115 = some ⟨1, 8, .func, [.nilfn], false⟩ := by kernel_rfl
theorem ti116 : G.ti 116 = some ⟨1, 8, .func, [.nilfn], false⟩ := by kernel_rfl
theorem ti117 : G.ti 117 = some ⟨1, 8, .func, [.nilfn], false⟩ := by kernel_rfl
theorem ti118 : G.ti 118 = some ⟨1, 8, .func, [.nilfn], false⟩ := by kernel_rfl
theorem ti119 : G.ti 119 = some ⟨1, 8, .func, [.nilfn], false⟩ := by kernel_rfl
theorem ti120 : G.ti 120 = some ⟨1, 8, .func, [.nilfn], false⟩ := by kernel_rfl
theorem ti121 : G.ti 121 = some ⟨1, 8, .func, [.nilfn], false⟩ := by kernel_rfl
theorem ti122 : G.ti 122 = some ⟨4, 40, .struct [(0, 1, 17), (1, 1, 17), (2, 1, 17), (3, 1, 9)], [.nilptr, .nilptr, .nilptr, .str []], false⟩ := by kernel_rfl
theorem ti123 : G.ti 123 = some ⟨4, 40, .struct [(0, 1, 17), (1, 1, 17), (2, 1, 17), (3, 1, 9)], [.nilptr, .nilptr, .nilptr, .str []], false⟩ := by kernel_rfl
theorem ti124 : G.ti 124 = some ⟨0, 0, .array 0 16, [], false⟩ := by kernel_rfl
theorem ti125 : G.ti 125 = some ⟨0, 0, .struct [(0, 0, 124)], [], false⟩ := by kernel_rfl
theorem ti126 : G.ti 126 = some ⟨0, 0, .struct [(0, 0, 124)], [], false⟩ := by kernel_rfl
theorem ti127 : G.ti 127 = some ⟨1, 8, .func, [.nilfn], false⟩ := by kernel_rfl
theorem ti128 : G.ti 128 = some ⟨1, 1, .int .u8, [.int .u8 0], false⟩ := by kernel_rfl
theorem ti129 : G.ti 129 = some ⟨1, 1, .int .u8, [.int .u8 0], false⟩ := by kernel_rfl
theorem ti130 : G.ti 130 = some ⟨1, 8, .func, [.nilfn], false⟩ := by kernel_rfl
theorem ti131 : G.ti 131 = some ⟨1, 8, .ptr, [.nilptr], false⟩ := by kernel_rfl
theorem ti132 : G.ti 132 = some ⟨1, 4, .int .i32, [.int .i32 0], false⟩ := by kernel_rfl
theorem ti133 : G.ti 133 = some ⟨1, 4, .int .i32, [.int .i32 0], false⟩ := by kernel_rfl
theorem ti134 : G.ti 134 = some ⟨11, 48, .struct [(0, 1, 12), (1, 1, 12), (2, 1, 94), (3, 1, 128), (4, 1, 5), (5, 1, 5), (6, 1, 129), (7, 1, 130), (8, 1, 131), (9, 1, 132), (10, 1, 133)], [.int .u64 0, .int .u64 0, .int .u32 0, .int .u8 0, .int .u8 0, .int .u8 0, .int .u8 0, .nilfn, .nilptr, .int .i32 0, .int .i32 0], false⟩ := by kernel_rfl
theorem ti135 : G.ti 135 = some ⟨11, 48, .struct [(0, 1, 12), (1, 1, 12), (2, 1, 94), (3, 1, 128), (4, 1, 5), (5, 1, 5), (6, 1, 129), (7, 1, 130), (8, 1, 131), (9, 1, 132), (10, 1, 133)], [.int .u64 0, .int .u64 0, .int .u32 0, .int .u8 0, .int .u8 0, .int .u8 0, .int .u8 0, .nilfn, .nilptr, .int .i32 0, .int .i32 0], false⟩ := by kernel_rfl
def tab0 := PLift.up (And.intro (And.intro (And.intro (And.intro (And.intro (ti1) (ti2)) (And.intro (ti3) (ti4))) (And.intro (And.intro (ti5) (ti6)) (And.intro (ti7) (ti8)))) (And.intro (And.intro (And.intro (ti9) (ti10)) (And.intro (ti11) (ti12))) (And.intro (And.intro (ti13) (ti14)) (And.intro (ti15) (ti16))))) (And.intro (And.intro (And.intro (And.intro (ti17) (ti18)) (And.intro (ti19) (ti20))) (And.intro (And.intro (ti21) (ti22)) (And.intro (ti23) (ti24)))) (And.intro (And.intro (And.intro (ti25) (ti26)) (And.intro (ti27) (ti28))) (And.intro (And.intro (ti29) (ti30)) (And.intro (ti31) (ti32))))))
def tab1 := PLift.up (And.intro (And.intro (And.intro (And.intro (And.intro (ti33) (ti34)) (And.intro (ti35) (ti36))) (And.intro (And.intro (ti37) (ti38)) (And.intro (ti39) (ti40)))) (And.intro (And.intro (And.intro (ti41) (ti42)) (And.intro (ti43) (ti44))) (And.intro (And.intro (ti45) (ti46)) (And.intro (ti47) (ti48))))) (And.intro (And.intro (And.intro (And.intro (ti49) (ti50)) (And.intro (ti51) (ti52))) (And.intro (And.intro (ti53) (ti54)) (And.intro (ti55) (ti56)))) (And.intro (And.intro (And.intro (ti57) (ti58)) (And.intro (ti59) (ti60))) (And.intro (And.intro (ti61) (ti62)) (And.intro (ti63) (ti64))))))
def tab2 := PLift.up (And.intro (And.intro (And.intro (And.intro (And.intro (ti65) (ti66)) (And.intro (ti67) (ti68))) (And.intro (And.intro (ti69) (ti70)) (And.intro (ti71) (ti72)))) (And.intro (And.intro (And.intro (ti73) (ti74)) (And.intro (ti75) (ti76))) (And.intro (And.intro (ti77) (ti78)) (And.intro (ti79) (ti80))))) (And.intro (And.intro (And.intro (And.intro (ti81) (ti82)) (And.intro (ti83) (ti84))) (And.intro (And.intro (ti85) (ti86)) (And.intro (ti88) (ti89)))) (And.intro (And.intro (And.intro (ti90) (ti92)) (And.intro (ti93) (ti94))) (And.intro (And.intro (ti95) (ti96)) (And.intro (ti97) (ti98))))))
def tab3 := PLift.up (And.intro (And.intro (And.intro (And.intro (And.intro (ti99) (ti100)) (And.intro (ti101) (ti102))) (And.intro (And.intro (ti103) (ti104)) (And.intro (ti105) (ti106)))) (And.intro (And.intro (And.intro (ti107) (ti109)) (And.intro (ti110) (ti111))) (And.intro (And.intro (ti112) (ti113)) (And.intro (ti114) (ti115))))) (And.intro (And.intro (And.intro (And.intro (ti116) (ti117)) (And.intro (ti118) (ti119))) (And.intro (And.intro (ti120) (ti121)) (And.intro (ti122) (ti123)))) (And.intro (And.intro (And.intro (ti124) (ti125)) (And.intro (ti126) (ti127))) (And.intro (And.intro (ti128) (ti129)) (And.intro (ti130) (ti131))))))
def tab4 := PLift.up (And.intro (And.intro (And.intro (And.intro (And.intro (ti132) (ti133)) (And.intro (ti134) (ti135))) (And.intro (And.intro (own0) (own1)) (And.intro (own2) (own3)))) (And.intro (And.intro (And.intro (own4) (own5)) (And.intro (own6) (own7))) (And.intro (And.intro (own8) (own9)) (And.intro (own10) (own11))))) (And.intro (And.intro (And.intro (And.intro (own12) (own13)) (And.intro (own14) (own15))) (And.intro (And.intro (own16) (own17)) (And.intro (own18) (own19)))) (And.intro (And.intro (And.intro (own20) (own21)) (And.intro (own22) (own23))) (And.intro (And.intro (own24) (own25)) (And.intro (own26) (own27))))))
def tab5 := PLift.up (And.intro (And.intro (And.intro (And.intro (And.intro (own28) (own29)) (And.intro (own30) (own31))) (And.intro (And.intro (own32) (own33)) (And.intro (own34) (own35)))) (And.intro (And.intro (And.intro (own36) (own37)) (And.intro (own38) (own39))) (And.intro (And.intro (own40) (own41)) (And.intro (own42) (own43))))) (And.intro (And.intro (And.intro (And.intro (own44) (own45)) (And.intro (own46) (own47))) (And.intro (And.intro (own48) (own49)) (And.intro (own50) (own51)))) (And.intro (And.intro (And.intro (own52) (own53)) (And.intro (own54) (own55))) (And.intro (And.intro (own56) (own57)) (And.intro (own58) (own59))))))
def tab6 := PLift.up (And.intro (And.intro (And.intro (And.intro (And.intro (own60) (own61)) (And.intro (own62) (own63))) (And.intro (And.intro (own64) (own65)) (And.intro (own66) (own67)))) (And.intro (And.intro (And.intro (own68) (own69)) (And.intro (own70) (own71))) (And.intro (And.intro (own72) (own73)) (And.intro (own74) (own75))))) (And.intro (And.intro (And.intro (And.intro (own76) (own77)) (And.intro (own78) (own79))) (And.intro (And.intro (own80) (own81)) (And.intro (own82) (own83)))) (And.intro (And.intro (And.intro (own84) (own85)) (And.intro (own86) (own87))) (And.intro (And.intro (own88) (own89)) (And.intro (own90) (own91))))))
def tab7 := PLift.up (And.intro (And.intro (And.intro (And.intro (And.intro (own92) (own93)) (And.intro (own94) (own95))) (And.intro (And.intro (own96) (own97)) (And.intro (own98) (own99)))) (And.intro (And.intro (And.intro (own100) (own101)) (And.intro (own102) (own103))) (And.intro (And.intro (own104) (own105)) (And.intro (own106) (own107))))) (And.intro (And.intro (And.intro (And.intro (own108) (own109)) (And.intro (own110) (own111))) (And.intro (And.intro (own112) (own113)) (And.intro (own114) (own115)))) (And.intro (And.intro (And.intro (kp0) (kp1)) (And.intro (kp2) (kp3))) (And.intro (And.intro (kp4) (kp5)) (And.intro (kp6) (kp7))))))
def tab8 := PLift.up (And.intro (And.intro (And.intro (And.intro (And.intro (kp8) (kp9)) (And.intro (kp10) (kp11))) (And.intro (And.intro (kp12) (kp13)) (And.intro (kp14) (kp15)))) (And.intro (And.intro (And.intro (kp16) (kp17)) (And.intro (kp18) (kp19))) (And.intro (And.intro (kp20) (kp21)) (And.intro (kp22) (kp23))))) (And.intro (And.intro (And.intro (And.intro (kp24) (kp25)) (And.intro (kp26) (kp27))) (And.intro (And.intro (kp28) (kp29)) (And.intro (kp30) (kp31)))) (And.intro (And.intro (And.intro (kp32) (kp33)) (And.intro (kp34) (kp35))) (And.intro (And.intro (kp36) (kp37)) (And.intro (kp38) (kp39))))))
def tab9 := PLift.up (And.intro (And.intro (And.intro (And.intro (And.intro (kp40) (kp41)) (And.intro (kp42) (kp43))) (And.intro (And.intro (kp44) (kp45)) (And.intro (kp46) (kp47)))) (And.intro (And.intro (And.intro (kp48) (kp49)) (And.intro (kp50) (kp51))) (And.intro (And.intro (kp52) (kp53)) (And.intro (kp54) (kp55))))) (And.intro (And.intro (And.intro (And.intro (kp56) (kp57)) (And.intro (kp58) (kp59))) (And.intro (And.intro (kp60) (kp61)) (And.intro (kp62) (kp63)))) (And.intro (And.intro (And.intro (kp64) (kp65)) (And.intro (kp66) (kp67))) (And.intro (And.intro (kp68) (kp69)) (And.intro (kp70) (kp71))))))
def tab10 := PLift.up (And.intro (And.intro (And.intro (And.intro (And.intro (kp72) (kp73)) (And.intro (kp74) (kp75))) (And.intro (And.intro (kp76) (kp77)) (And.intro (kp78) (kp79)))) (And.intro (And.intro (And.intro (kp80) (kp81)) (And.intro (kp82) (kp83))) (And.intro (And.intro (kp84) (kp85)) (And.intro (kp86) (kp87))))) (And.intro (And.intro (And.intro (And.intro (kp88) (kp89)) (And.intro (kp90) (kp91))) (And.intro (And.intro (kp92) (kp93)) (And.intro (kp94) (kp95)))) (And.intro (And.intro (And.intro (kp96) (kp97)) (And.intro (kp98) (kp99))) (And.intro (And.intro (kp100) (kp101)) (And.intro (kp102) (kp103))))))
def tab11 := PLift.up (And.intro (And.intro (And.intro (And.intro (And.intro (kp104) (kp105)) (And.intro (kp106) (kp107))) (And.intro (And.intro (kp108) (kp109)) (And.intro (kp110) (kp111)))) (And.intro (And.intro (And.intro (kp112) (kp113)) (And.intro (kp114) (kp115))) (And.intro (And.intro (pr0) (pr1)) (And.intro (pr2) (pr3))))) (And.intro (And.intro (And.intro (And.intro (pr4) (pr5)) (And.intro (pr6) (pr7))) (And.intro (And.intro (pr8) (pr9)) (And.intro (pr10) (pr11)))) (And.intro (And.intro (And.intro (pr12) (pr13)) (And.intro (pr14) (pr15))) (And.intro (And.intro (pr16) (pr17)) (And.intro (pr18) (pr19))))))
def tab12 := PLift.up (And.intro (And.intro (And.intro (And.intro (And.intro (pr20) (pr21)) (And.intro (pr22) (pr23))) (And.intro (And.intro (pr24) (pr25)) (And.intro (pr26) (pr27)))) (And.intro (And.intro (And.intro (pr28) (pr29)) (And.intro (pr30) (pr31))) (And.intro (And.intro (pr32) (pr33)) (And.intro (pr34) (pr35))))) (And.intro (And.intro (And.intro (And.intro (pr36) (pr37)) (And.intro (pr38) (pr39))) (And.intro (And.intro (pr40) (pr41)) (And.intro (pr42) (pr43)))) (And.intro (And.intro (And.intro (pr44) (pr45)) (And.intro (pr46) (pr47))) (And.intro (And.intro (pr48) (pr49)) (And.intro (pr50) (pr51))))))
def tab13 := PLift.up (And.intro (And.intro (And.intro (And.intro (And.intro (pr52) (pr53)) (And.intro (pr54) (pr55))) (And.intro (And.intro (pr56) (pr57)) (And.intro (pr58) (pr59)))) (And.intro (And.intro (And.intro (pr60) (pr61)) (And.intro (pr62) (pr63))) (And.intro (And.intro (pr64) (pr65)) (And.intro (pr66) (pr67))))) (And.intro (And.intro (And.intro (And.intro (pr68) (pr69)) (And.intro (pr70) (pr71))) (And.intro (And.intro (pr72) (pr73)) (And.intro (pr74) (pr75)))) (And.intro (And.intro (And.intro (pr76) (pr77)) (And.intro (pr78) (pr79))) (And.intro (And.intro (pr80) (pr81)) (And.intro (pr82) (pr83))))))
def tab14 := PLift.up (And.intro (And.intro (And.intro (And.intro (And.intro (pr84) (pr85)) (And.intro (pr86) (pr87))) (And.intro (And.intro (pr88) (pr89)) (And.intro (pr90) (pr91)))) (And.intro (And.intro (And.intro (pr92) (pr93)) (And.intro (pr94) (pr95))) (And.intro (And.intro (pr96) (pr97)) (And.intro (pr98) (pr99))))) (And.intro (And.intro (And.intro (And.intro (pr100) (pr101)) (And.intro (pr102) (pr103))) (And.intro (And.intro (pr104) (pr105)) (And.intro (pr106) (pr107)))) (And.intro (And.intro (And.intro (pr108) (pr109)) (And.intro (pr110) (pr111))) (And.intro (And.intro (pr112) (pr113)) (And.intro (pr114) (pr115))))))
def tab := PLift.up (And.intro (And.intro (And.intro (tab0.down) (And.intro (tab1.down) (tab2.down))) (And.intro (And.intro (tab3.down) (tab4.down)) (And.intro (tab5.down) (tab6.down)))) (And.intro (And.intro (And.intro (tab7.down) (tab8.down)) (And.intro (tab9.down) (tab10.down))) (And.intro (And.intro (tab11.down) (tab12.down)) (And.intro (tab13.down) (tab14.down)))))
theorem fn2 : G.fn 2 = some ⟨Try.f2.ntmps, Try.f2.results.toList, Try.f2.body.get!⟩ := by kernel_rfl
theorem fn3 : G.fn 3 = some ⟨Try.f3.ntmps, Try.f3.results.toList, Try.f3.body.get!⟩ := by kernel_rfl
theorem fn4 : G.fn 4 = some ⟨Try.f4.ntmps, Try.f4.results.toList, Try.f4.body.get!⟩ := by kernel_rfl
theorem fn5 : G.fn 5 = some ⟨Try.f5.ntmps, Try.f5.results.toList, Try.f5.body.get!⟩ := by kernel_rfl
theorem fn6 : G.fn 6 = some ⟨Try.f6.ntmps, Try.f6.results.toList, Try.f6.body.get!⟩ := by kernel_rfl
theorem fn7 : G.fn 7 = some ⟨Try.f7.ntmps, Try.f7.results.toList, Try.f7.body.get!⟩ := by kernel_rfl
theorem fn8 : G.fn 8 = some ⟨Try.f8.ntmps, Try.f8.results.toList, Try.f8.body.get!⟩ := by kernel_rfl
theorem fn9 : G.fn 9 = some ⟨Try.f9.ntmps, Try.f9.results.toList, Try.f9.body.get!⟩ := by kernel_rfl
theorem fn10 : G.fn 10 = some ⟨Try.f10.ntmps, Try.f10.results.toList, Try.f10.body.get!⟩ := by kernel_rfl
theorem fn11 : G.fn 11 = some ⟨Try.f11.ntmps, Try.f11.results.toList, Try.f11.body.get!⟩ := by kernel_rfl
theorem fn12 : G.fn 12 = some ⟨Try.f12.ntmps, Try.f12.results.toList, Try.f12.body.get!⟩ := by kernel_rfl
theorem fn13 : G.fn 13 = some ⟨Try.f13.ntmps, Try.f13.results.toList, Try.f13.body.get!⟩ := by kernel_rfl
theorem fn14 : G.fn 14 = some ⟨Try.f14.ntmps, Try.f14.results.toList, Try.f14.body.get!⟩ := by kernel_rfl
theorem fn15 : G.fn 15 = some ⟨Try.f15.ntmps, Try.f15.results.toList, Try.f15.body.get!⟩ := by kernel_rfl
theorem fn16 : G.fn 16 = some ⟨Try.f16.ntmps, Try.f16.results.toList, Try.f16.body.get!⟩ := by kernel_rfl
theorem fn17 : G.fn 17 = some ⟨Try.f17.ntmps, Try.f17.results.toList, Try.f17.body.get!⟩ := by kernel_rfl
theorem fn18 : G.fn 18 = some ⟨Try.f18.ntmps, Try.f18.results.toList, Try.f18.body.get!⟩ := by kernel_rfl
theorem fn19 : G.fn 19 = some ⟨Try.f19.ntmps, Try.f19.results.toList, Try.f19.body.get!⟩ := by kernel_rfl
theorem fn20 : G.fn 20 = some ⟨Try.f20.ntmps, Try.f20.results.toList, Try.f20.body.get!⟩ := by kernel_rfl
theorem fn21 : G.fn 21 = some ⟨Try.f21.ntmps, Try.f21.results.toList, Try.f21.body.get!⟩ := by kernel_rfl
theorem fn22 : G.fn 22 = some ⟨Try.f22.ntmps, Try.f22.results.toList, Try.f22.body.get!⟩ := by kernel_rfl
theorem fn23 : G.fn 23 = some ⟨Try.f23.ntmps, Try.f23.results.toList, Try.f23.body.get!⟩ := by kernel_rfl
theorem fn24 : G.fn 24 = some ⟨Try.f24.ntmps, Try.f24.results.toList, Try.f24.body.get!⟩ := by kernel_rfl
theorem fn25 : G.fn 25 = some ⟨Try.f25.ntmps, Try.f25.results.toList, Try.f25.body.get!⟩ := by kernel_rfl
theorem fn26 : G.fn 26 = some ⟨Try.f26.ntmps, Try.f26.results.toList, Try.f26.body.get!⟩ := by kernel_rfl
theorem fn27 : G.fn 27 = some ⟨Try.f27.ntmps, Try.f27.results.toList, Try.f27.body.get!⟩ := by kernel_rfl
theorem fn28 : G.fn 28 = some ⟨Try.f28.ntmps, Try.f28.results.toList, Try.f28.body.get!⟩ := by kernel_rfl
theorem fn29 : G.fn 29 = some ⟨Try.f29.ntmps, Try.f29.results.toList, Try.f29.body.get!⟩ := by kernel_rfl
theorem fn30 : G.fn 30 = some ⟨Try.f30.ntmps, Try.f30.results.toList, Try.f30.body.get!⟩ := by kernel_rfl
theorem fn31 : G.fn 31 = some ⟨Try.f31.ntmps, Try.f31.results.toList, Try.f31.body.get!⟩ := by kernel_rfl
theorem fn32 : G.fn 32 = some ⟨Try.f32.ntmps, Try.f32.results.toList, Try.f32.body.get!⟩ := by kernel_rfl
theorem fn33 : G.fn 33 = some ⟨Try.f33.ntmps, Try.f33.results.toList, Try.f33.body.get!⟩ := by kernel_rfl
theorem fn34 : G.fn 34 = some ⟨Try.f34.ntmps, Try.f34.results.toList, Try.f34.body.get!⟩ := by kernel_rfl
theorem fn35 : G.fn 35 = some ⟨Try.f35.ntmps, Try.f35.results.toList, Try.f35.body.get!⟩ := by kernel_rfl
theorem fn36 : G.fn 36 = some ⟨Try.f36.ntmps, Try.f36.results.toList, Try.f36.body.get!⟩ := by kernel_rfl
theorem fn37 : G.fn 37 = some ⟨Try.f37.ntmps, Try.f37.results.toList, Try.f37.body.get!⟩ := by kernel_rfl
theorem fn38 : G.fn 38 = some ⟨Try.f38.ntmps, Try.f38.results.toList, Try.f38.body.get!⟩ := by kernel_rfl
theorem fn39 : G.fn 39 = some ⟨Try.f39.ntmps, Try.f39.results.toList, Try.f39.body.get!⟩ := by kernel_rfl
theorem fn40 : G.fn 40 = some ⟨Try.f40.ntmps, Try.f40.results.toList, Try.f40.body.get!⟩ := by kernel_rfl
theorem fn41 : G.fn 41 = some ⟨Try.f41.ntmps, Try.f41.results.toList, Try.f41.body.get!⟩ := by kernel_rfl
theorem fn42 : G.fn 42 = some ⟨Try.f42.ntmps, Try.f42.results.toList, Try.f42.body.get!⟩ := by kernel_rfl
theorem fn43 : G.fn 43 = some ⟨Try.f43.ntmps, Try.f43.results.toList, Try.f43.body.get!⟩ := by kernel_rfl
theorem fn44 : G.fn 44 = some ⟨Try.f44.ntmps, Try.f44.results.toList, Try.f44.body.get!⟩ := by kernel_rfl
theorem fn45 : G.fn 45 = some ⟨Try.f45.ntmps, Try.f45.results.toList, Try.f45.body.get!⟩ := by kernel_rfl
theorem fn46 : G.fn 46 = some ⟨Try.f46.ntmps, Try.f46.results.toList, Try.f46.body.get!⟩ := by kernel_rfl
theorem fn47 : G.fn 47 = some ⟨Try.f47.ntmps, Try.f47.results.toList, Try.f47.body.get!⟩ := by kernel_rfl
theorem fn48 : G.fn 48 = some ⟨Try.f48.ntmps, Try.f48.results.toList, Try.f48.body.get!⟩ := by kernel_rfl
theorem fn49 : G.fn 49 = some ⟨Try.f49.ntmps, Try.f49.results.toList, Try.f49.body.get!⟩ := by kernel_rfl
theorem fn50 : G.fn 50 = some ⟨Try.f50.ntmps, Try.f50.results.toList, Try.f50.body.get!⟩ := by kernel_rfl
theorem fn51 : G.fn 51 = some ⟨Try.f51.ntmps, Try.f51.results.toList, Try.f51.body.get!⟩ := by kernel_rfl
theorem fn52 : G.fn 52 = some ⟨Try.f52.ntmps, Try.f52.results.toList, Try.f52.body.get!⟩ := by kernel_rfl
theorem fn53 : G.fn 53 = some ⟨Try.f53.ntmps, Try.f53.results.toList, Try.f53.body.get!⟩ := by kernel_rfl
theorem fn54 : G.fn 54 = some ⟨Try.f54.ntmps, Try.f54.results.toList, Try.f54.body.get!⟩ := by kernel_rfl
theorem fn55 : G.fn 55 = some ⟨Try.f55.ntmps, Try.f55.results.toList, Try.f55.body.get!⟩ := by kernel_rfl
theorem fn56 : G.fn 56 = some ⟨Try.f56.ntmps, Try.f56.results.toList, Try.f56.body.get!⟩ := by kernel_rfl
theorem fn57 : G.fn 57 = some ⟨Try.f57.ntmps, Try.f57.results.toList, Try.f57.body.get!⟩ := by kernel_rfl
theorem fn58 : G.fn 58 = some ⟨Try.f58.ntmps, Try.f58.results.toList, Try.f58.body.get!⟩ := by kernel_rfl
theorem fn59 : G.fn 59 = some ⟨Try.f59.ntmps, Try.f59.results.toList, Try.f59.body.get!⟩ := by kernel_rfl
theorem fn60 : G.fn 60 = some ⟨Try.f60.ntmps, Try.f60.results.toList, Try.f60.body.get!⟩ := by kernel_rfl
theorem fn61 : G.fn 61 = some ⟨Try.f61.ntmps, Try.f61.results.toList, Try.f61.body.get!⟩ := by kernel_rfl
theorem fn62 : G.fn 62 = some ⟨Try.f62.ntmps, Try.f62.results.toList, Try.f62.body.get!⟩ := by kernel_rfl
theorem fn63 : G.fn 63 = some ⟨Try.f63.ntmps, Try.f63.results.toList, Try.f63.body.get!⟩ := by kernel_rfl
theorem fn64 : G.fn 64 = some ⟨Try.f64.ntmps, Try.f64.results.toList, Try.f64.body.get!⟩ := by kernel_rfl
theorem fn65 : G.fn 65 = some ⟨Try.f65.ntmps, Try.f65.results.toList, Try.f65.body.get!⟩ := by kernel_rfl
theorem fn66 : G.fn 66 = some ⟨Try.f66.ntmps, Try.f66.results.toList, Try.f66.body.get!⟩ := by kernel_rfl
theorem fn67 : G.fn 67 = some ⟨Try.f67.ntmps, Try.f67.results.toList, Try.f67.body.get!⟩ := by kernel_rfl
theorem fn68 : G.fn 68 = some ⟨Try.f68.ntmps, Try.f68.results.toList, Try.f68.body.get!⟩ := by kernel_rfl
theorem fn69 : G.fn 69 = some ⟨Try.f69.ntmps, Try.f69.results.toList, Try.f69.body.get!⟩ := by kernel_rfl
theorem fn70 : G.fn 70 = some ⟨Try.f70.ntmps, Try.f70.results.toList, Try.f70.body.get!⟩ := by kernel_rfl
theorem fn71 : G.fn 71 = some ⟨Try.f71.ntmps, Try.f71.results.toList, Try.f71.body.get!⟩ := by kernel_rfl
theorem fn72 : G.fn 72 = some ⟨Try.f72.ntmps, Try.f72.results.toList, Try.f72.body.get!⟩ := by kernel_rfl
theorem fn73 : G.fn 73 = some ⟨Try.f73.ntmps, Try.f73.results.toList, Try.f73.body.get!⟩ := by kernel_rfl
theorem fn74 : G.fn 74 = some ⟨Try.f74.ntmps, Try.f74.results.toList, Try.f74.body.get!⟩ := by kernel_rfl
theorem fn75 : G.fn 75 = some ⟨Try.f75.ntmps, Try.f75.results.toList, Try.f75.body.get!⟩ := by kernel_rfl
theorem fn76 : G.fn 76 = some ⟨Try.f76.ntmps, Try.f76.results.toList, Try.f76.body.get!⟩ := by kernel_rfl
theorem fn77 : G.fn 77 = some ⟨Try.f77.ntmps, Try.f77.results.toList, Try.f77.body.get!⟩ := by kernel_rfl
theorem fn78 : G.fn 78 = some ⟨Try.f78.ntmps, Try.f78.results.toList, Try.f78.body.get!⟩ := by kernel_rfl
theorem fn79 : G.fn 79 = some ⟨Try.f79.ntmps, Try.f79.results.toList, Try.f79.body.get!⟩ := by kernel_rfl
theorem fn80 : G.fn 80 = some ⟨Try.f80.ntmps, Try.f80.results.toList, Try.f80.body.get!⟩ := by kernel_rfl
theorem fn81 : G.fn 81 = some ⟨Try.f81.ntmps, Try.f81.results.toList, Try.f81.body.get!⟩ := by kernel_rfl
theorem fn82 : G.fn 82 = some ⟨Try.f82.ntmps, Try.f82.results.toList, Try.f82.body.get!⟩ := by kernel_rfl
theorem fn83 : G.fn 83 = some ⟨Try.f83.ntmps, Try.f83.results.toList, Try.f83.body.get!⟩ := by kernel_rfl
theorem fn84 : G.fn 84 = some ⟨Try.f84.ntmps, Try.f84.results.toList, Try.f84.body.get!⟩ := by kernel_rfl
theorem fn85 : G.fn 85 = some ⟨Try.f85.ntmps, Try.f85.results.toList, Try.f85.body.get!⟩ := by kernel_rfl
theorem fn86 : G.fn 86 = some ⟨Try.f86.ntmps, Try.f86.results.toList, Try.f86.body.get!⟩ := by kernel_rfl
theorem fn87 : G.fn 87 = some ⟨Try.f87.ntmps, Try.f87.results.toList, Try.f87.body.get!⟩ := by kernel_rfl
theorem fn88 : G.fn 88 = some ⟨Try.f88.ntmps, Try.f88.results.toList, Try.f88.body.get!⟩ := by kernel_rfl
theorem fn89 : G.fn 89 = some ⟨Try.f89.ntmps, Try.f89.results.toList, Try.f89.body.get!⟩ := by kernel_rfl
theorem fn90 : G.fn 90 = some ⟨Try.f90.ntmps, Try.f90.results.toList, Try.f90.body.get!⟩ := by kernel_rfl
theorem fn91 : G.fn 91 = some ⟨Try.f91.ntmps, Try.f91.results.toList, Try.f91.body.get!⟩ := by kernel_rfl
theorem fn92 : G.fn 92 = some ⟨Try.f92.ntmps, Try.f92.results.toList, Try.f92.body.get!⟩ := by kernel_rfl
theorem fn93 : G.fn 93 = some ⟨Try.f93.ntmps, Try.f93.results.toList, Try.f93.body.get!⟩ := by kernel_rfl
theorem fn94 : G.fn 94 = some ⟨Try.f94.ntmps, Try.f94.results.toList, Try.f94.body.get!⟩ := by kernel_rfl
theorem fn95 : G.fn 95 = some ⟨Try.f95.ntmps, Try.f95.results.toList, Try.f95.body.get!⟩ := by kernel_rfl
theorem fn96 : G.fn 96 = some ⟨Try.f96.ntmps, Try.f96.results.toList, Try.f96.body.get!⟩ := by kernel_rfl
theorem fn97 : G.fn 97 = some ⟨Try.f97.ntmps, Try.f97.results.toList, Try.f97.body.get!⟩ := by kernel_rfl
theorem fn98 : G.fn 98 = some ⟨Try.f98.ntmps, Try.f98.results.toList, Try.f98.body.get!⟩ := by kernel_rfl
theorem fn99 : G.fn 99 = some ⟨Try.f99.ntmps, Try.f99.results.toList, Try.f99.body.get!⟩ := by kernel_rfl
end Go.Proofs.Ytmlmgbnhaenabaa
