/-
  The tables of the program as the machine reads it.
-/
import Derived.Test.YtdhgdeelagmbpaaRows
import Derived.Test.YtdhgdeelagmbpaaLd
set_option linter.unusedSimpArgs false
set_option linter.unusedVariables false
namespace Go.Proofs.Ytdhgdeelagmbpaa
open Go Go.Gm
def spec : FuncId → Nat → LSpec
  | 4, 0 => ⟨[0, 1, 5, 6], [5], [], [(5, 2)], []⟩
  | 4, 2 => ⟨[0, 1, 5, 6, 7, 8], [0, 1, 5, 6, 7], [], [], []⟩
  | 5, 0 => ⟨[0, 1, 2, 15], [6], [], [], []⟩
  | 5, 2 => ⟨[0, 1, 2, 15, 16], [0, 1, 2, 6, 15], [], [], []⟩
  | 6, 0 => ⟨[0, 3, 4], [0, 2, 3], [], [], []⟩
  | 6, 2 => ⟨[0, 3, 9, 10], [0, 3, 9], [], [], []⟩
  | 6, 4 => ⟨[0, 3, 9, 11], [0, 3, 9], [], [], []⟩
  | 6, 6 => ⟨[0, 3, 9, 11, 12], [0, 3, 9, 11], [], [], []⟩
  | 8, 0 => ⟨[2, 5, 18, 19, 20], [4], [], [], [18]⟩
  | 9, 0 => ⟨[2, 5], [4], [], [], []⟩
  | 9, 2 => ⟨[2, 5, 6, 8], [2, 4, 5], [], [], []⟩
  | 11, 0 => ⟨[0, 1, 5], [4], [], [], []⟩
  | 12, 0 => ⟨[1, 3, 12, 13, 14], [1, 3], [], [], [1]⟩
  | 12, 2 => ⟨[1, 3, 6], [6], [6], [], []⟩
  | 13, 0 => ⟨[1, 3, 4], [1, 3], [], [], [1]⟩
  | 13, 2 => ⟨[1, 3, 5], [5], [5], [], []⟩
  | 13, 4 => ⟨[1, 3, 5, 6, 7, 8], [1, 3, 5, 6, 7], [], [], []⟩
  | 13, 6 => ⟨[1, 3, 5, 6, 7, 9], [1, 3, 5, 6], [], [], []⟩
  | 14, 0 => ⟨[0, 1, 5], [4], [], [], []⟩
  | 15, 0 => ⟨[0, 9, 10, 11], [4, 5], [], [], []⟩
  | 16, 0 => ⟨[0, 6, 7], [4, 5], [], [], []⟩
  | 17, 0 => ⟨[0, 13, 14, 15], [4, 5], [], [], []⟩
  | 18, 0 => ⟨[0, 6, 7], [4, 5], [], [], []⟩
  | 19, 0 => ⟨[3, 11, 12, 13], [3], [], [], []⟩
  | 19, 2 => ⟨[3, 11, 12, 13, 18, 19, 20], [3, 11, 12, 13], [], [], []⟩
  | 20, 0 => ⟨[0, 3, 4, 5], [3, 4], [], [], []⟩
  | 20, 2 => ⟨[0, 3, 4, 5, 6], [0, 3, 4, 5], [], [], []⟩
  | 21, 0 => ⟨[0, 1, 5], [4], [], [], []⟩
  | 22, 0 => ⟨[0, 5, 10, 11, 12], [5], [5], [], []⟩
  | 22, 2 => ⟨[0, 5, 10, 11, 12, 17, 18, 19], [0, 5, 10, 11, 12], [5], [], []⟩
  | 23, 0 => ⟨[0, 1, 5, 6], [5], [5], [], []⟩
  | 23, 2 => ⟨[0, 1, 5, 6, 7], [0, 1, 5, 6], [5], [], []⟩
  | 24, 0 => ⟨[1, 2, 3, 7, 8, 9, 10], [7, 8, 9], [], [], []⟩
  | 25, 0 => ⟨[1, 2, 3, 7, 8, 9], [6, 7, 8], [], [], []⟩
  | 27, 0 => ⟨[1, 2, 5], [1, 2, 4], [], [], []⟩
  | 30, 0 => ⟨[0, 1, 2], [6], [], [], []⟩
  | 34, 0 => ⟨[1, 2, 5, 12, 13, 14], [5], [], [], []⟩
  | 34, 2 => ⟨[1, 2, 5, 7, 8, 12, 13, 14], [1, 2, 5, 12, 13, 14], [], [], []⟩
  | 35, 0 => ⟨[0, 1, 7, 8], [4], [], [], []⟩
  | 37, 0 => ⟨[0, 1, 5], [0, 1, 5], [], [], []⟩
  | 38, 0 => ⟨[0, 1, 5], [4], [], [], []⟩
  | 39, 0 => ⟨[0, 1, 2, 7], [6], [], [], []⟩
  | 39, 2 => ⟨[0, 1, 2, 7, 8], [0, 1, 2, 6, 7], [], [], []⟩
  | 42, 0 => ⟨[0, 2, 3], [], [], [], []⟩
  | 46, 0 => ⟨[0, 5], [], [], [], []⟩
  | 48, 0 => ⟨[0, 1, 2, 3, 8, 9], [], [], [], []⟩
  | 50, 0 => ⟨[0, 1, 2, 6], [], [], [], []⟩
  | 50, 2 => ⟨[0, 1, 2, 6, 7], [0, 1, 2, 6], [], [], []⟩
  | 51, 0 => ⟨[0, 6, 7, 8, 9], [0, 6, 7, 8], [], [], []⟩
  | 51, 2 => ⟨[0, 6, 7, 10], [], [], [], []⟩
  | 52, 0 => ⟨[0, 1, 6, 7, 8, 9], [], [], [], []⟩
  | 54, 0 => ⟨[0, 6, 7], [], [], [], []⟩
  | 55, 0 => ⟨[0, 1, 2, 7, 8], [6], [], [], []⟩
  | 55, 2 => ⟨[0, 1, 2, 7, 8], [0, 1, 2, 7, 8], [], [], []⟩
  | 55, 4 => ⟨[0, 1, 2, 7, 8, 9], [0, 1, 2, 7, 8], [], [], []⟩
  | 55, 6 => ⟨[0, 1, 2, 7, 8, 10], [0, 1, 2, 7, 8], [], [], []⟩
  | 57, 0 => ⟨[0, 1, 9, 10], [9], [], [], []⟩
  | 57, 2 => ⟨[0, 1, 9, 10], [0, 1, 9, 10], [], [], []⟩
  | 57, 4 => ⟨[0, 1, 9, 10], [0, 1, 9, 10], [], [], []⟩
  | 58, 0 => ⟨[0, 1, 10, 11], [0, 1, 10, 11], [], [], []⟩
  | 58, 2 => ⟨[0, 1, 10, 11], [0, 1, 10, 11], [], [], []⟩
  | 58, 4 => ⟨[0, 1, 10, 11], [0, 1, 11], [], [], []⟩
  | 58, 6 => ⟨[0, 1, 10, 11], [0, 1, 10, 11], [], [], []⟩
  | 58, 8 => ⟨[0, 1, 10, 11], [0, 1, 10, 11], [], [], []⟩
  | 61, 0 => ⟨[0, 2, 3, 8], [], [], [], []⟩
  | _, _ => {}
def ownedF (f : FuncId) : Bool := [42, 38, 39].contains f
def keepF (f : FuncId) : Bool := [19].contains f
def preF : FuncId → Nat → List Nat
  | 4, 13 => [5]
  | _, _ => []
noncomputable def G : GP := gpOf Try.prog spec ownedF keepF preF
theorem own0 : G.owned 0 = false := rfl
theorem kp0 : G.keep 0 = false := rfl
theorem pr0 (i : Nat) : G.pre 0 i = [] := rfl
theorem own1 : G.owned 1 = false := rfl
theorem kp1 : G.keep 1 = false := rfl
theorem pr1 (i : Nat) : G.pre 1 i = [] := rfl
theorem own2 : G.owned 2 = false := rfl
theorem kp2 : G.keep 2 = false := rfl
theorem pr2 (i : Nat) : G.pre 2 i = [] := rfl
theorem own3 : G.owned 3 = false := rfl
theorem kp3 : G.keep 3 = false := rfl
theorem pr3 (i : Nat) : G.pre 3 i = [] := rfl
theorem own4 : G.owned 4 = false := rfl
theorem kp4 : G.keep 4 = false := rfl
theorem pr4_0 : G.pre 4 0 = [] := rfl
theorem pr4_1 : G.pre 4 1 = [] := rfl
theorem pr4_2 : G.pre 4 2 = [] := rfl
theorem pr4_3 : G.pre 4 3 = [] := rfl
theorem pr4_4 : G.pre 4 4 = [] := rfl
theorem pr4_5 : G.pre 4 5 = [] := rfl
theorem pr4_6 : G.pre 4 6 = [] := rfl
theorem pr4_7 : G.pre 4 7 = [] := rfl
theorem pr4_8 : G.pre 4 8 = [] := rfl
theorem pr4_9 : G.pre 4 9 = [] := rfl
theorem pr4_10 : G.pre 4 10 = [] := rfl
theorem pr4_11 : G.pre 4 11 = [] := rfl
theorem pr4_12 : G.pre 4 12 = [] := rfl
theorem pr4_13 : G.pre 4 13 = [5] := rfl
theorem pr4_14 : G.pre 4 14 = [] := rfl
theorem pr4_15 : G.pre 4 15 = [] := rfl
theorem pr4_16 : G.pre 4 16 = [] := rfl
theorem pr4_17 : G.pre 4 17 = [] := rfl
theorem pr4_18 : G.pre 4 18 = [] := rfl
theorem pr4_19 : G.pre 4 19 = [] := rfl
theorem pr4_20 : G.pre 4 20 = [] := rfl
theorem pr4_21 : G.pre 4 21 = [] := rfl
theorem pr4_22 : G.pre 4 22 = [] := rfl
theorem pr4_23 : G.pre 4 23 = [] := rfl
theorem pr4_24 : G.pre 4 24 = [] := rfl
theorem pr4_25 : G.pre 4 25 = [] := rfl
theorem pr4_26 : G.pre 4 26 = [] := rfl
theorem pr4_27 : G.pre 4 27 = [] := rfl
theorem pr4_28 : G.pre 4 28 = [] := rfl
theorem pr4_29 : G.pre 4 29 = [] := rfl
theorem pr4_30 : G.pre 4 30 = [] := rfl
theorem pr4_31 : G.pre 4 31 = [] := rfl
theorem pr4_32 : G.pre 4 32 = [] := rfl
theorem pr4_33 : G.pre 4 33 = [] := rfl
theorem pr4_34 : G.pre 4 34 = [] := rfl
theorem pr4_35 : G.pre 4 35 = [] := rfl
theorem pr4_36 : G.pre 4 36 = [] := rfl
theorem pr4_37 : G.pre 4 37 = [] := rfl
theorem pr4_38 : G.pre 4 38 = [] := rfl
theorem pr4_39 : G.pre 4 39 = [] := rfl
theorem pr4_40 : G.pre 4 40 = [] := rfl
theorem pr4_41 : G.pre 4 41 = [] := rfl
theorem pr4_42 : G.pre 4 42 = [] := rfl
theorem pr4_43 : G.pre 4 43 = [] := rfl
theorem pr4_44 : G.pre 4 44 = [] := rfl
theorem pr4_45 : G.pre 4 45 = [] := rfl
theorem pr4_46 : G.pre 4 46 = [] := rfl
theorem pr4_47 : G.pre 4 47 = [] := rfl
theorem pr4_48 : G.pre 4 48 = [] := rfl
theorem pr4_49 : G.pre 4 49 = [] := rfl
theorem pr4_50 : G.pre 4 50 = [] := rfl
theorem pr4_51 : G.pre 4 51 = [] := rfl
theorem pr4_52 : G.pre 4 52 = [] := rfl
theorem pr4_53 : G.pre 4 53 = [] := rfl
theorem pr4_54 : G.pre 4 54 = [] := rfl
theorem pr4_55 : G.pre 4 55 = [] := rfl
theorem pr4_56 : G.pre 4 56 = [] := rfl
theorem pr4_57 : G.pre 4 57 = [] := rfl
theorem pr4_58 : G.pre 4 58 = [] := rfl
theorem pr4_59 : G.pre 4 59 = [] := rfl
theorem pr4_60 : G.pre 4 60 = [] := rfl
theorem pr4_61 : G.pre 4 61 = [] := rfl
theorem pr4_62 : G.pre 4 62 = [] := rfl
theorem pr4_63 : G.pre 4 63 = [] := rfl
theorem pr4_64 : G.pre 4 64 = [] := rfl
theorem pr4_65 : G.pre 4 65 = [] := rfl
theorem pr4_66 : G.pre 4 66 = [] := rfl
theorem pr4_67 : G.pre 4 67 = [] := rfl
theorem pr4_68 : G.pre 4 68 = [] := rfl
theorem pr4_69 : G.pre 4 69 = [] := rfl
theorem pr4_70 : G.pre 4 70 = [] := rfl
theorem pr4_71 : G.pre 4 71 = [] := rfl
theorem pr4_72 : G.pre 4 72 = [] := rfl
theorem own5 : G.owned 5 = false := rfl
theorem kp5 : G.keep 5 = false := rfl
theorem pr5 (i : Nat) : G.pre 5 i = [] := rfl
theorem own6 : G.owned 6 = false := rfl
theorem kp6 : G.keep 6 = false := rfl
theorem pr6 (i : Nat) : G.pre 6 i = [] := rfl
theorem own7 : G.owned 7 = false := rfl
theorem kp7 : G.keep 7 = false := rfl
theorem pr7 (i : Nat) : G.pre 7 i = [] := rfl
theorem own8 : G.owned 8 = false := rfl
theorem kp8 : G.keep 8 = false := rfl
theorem pr8 (i : Nat) : G.pre 8 i = [] := rfl
theorem own9 : G.owned 9 = false := rfl
theorem kp9 : G.keep 9 = false := rfl
theorem pr9 (i : Nat) : G.pre 9 i = [] := rfl
theorem own10 : G.owned 10 = false := rfl
theorem kp10 : G.keep 10 = false := rfl
theorem pr10 (i : Nat) : G.pre 10 i = [] := rfl
theorem own11 : G.owned 11 = false := rfl
theorem kp11 : G.keep 11 = false := rfl
theorem pr11 (i : Nat) : G.pre 11 i = [] := rfl
theorem own12 : G.owned 12 = false := rfl
theorem kp12 : G.keep 12 = false := rfl
theorem pr12 (i : Nat) : G.pre 12 i = [] := rfl
theorem own13 : G.owned 13 = false := rfl
theorem kp13 : G.keep 13 = false := rfl
theorem pr13 (i : Nat) : G.pre 13 i = [] := rfl
theorem own14 : G.owned 14 = false := rfl
theorem kp14 : G.keep 14 = false := rfl
theorem pr14 (i : Nat) : G.pre 14 i = [] := rfl
theorem own15 : G.owned 15 = false := rfl
theorem kp15 : G.keep 15 = false := rfl
theorem pr15 (i : Nat) : G.pre 15 i = [] := rfl
theorem own16 : G.owned 16 = false := rfl
theorem kp16 : G.keep 16 = false := rfl
theorem pr16 (i : Nat) : G.pre 16 i = [] := rfl
theorem own17 : G.owned 17 = false := rfl
theorem kp17 : G.keep 17 = false := rfl
theorem pr17 (i : Nat) : G.pre 17 i = [] := rfl
theorem own18 : G.owned 18 = false := rfl
theorem kp18 : G.keep 18 = false := rfl
theorem pr18 (i : Nat) : G.pre 18 i = [] := rfl
theorem own19 : G.owned 19 = false := rfl
theorem kp19 : G.keep 19 = true := rfl
theorem pr19 (i : Nat) : G.pre 19 i = [] := rfl
theorem own20 : G.owned 20 = false := rfl
theorem kp20 : G.keep 20 = false := rfl
theorem pr20 (i : Nat) : G.pre 20 i = [] := rfl
theorem own21 : G.owned 21 = false := rfl
theorem kp21 : G.keep 21 = false := rfl
theorem pr21 (i : Nat) : G.pre 21 i = [] := rfl
theorem own22 : G.owned 22 = false := rfl
theorem kp22 : G.keep 22 = false := rfl
theorem pr22 (i : Nat) : G.pre 22 i = [] := rfl
theorem own23 : G.owned 23 = false := rfl
theorem kp23 : G.keep 23 = false := rfl
theorem pr23 (i : Nat) : G.pre 23 i = [] := rfl
theorem own24 : G.owned 24 = false := rfl
theorem kp24 : G.keep 24 = false := rfl
theorem pr24 (i : Nat) : G.pre 24 i = [] := rfl
theorem own25 : G.owned 25 = false := rfl
theorem kp25 : G.keep 25 = false := rfl
theorem pr25 (i : Nat) : G.pre 25 i = [] := rfl
theorem own26 : G.owned 26 = false := rfl
theorem kp26 : G.keep 26 = false := rfl
theorem pr26 (i : Nat) : G.pre 26 i = [] := rfl
theorem own27 : G.owned 27 = false := rfl
theorem kp27 : G.keep 27 = false := rfl
theorem pr27 (i : Nat) : G.pre 27 i = [] := rfl
theorem own28 : G.owned 28 = false := rfl
theorem kp28 : G.keep 28 = false := rfl
theorem pr28 (i : Nat) : G.pre 28 i = [] := rfl
theorem own29 : G.owned 29 = false := rfl
theorem kp29 : G.keep 29 = false := rfl
theorem pr29 (i : Nat) : G.pre 29 i = [] := rfl
theorem own30 : G.owned 30 = false := rfl
theorem kp30 : G.keep 30 = false := rfl
theorem pr30 (i : Nat) : G.pre 30 i = [] := rfl
theorem own31 : G.owned 31 = false := rfl
theorem kp31 : G.keep 31 = false := rfl
theorem pr31 (i : Nat) : G.pre 31 i = [] := rfl
theorem own32 : G.owned 32 = false := rfl
theorem kp32 : G.keep 32 = false := rfl
theorem pr32 (i : Nat) : G.pre 32 i = [] := rfl
theorem own33 : G.owned 33 = false := rfl
theorem kp33 : G.keep 33 = false := rfl
theorem pr33 (i : Nat) : G.pre 33 i = [] := rfl
theorem own34 : G.owned 34 = false := rfl
theorem kp34 : G.keep 34 = false := rfl
theorem pr34 (i : Nat) : G.pre 34 i = [] := rfl
theorem own35 : G.owned 35 = false := rfl
theorem kp35 : G.keep 35 = false := rfl
theorem pr35 (i : Nat) : G.pre 35 i = [] := rfl
theorem own36 : G.owned 36 = false := rfl
theorem kp36 : G.keep 36 = false := rfl
theorem pr36 (i : Nat) : G.pre 36 i = [] := rfl
theorem own37 : G.owned 37 = false := rfl
theorem kp37 : G.keep 37 = false := rfl
theorem pr37 (i : Nat) : G.pre 37 i = [] := rfl
theorem own38 : G.owned 38 = true := rfl
theorem kp38 : G.keep 38 = false := rfl
theorem pr38 (i : Nat) : G.pre 38 i = [] := rfl
theorem own39 : G.owned 39 = true := rfl
theorem kp39 : G.keep 39 = false := rfl
theorem pr39 (i : Nat) : G.pre 39 i = [] := rfl
theorem own40 : G.owned 40 = false := rfl
theorem kp40 : G.keep 40 = false := rfl
theorem pr40 (i : Nat) : G.pre 40 i = [] := rfl
theorem own41 : G.owned 41 = false := rfl
theorem kp41 : G.keep 41 = false := rfl
theorem pr41 (i : Nat) : G.pre 41 i = [] := rfl
theorem own42 : G.owned 42 = true := rfl
theorem kp42 : G.keep 42 = false := rfl
theorem pr42 (i : Nat) : G.pre 42 i = [] := rfl
theorem own43 : G.owned 43 = false := rfl
theorem kp43 : G.keep 43 = false := rfl
theorem pr43 (i : Nat) : G.pre 43 i = [] := rfl
theorem own44 : G.owned 44 = false := rfl
theorem kp44 : G.keep 44 = false := rfl
theorem pr44 (i : Nat) : G.pre 44 i = [] := rfl
theorem own45 : G.owned 45 = false := rfl
theorem kp45 : G.keep 45 = false := rfl
theorem pr45 (i : Nat) : G.pre 45 i = [] := rfl
theorem own46 : G.owned 46 = false := rfl
theorem kp46 : G.keep 46 = false := rfl
theorem pr46 (i : Nat) : G.pre 46 i = [] := rfl
theorem own47 : G.owned 47 = false := rfl
theorem kp47 : G.keep 47 = false := rfl
theorem pr47 (i : Nat) : G.pre 47 i = [] := rfl
theorem own48 : G.owned 48 = false := rfl
theorem kp48 : G.keep 48 = false := rfl
theorem pr48 (i : Nat) : G.pre 48 i = [] := rfl
theorem own49 : G.owned 49 = false := rfl
theorem kp49 : G.keep 49 = false := rfl
theorem pr49 (i : Nat) : G.pre 49 i = [] := rfl
theorem own50 : G.owned 50 = false := rfl
theorem kp50 : G.keep 50 = false := rfl
theorem pr50 (i : Nat) : G.pre 50 i = [] := rfl
theorem own51 : G.owned 51 = false := rfl
theorem kp51 : G.keep 51 = false := rfl
theorem pr51 (i : Nat) : G.pre 51 i = [] := rfl
theorem own52 : G.owned 52 = false := rfl
theorem kp52 : G.keep 52 = false := rfl
theorem pr52 (i : Nat) : G.pre 52 i = [] := rfl
theorem own53 : G.owned 53 = false := rfl
theorem kp53 : G.keep 53 = false := rfl
theorem pr53 (i : Nat) : G.pre 53 i = [] := rfl
theorem own54 : G.owned 54 = false := rfl
theorem kp54 : G.keep 54 = false := rfl
theorem pr54 (i : Nat) : G.pre 54 i = [] := rfl
theorem own55 : G.owned 55 = false := rfl
theorem kp55 : G.keep 55 = false := rfl
theorem pr55 (i : Nat) : G.pre 55 i = [] := rfl
theorem own56 : G.owned 56 = false := rfl
theorem kp56 : G.keep 56 = false := rfl
theorem pr56 (i : Nat) : G.pre 56 i = [] := rfl
theorem own57 : G.owned 57 = false := rfl
theorem kp57 : G.keep 57 = false := rfl
theorem pr57 (i : Nat) : G.pre 57 i = [] := rfl
theorem own58 : G.owned 58 = false := rfl
theorem kp58 : G.keep 58 = false := rfl
theorem pr58 (i : Nat) : G.pre 58 i = [] := rfl
theorem own59 : G.owned 59 = false := rfl
theorem kp59 : G.keep 59 = false := rfl
theorem pr59 (i : Nat) : G.pre 59 i = [] := rfl
theorem own60 : G.owned 60 = false := rfl
theorem kp60 : G.keep 60 = false := rfl
theorem pr60 (i : Nat) : G.pre 60 i = [] := rfl
theorem own61 : G.owned 61 = false := rfl
theorem kp61 : G.keep 61 = false := rfl
theorem pr61 (i : Nat) : G.pre 61 i = [] := rfl
theorem own62 : G.owned 62 = false := rfl
theorem kp62 : G.keep 62 = false := rfl
theorem pr62 (i : Nat) : G.pre 62 i = [] := rfl
theorem own63 : G.owned 63 = false := rfl
theorem kp63 : G.keep 63 = false := rfl
theorem pr63 (i : Nat) : G.pre 63 i = [] := rfl
theorem own64 : G.owned 64 = false := rfl
theorem kp64 : G.keep 64 = false := rfl
theorem pr64 (i : Nat) : G.pre 64 i = [] := rfl
theorem own65 : G.owned 65 = false := rfl
theorem kp65 : G.keep 65 = false := rfl
theorem pr65 (i : Nat) : G.pre 65 i = [] := rfl
theorem own66 : G.owned 66 = false := rfl
theorem kp66 : G.keep 66 = false := rfl
theorem pr66 (i : Nat) : G.pre 66 i = [] := rfl
theorem own67 : G.owned 67 = false := rfl
theorem kp67 : G.keep 67 = false := rfl
theorem pr67 (i : Nat) : G.pre 67 i = [] := rfl
theorem own68 : G.owned 68 = false := rfl
theorem kp68 : G.keep 68 = false := rfl
theorem pr68 (i : Nat) : G.pre 68 i = [] := rfl
theorem own69 : G.owned 69 = false := rfl
theorem kp69 : G.keep 69 = false := rfl
theorem pr69 (i : Nat) : G.pre 69 i = [] := rfl
theorem own70 : G.owned 70 = false := rfl
theorem kp70 : G.keep 70 = false := rfl
theorem pr70 (i : Nat) : G.pre 70 i = [] := rfl
theorem own71 : G.owned 71 = false := rfl
theorem kp71 : G.keep 71 = false := rfl
theorem pr71 (i : Nat) : G.pre 71 i = [] := rfl
theorem own72 : G.owned 72 = false := rfl
theorem kp72 : G.keep 72 = false := rfl
theorem pr72 (i : Nat) : G.pre 72 i = [] := rfl
theorem own73 : G.owned 73 = false := rfl
theorem kp73 : G.keep 73 = false := rfl
theorem pr73 (i : Nat) : G.pre 73 i = [] := rfl
theorem own74 : G.owned 74 = false := rfl
theorem kp74 : G.keep 74 = false := rfl
theorem pr74 (i : Nat) : G.pre 74 i = [] := rfl
theorem own75 : G.owned 75 = false := rfl
theorem kp75 : G.keep 75 = false := rfl
theorem pr75 (i : Nat) : G.pre 75 i = [] := rfl
theorem own76 : G.owned 76 = false := rfl
theorem kp76 : G.keep 76 = false := rfl
theorem pr76 (i : Nat) : G.pre 76 i = [] := rfl
theorem own77 : G.owned 77 = false := rfl
theorem kp77 : G.keep 77 = false := rfl
theorem pr77 (i : Nat) : G.pre 77 i = [] := rfl
theorem own78 : G.owned 78 = false := rfl
theorem kp78 : G.keep 78 = false := rfl
theorem pr78 (i : Nat) : G.pre 78 i = [] := rfl
theorem own79 : G.owned 79 = false := rfl
theorem kp79 : G.keep 79 = false := rfl
theorem pr79 (i : Nat) : G.pre 79 i = [] := rfl
theorem own80 : G.owned 80 = false := rfl
theorem kp80 : G.keep 80 = false := rfl
theorem pr80 (i : Nat) : G.pre 80 i = [] := rfl
theorem own81 : G.owned 81 = false := rfl
theorem kp81 : G.keep 81 = false := rfl
theorem pr81 (i : Nat) : G.pre 81 i = [] := rfl
theorem own82 : G.owned 82 = false := rfl
theorem kp82 : G.keep 82 = false := rfl
theorem pr82 (i : Nat) : G.pre 82 i = [] := rfl
theorem own83 : G.owned 83 = false := rfl
theorem kp83 : G.keep 83 = false := rfl
theorem pr83 (i : Nat) : G.pre 83 i = [] := rfl
theorem own84 : G.owned 84 = false := rfl
theorem kp84 : G.keep 84 = false := rfl
theorem pr84 (i : Nat) : G.pre 84 i = [] := rfl
theorem sp4_0 : G.spec 4 0 = ⟨[0, 1, 5, 6], [5], [], [(5, 2)], []⟩ := rfl
theorem sp4_2 : G.spec 4 2 = ⟨[0, 1, 5, 6, 7, 8], [0, 1, 5, 6, 7], [], [], []⟩ := rfl
theorem sp5_0 : G.spec 5 0 = ⟨[0, 1, 2, 15], [6], [], [], []⟩ := rfl
theorem sp5_2 : G.spec 5 2 = ⟨[0, 1, 2, 15, 16], [0, 1, 2, 6, 15], [], [], []⟩ := rfl
theorem sp6_0 : G.spec 6 0 = ⟨[0, 3, 4], [0, 2, 3], [], [], []⟩ := rfl
theorem sp6_2 : G.spec 6 2 = ⟨[0, 3, 9, 10], [0, 3, 9], [], [], []⟩ := rfl
theorem sp6_4 : G.spec 6 4 = ⟨[0, 3, 9, 11], [0, 3, 9], [], [], []⟩ := rfl
theorem sp6_6 : G.spec 6 6 = ⟨[0, 3, 9, 11, 12], [0, 3, 9, 11], [], [], []⟩ := rfl
theorem sp8_0 : G.spec 8 0 = ⟨[2, 5, 18, 19, 20], [4], [], [], [18]⟩ := rfl
theorem sp9_0 : G.spec 9 0 = ⟨[2, 5], [4], [], [], []⟩ := rfl
theorem sp9_2 : G.spec 9 2 = ⟨[2, 5, 6, 8], [2, 4, 5], [], [], []⟩ := rfl
theorem sp11_0 : G.spec 11 0 = ⟨[0, 1, 5], [4], [], [], []⟩ := rfl
theorem sp12_0 : G.spec 12 0 = ⟨[1, 3, 12, 13, 14], [1, 3], [], [], [1]⟩ := rfl
theorem sp12_2 : G.spec 12 2 = ⟨[1, 3, 6], [6], [6], [], []⟩ := rfl
theorem sp13_0 : G.spec 13 0 = ⟨[1, 3, 4], [1, 3], [], [], [1]⟩ := rfl
theorem sp13_2 : G.spec 13 2 = ⟨[1, 3, 5], [5], [5], [], []⟩ := rfl
theorem sp13_4 : G.spec 13 4 = ⟨[1, 3, 5, 6, 7, 8], [1, 3, 5, 6, 7], [], [], []⟩ := rfl
theorem sp13_6 : G.spec 13 6 = ⟨[1, 3, 5, 6, 7, 9], [1, 3, 5, 6], [], [], []⟩ := rfl
theorem sp14_0 : G.spec 14 0 = ⟨[0, 1, 5], [4], [], [], []⟩ := rfl
theorem sp15_0 : G.spec 15 0 = ⟨[0, 9, 10, 11], [4, 5], [], [], []⟩ := rfl
theorem sp16_0 : G.spec 16 0 = ⟨[0, 6, 7], [4, 5], [], [], []⟩ := rfl
theorem sp17_0 : G.spec 17 0 = ⟨[0, 13, 14, 15], [4, 5], [], [], []⟩ := rfl
theorem sp18_0 : G.spec 18 0 = ⟨[0, 6, 7], [4, 5], [], [], []⟩ := rfl
theorem sp19_0 : G.spec 19 0 = ⟨[3, 11, 12, 13], [3], [], [], []⟩ := rfl
theorem sp19_2 : G.spec 19 2 = ⟨[3, 11, 12, 13, 18, 19, 20], [3, 11, 12, 13], [], [], []⟩ := rfl
theorem sp20_0 : G.spec 20 0 = ⟨[0, 3, 4, 5], [3, 4], [], [], []⟩ := rfl
theorem sp20_2 : G.spec 20 2 = ⟨[0, 3, 4, 5, 6], [0, 3, 4, 5], [], [], []⟩ := rfl
theorem sp21_0 : G.spec 21 0 = ⟨[0, 1, 5], [4], [], [], []⟩ := rfl
theorem sp22_0 : G.spec 22 0 = ⟨[0, 5, 10, 11, 12], [5], [5], [], []⟩ := rfl
theorem sp22_2 : G.spec 22 2 = ⟨[0, 5, 10, 11, 12, 17, 18, 19], [0, 5, 10, 11, 12], [5], [], []⟩ := rfl
theorem sp23_0 : G.spec 23 0 = ⟨[0, 1, 5, 6], [5], [5], [], []⟩ := rfl
theorem sp23_2 : G.spec 23 2 = ⟨[0, 1, 5, 6, 7], [0, 1, 5, 6], [5], [], []⟩ := rfl
theorem sp24_0 : G.spec 24 0 = ⟨[1, 2, 3, 7, 8, 9, 10], [7, 8, 9], [], [], []⟩ := rfl
theorem sp25_0 : G.spec 25 0 = ⟨[1, 2, 3, 7, 8, 9], [6, 7, 8], [], [], []⟩ := rfl
theorem sp27_0 : G.spec 27 0 = ⟨[1, 2, 5], [1, 2, 4], [], [], []⟩ := rfl
theorem sp30_0 : G.spec 30 0 = ⟨[0, 1, 2], [6], [], [], []⟩ := rfl
theorem sp34_0 : G.spec 34 0 = ⟨[1, 2, 5, 12, 13, 14], [5], [], [], []⟩ := rfl
theorem sp34_2 : G.spec 34 2 = ⟨[1, 2, 5, 7, 8, 12, 13, 14], [1, 2, 5, 12, 13, 14], [], [], []⟩ := rfl
theorem sp35_0 : G.spec 35 0 = ⟨[0, 1, 7, 8], [4], [], [], []⟩ := rfl
theorem sp37_0 : G.spec 37 0 = ⟨[0, 1, 5], [0, 1, 5], [], [], []⟩ := rfl
theorem sp38_0 : G.spec 38 0 = ⟨[0, 1, 5], [4], [], [], []⟩ := rfl
theorem sp39_0 : G.spec 39 0 = ⟨[0, 1, 2, 7], [6], [], [], []⟩ := rfl
theorem sp39_2 : G.spec 39 2 = ⟨[0, 1, 2, 7, 8], [0, 1, 2, 6, 7], [], [], []⟩ := rfl
theorem sp42_0 : G.spec 42 0 = ⟨[0, 2, 3], [], [], [], []⟩ := rfl
theorem sp46_0 : G.spec 46 0 = ⟨[0, 5], [], [], [], []⟩ := rfl
theorem sp48_0 : G.spec 48 0 = ⟨[0, 1, 2, 3, 8, 9], [], [], [], []⟩ := rfl
theorem sp50_0 : G.spec 50 0 = ⟨[0, 1, 2, 6], [], [], [], []⟩ := rfl
theorem sp50_2 : G.spec 50 2 = ⟨[0, 1, 2, 6, 7], [0, 1, 2, 6], [], [], []⟩ := rfl
theorem sp51_0 : G.spec 51 0 = ⟨[0, 6, 7, 8, 9], [0, 6, 7, 8], [], [], []⟩ := rfl
theorem sp51_2 : G.spec 51 2 = ⟨[0, 6, 7, 10], [], [], [], []⟩ := rfl
theorem sp52_0 : G.spec 52 0 = ⟨[0, 1, 6, 7, 8, 9], [], [], [], []⟩ := rfl
theorem sp54_0 : G.spec 54 0 = ⟨[0, 6, 7], [], [], [], []⟩ := rfl
theorem sp55_0 : G.spec 55 0 = ⟨[0, 1, 2, 7, 8], [6], [], [], []⟩ := rfl
theorem sp55_2 : G.spec 55 2 = ⟨[0, 1, 2, 7, 8], [0, 1, 2, 7, 8], [], [], []⟩ := rfl
theorem sp55_4 : G.spec 55 4 = ⟨[0, 1, 2, 7, 8, 9], [0, 1, 2, 7, 8], [], [], []⟩ := rfl
theorem sp55_6 : G.spec 55 6 = ⟨[0, 1, 2, 7, 8, 10], [0, 1, 2, 7, 8], [], [], []⟩ := rfl
theorem sp57_0 : G.spec 57 0 = ⟨[0, 1, 9, 10], [9], [], [], []⟩ := rfl
theorem sp57_2 : G.spec 57 2 = ⟨[0, 1, 9, 10], [0, 1, 9, 10], [], [], []⟩ := rfl
theorem sp57_4 : G.spec 57 4 = ⟨[0, 1, 9, 10], [0, 1, 9, 10], [], [], []⟩ := rfl
theorem sp58_0 : G.spec 58 0 = ⟨[0, 1, 10, 11], [0, 1, 10, 11], [], [], []⟩ := rfl
theorem sp58_2 : G.spec 58 2 = ⟨[0, 1, 10, 11], [0, 1, 10, 11], [], [], []⟩ := rfl
theorem sp58_4 : G.spec 58 4 = ⟨[0, 1, 10, 11], [0, 1, 11], [], [], []⟩ := rfl
theorem sp58_6 : G.spec 58 6 = ⟨[0, 1, 10, 11], [0, 1, 10, 11], [], [], []⟩ := rfl
theorem sp58_8 : G.spec 58 8 = ⟨[0, 1, 10, 11], [0, 1, 10, 11], [], [], []⟩ := rfl
theorem sp61_0 : G.spec 61 0 = ⟨[0, 2, 3, 8], [], [], [], []⟩ := rfl
theorem ti1 : G.ti 1 = some ⟨1, 8, .func, [.nilfn], false⟩ := by kernel_rfl
theorem ti2 : G.ti 2 = some ⟨1, 8, .int .i64, [.int .i64 0], false⟩ := by kernel_rfl
theorem ti3 : G.ti 3 = some ⟨1, 8, .int .i64, [.int .i64 0], false⟩ := by kernel_rfl
theorem ti4 : G.ti 4 = some ⟨1, 1, .bool, [.bool false], false⟩ := by kernel_rfl
theorem ti5 : G.ti 5 = some ⟨1, 1, .int .u8, [.int .u8 0], false⟩ := by kernel_rfl
theorem ti6 : G.ti 6 = some ⟨1, 1, .int .u8, [.int .u8 0], false⟩ := by kernel_rfl
theorem ti7 : G.ti 7 = some ⟨4, 24, .struct [(0, 1, 2), (1, 1, 3), (2, 1, 4), (3, 1, 6)], [.int .i64 0, .int .i64 0, .bool false, .int .u8 0], true⟩ := by kernel_rfl
theorem ti8 : G.ti 8 = some ⟨4, 24, .struct [(0, 1, 2), (1, 1, 3), (2, 1, 4), (3, 1, 6)], [.int .i64 0, .int .i64 0, .bool false, .int .u8 0], true⟩ := by kernel_rfl
theorem ti9 : G.ti 9 = some ⟨1, 16, .string, [.str []], false⟩ := by kernel_rfl
theorem ti10 : G.ti 10 = some ⟨1, 16, .string, [.str []], false⟩ := by kernel_rfl
theorem ti11 : G.ti 11 = some ⟨1, 16, .string, [.str []], false⟩ := by kernel_rfl
theorem ti12 : G.ti 12 = some ⟨1, 8, .int .u64, [.int .u64 0], false⟩ := by kernel_rfl
theorem ti13 : G.ti 13 = some ⟨2, 24, .struct [(0, 1, 9), (1, 1, 12)], [.str [], .int .u64 0], false⟩ := by kernel_rfl
theorem ti14 : G.ti 14 = some ⟨2, 24, .struct [(0, 1, 9), (1, 1, 12)], [.str [], .int .u64 0], false⟩ := by kernel_rfl
theorem ti15 : G.ti 15 = some ⟨1, 8, .ptr, [.nilptr], false⟩ := by kernel_rfl
theorem ti16 : G.ti 16 = some ⟨1, 8, .ptr, [.nilptr], false⟩ := by kernel_rfl
theorem ti17 : G.ti 17 = some ⟨1, 8, .ptr, [.nilptr], false⟩ := by kernel_rfl
theorem ti18 : G.ti 18 = some ⟨1, 8, .struct [(0, 1, 17)], [.nilptr], false⟩ := by kernel_rfl
theorem ti19 : G.ti 19 = some ⟨1, 8, .struct [(0, 1, 17)], [.nilptr], false⟩ := by kernel_rfl
theorem ti20 : G.ti 20 = some ⟨1, 16, .other, [.nilif], false⟩ := by kernel_rfl
theorem ti21 : G.ti 21 = some ⟨1, 4, .int .i32, [.int .i32 0], false⟩ := by kernel_rfl
theorem ti22 : G.ti 22 = some ⟨2, 16, .struct [(0, 1, 3), (1, 1, 3)], [.int .i64 0, .int .i64 0], true⟩ := by kernel_rfl
theorem ti23 : G.ti 23 = some ⟨2, 16, .struct [(0, 1, 3), (1, 1, 3)], [.int .i64 0, .int .i64 0], true⟩ := by kernel_rfl
theorem ti24 : G.ti 24 = some ⟨1, 24, .slice 40, [.sl true 0 []], false⟩ := by kernel_rfl
theorem ti25 : G.ti 25 = some ⟨3, 40, .struct [(0, 2, 23), (2, 1, 24)], [.int .i64 0, .int .i64 0, .sl true 0 []], false⟩ := by kernel_rfl
theorem ti26 : G.ti 26 = some ⟨3, 40, .struct [(0, 2, 23), (2, 1, 24)], [.int .i64 0, .int .i64 0, .sl true 0 []], false⟩ := by kernel_rfl
theorem ti27 : G.ti 27 = some ⟨1, 8, .func, [.nilfn], false⟩ := by kernel_rfl
theorem ti28 : G.ti 28 = some ⟨1, 8, .func, [.nilfn], false⟩ := by kernel_rfl
theorem ti29 : G.ti 29 = some ⟨1, 24, .slice 3, [.sl true 0 []], false⟩ := by kernel_rfl
theorem ti30 : G.ti 30 = some ⟨1, 8, .func, [.nilfn], false⟩ := by kernel_rfl
theorem ti31 : G.ti 31 = some ⟨1, 24, .slice 115, [.sl true 0 []], false⟩ := by kernel_rfl
theorem ti32 : G.ti 32 = some ⟨1, 24, .slice 34, [.sl true 0 []], false⟩ := by kernel_rfl
theorem ti33 : G.ti 33 = some ⟨8, 104, .struct [(0, 1, 3), (1, 1, 9), (2, 1, 4), (3, 1, 31), (4, 1, 3), (5, 1, 3), (6, 1, 4), (7, 1, 32)], [.int .i64 0, .str [], .bool false, .sl true 0 [], .int .i64 0, .int .i64 0, .bool false, .sl true 0 []], true⟩ := by kernel_rfl
theorem ti34 : G.ti 34 = some ⟨8, 104, .struct [(0, 1, 3), (1, 1, 9), (2, 1, 4), (3, 1, 31), (4, 1, 3), (5, 1, 3), (6, 1, 4), (7, 1, 32)], [.int .i64 0, .str [], .bool false, .sl true 0 [], .int .i64 0, .int .i64 0, .bool false, .sl true 0 []], true⟩ := by kernel_rfl
theorem ti35 : G.ti 35 = some ⟨1, 24, .slice 117, [.sl true 0 []], false⟩ := by kernel_rfl
theorem ti36 : G.ti 36 = some ⟨11, 136, .struct [(0, 8, 34), (8, 1, 35), (9, 1, 4), (10, 1, 4)], [.int .i64 0, .str [], .bool false, .sl true 0 [], .int .i64 0, .int .i64 0, .bool false, .sl true 0 [], .sl true 0 [], .bool false, .bool false], false⟩ := by kernel_rfl
theorem ti37 : G.ti 37 = some ⟨11, 136, .struct [(0, 8, 34), (8, 1, 35), (9, 1, 4), (10, 1, 4)], [.int .i64 0, .str [], .bool false, .sl true 0 [], .int .i64 0, .int .i64 0, .bool false, .sl true 0 [], .sl true 0 [], .bool false, .bool false], false⟩ := by kernel_rfl
theorem ti38 : G.ti 38 = some ⟨1, 24, .slice 9, [.sl true 0 []], false⟩ := by kernel_rfl
theorem ti39 : G.ti 39 = some ⟨18, 200, .struct [(0, 2, 23), (2, 1, 3), (3, 1, 3), (4, 1, 4), (5, 1, 4), (6, 11, 37), (17, 1, 38)], [.int .i64 0, .int .i64 0, .int .i64 0, .int .i64 0, .bool false, .bool false, .int .i64 0, .str [], .bool false, .sl true 0 [], .int .i64 0, .int .i64 0, .bool false, .sl true 0 [], .sl true 0 [], .bool false, .bool false, .sl true 0 []], false⟩ := by kernel_rfl
theorem ti40 : G.ti 40 = some ⟨18, 200, .struct [(0, 2, 23), (2, 1, 3), (3, 1, 3), (4, 1, 4), (5, 1, 4), (6, 11, 37), (17, 1, 38)], [.int .i64 0, .int .i64 0, .int .i64 0, .int .i64 0, .bool false, .bool false, .int .i64 0, .str [], .bool false, .sl true 0 [], .int .i64 0, .int .i64 0, .bool false, .sl true 0 [], .sl true 0 [], .bool false, .bool false, .sl true 0 []], false⟩ := by kernel_rfl
theorem ti41 : G.ti 41 = some ⟨1, 8, .func, [.nilfn], false⟩ := by kernel_rfl
theorem ti42 : G.ti 42 = some ⟨1, 8, .func, [.nilfn], false⟩ := by kernel_rfl
theorem ti43 : G.ti 43 = some ⟨1, 24, .slice 26, [.sl true 0 []], false⟩ := by kernel_rfl
theorem ti44 : G.ti 44 = some ⟨1, 24, .slice 4, [.sl true 0 []], false⟩ := by kernel_rfl
theorem ti45 : G.ti 45 = some ⟨1, 8, .func, [.nilfn], false⟩ := by kernel_rfl
theorem ti47 : G.ti 47 = some ⟨1, 8, .func, [.nilfn], false⟩ := by kernel_rfl
theorem ti48 : G.ti 48 = some ⟨1, 8, .func, [.nilfn], false⟩ := by kernel_rfl
theorem ti49 : G.ti 49 = some ⟨1, 8, .func, [.nilfn], false⟩ := by kernel_rfl
theorem ti50 : G.ti 50 = some ⟨1, 8, .func, [.nilfn], false⟩ := by kernel_rfl
theorem ti51 : G.ti 51 = some ⟨1, 8, .func, [.nilfn], false⟩ := by kernel_rfl
theorem ti52 : G.ti 52 = some ⟨1, 24, .slice 23, [.sl true 0 []], false⟩ := by kernel_rfl
theorem ti53 : G.ti 53 = some ⟨1, 8, .func, [.nilfn], false⟩ := by kernel_rfl
theorem ti54 : G.ti 54 = some ⟨1, 8, .func, [.nilfn], false⟩ := by kernel_rfl
theorem ti55 : G.ti 55 = some ⟨1, 8, .func, [.nilfn], false⟩ := by kernel_rfl
theorem ti56 : G.ti 56 = some ⟨1, 8, .func, [.nilfn], false⟩ := by kernel_rfl
theorem ti57 : G.ti 57 = some ⟨1, 8, .func, [.nilfn], false⟩ := by kernel_rfl
theorem ti58 : G.ti 58 = some ⟨1, 8, .func, [.nilfn], false⟩ := by kernel_rfl
theorem ti59 : G.ti 59 = some ⟨1, 8, .map 3 3, [.nilmap], false⟩ := by kernel_rfl
theorem ti60 : G.ti 60 = some ⟨1, 8, .func, [.nilfn], false⟩ := by kernel_rfl
theorem ti61 : G.ti 61 = some ⟨1, 8, .func, [.nilfn], false⟩ := by kernel_rfl
theorem ti62 : G.ti 62 = some ⟨1, 8, .int .u64, [.int .u64 0], false⟩ := by kernel_rfl
theorem ti63 : G.ti 63 = some ⟨1, 8, .func, [.nilfn], false⟩ := by kernel_rfl
theorem ti64 : G.ti 64 = some ⟨1, 8, .func, [.nilfn], false⟩ := by kernel_rfl
theorem ti65 : G.ti 65 = some ⟨1, 8, .func, [.nilfn], false⟩ := by kernel_rfl
theorem ti66 : G.ti 66 = some ⟨1, 8, .func, [.nilfn], false⟩ := by kernel_rfl
theorem ti67 : G.ti 67 = some ⟨1, 8, .func, [.nilfn], false⟩ := by kernel_rfl
theorem ti68 : G.ti 68 = some ⟨1, 8, .func, [.nilfn], false⟩ := by kernel_rfl
theorem ti69 : G.ti 69 = some ⟨1, 8, .func, [.nilfn], false⟩ := by kernel_rfl
theorem ti70 : G.ti 70 = some ⟨1, 8, .func, [.nilfn], false⟩ := by kernel_rfl
theorem ti71 : G.ti 71 = some ⟨1, 8, .func, [.nilfn], false⟩ := by kernel_rfl
theorem ti72 : G.ti 72 = some ⟨1, 8, .func, [.nilfn], false⟩ := by kernel_rfl
theorem ti73 : G.ti 73 = some ⟨1, 8, .func, [.nilfn], false⟩ := by kernel_rfl
theorem ti74 : G.ti 74 = some ⟨1, 8, .func, [.nilfn], false⟩ := by kernel_rfl
theorem ti75 : G.ti 75 = some ⟨1, 8, .func, [.nilfn], false⟩ := by kernel_rfl
theorem ti76 : G.ti 76 = some ⟨1, 8, .func, [.nilfn], false⟩ := by kernel_rfl
theorem ti77 : G.ti 77 = some ⟨1, 8, .func, [.nilfn], false⟩ := by kernel_rfl
theorem ti78 : G.ti 78 = some ⟨1, 8, .func, [.nilfn], false⟩ := by kernel_rfl
theorem ti79 : G.ti 79 = some ⟨1, 8, .func, [.nilfn], false⟩ := by kernel_rfl
theorem ti80 : G.ti 80 = some ⟨1, 8, .int .i64, [.int .i64 0], false⟩ := by kernel_rfl
theorem ti82 : G.ti 82 = some ⟨1, 8, .func, [.nilfn], false⟩ := by kernel_rfl
theorem ti83 : G.ti 83 = some ⟨1, 8, .func, [.nilfn], false⟩ := by kernel_rfl
theorem ti84 : G.ti 84 = some ⟨1, 8, .func, [.nilfn], false⟩ := by kernel_rfl
theorem ti85 : G.ti 85 = some ⟨1, 8, .func, [.nilfn], false⟩ := by kernel_rfl
theorem ti86 : G.ti 86 = some ⟨1, 8, .func, [.nilfn], false⟩ := by kernel_rfl
theorem ti87 : G.ti 87 = some ⟨1, 4, .int .u32, [.int .u32 0], false⟩ := by kernel_rfl
theorem ti88 : G.ti 88 = some ⟨1, 8, .func, [.nilfn], false⟩ := by kernel_rfl
theorem ti89 : G.ti 89 = some ⟨1, 8, .int .u64, [.int .u64 0], false⟩ := by kernel_rfl
theorem ti90 : G.ti 90 = some ⟨1, 8, .int .u64, [.int .u64 0], false⟩ := by kernel_rfl
theorem ti91 : G.ti 91 = some ⟨1, 8, .func, [.nilfn], false⟩ := by kernel_rfl
theorem ti92 : G.ti 92 = some ⟨1, 8, .func, [.nilfn], false⟩ := by kernel_rfl
theorem ti93 : G.ti 93 = some ⟨1, 8, .func, [.nilfn], false⟩ := by kernel_rfl
theorem ti94 : G.ti 94 = some ⟨1, 8, .ptr, [.nilptr], false⟩ := by kernel_rfl
theorem ti95 : G.ti 95 = some ⟨1, 8, .func, [.nilfn], false⟩ := by kernel_rfl
theorem ti96 : G.ti 96 = some ⟨1, 8, .ptr, [.nilptr], false⟩ := by kernel_rfl
theorem ti98 : G.ti 98 = some ⟨1, 8, .func, [.nilfn], false⟩ := by kernel_rfl
theorem ti99 : G.ti 99 = some ⟨1, 8, .func, [.nilfn], false⟩ := by kernel_rfl
theorem ti100 : G.ti 100 = some ⟨4, 40, .struct [(0, 1, 17), (1, 1, 17), (2, 1, 17), (3, 1, 9)], [.nilptr, .nilptr, .nilptr, .str []], false⟩ := by kernel_rfl
theorem ti101 : G.ti 101 = some ⟨4, 40, .struct [(0, 1, 17), (1, 1, 17), (2, 1, 17), (3, 1, 9)], [.nilptr, .nilptr, .nilptr, .str []], false⟩ := by kernel_rfl
theorem ti102 : G.ti 102 = some ⟨0, 0, .array 0 16, [], false⟩ := by kernel_rfl
theorem ti103 : G.ti 103 = some ⟨0, 0, .struct [(0, 0, 102)], [], false⟩ := by kernel_rfl
theorem ti104 : G.ti 104 = some ⟨0, 0, .struct [(0, 0, 102)], [], false⟩ := by kernel_rfl
theorem ti105 : G.ti 105 = some ⟨1, 8, .func, [.nilfn], false⟩ := by kernel_rfl
theorem ti106 : G.ti 106 = some ⟨1, 1, .int .u8, [.int .u8 0], false⟩ := by kernel_rfl
theorem ti107 : G.ti 107 = some ⟨1, 1, .int .u8, [.int .u8 0], false⟩ := by kernel_rfl
theorem ti108 : G.ti 108 = some ⟨1, 8, .func, [.nilfn], false⟩ := by kernel_rfl
theorem ti109 : G.ti 109 = some ⟨1, 8, .ptr, [.nilptr], false⟩ := by kernel_rfl
theorem ti110 : G.ti 110 = some ⟨1, 4, .int .i32, [.int .i32 0], false⟩ := by kernel_rfl
theorem ti111 : G.ti 111 = some ⟨1, 4, .int .i32, [.int .i32 0], false⟩ := by kernel_rfl
theorem ti112 : G.ti 112 = some ⟨11, 48, .struct [(0, 1, 12), (1, 1, 12), (2, 1, 87), (3, 1, 106), (4, 1, 5), (5, 1, 5), (6, 1, 107), (7, 1, 108), (8, 1, 109), (9, 1, 110), (10, 1, 111)], [.int .u64 0, .int .u64 0, .int .u32 0, .int .u8 0, .int .u8 0, .int .u8 0, .int .u8 0, .nilfn, .nilptr, .int .i32 0, .int .i32 0], false⟩ := by kernel_rfl
theorem ti113 : G.ti 113 = some ⟨11, 48, .struct [(0, 1, 12), (1, 1, 12), (2, 1, 87), (3, 1, 106), (4, 1, 5), (5, 1, 5), (6, 1, 107), (7, 1, 108), (8, 1, 109), (9, 1, 110), (10, 1, 111)], [.int .u64 0, .int .u64 0, .int .u32 0, .int .u8 0, .int .u8 0, .int .u8 0, .int .u8 0, .nilfn, .nilptr, .int .i32 0, .int .i32 0], false⟩ := by kernel_rfl
theorem ti114 : G.ti 114 = some ⟨2, 32, .struct [(0, 1, 9), (1, 1, 9)], [.str [], .str []], true⟩ := by kernel_rfl
theorem ti115 : G.ti 115 = some ⟨2, 32, .struct [(0, 1, 9), (1, 1, 9)], [.str [], .str []], true⟩ := by kernel_rfl
theorem ti116 : G.ti 116 = some ⟨5, 56, .struct [(0, 1, 3), (1, 1, 3), (2, 1, 3), (3, 1, 9), (4, 1, 9)], [.int .i64 0, .int .i64 0, .int .i64 0, .str [], .str []], true⟩ := by kernel_rfl
theorem ti117 : G.ti 117 = some ⟨5, 56, .struct [(0, 1, 3), (1, 1, 3), (2, 1, 3), (3, 1, 9), (4, 1, 9)], [.int .i64 0, .int .i64 0, .int .i64 0, .str [], .str []], true⟩ := by kernel_rfl
def tab0 := PLift.up (And.intro (And.intro (And.intro (And.intro (And.intro (ti1) (ti2)) (And.intro (ti3) (ti4))) (And.intro (And.intro (ti5) (ti6)) (And.intro (ti7) (ti8)))) (And.intro (And.intro (And.intro (ti9) (ti10)) (And.intro (ti11) (ti12))) (And.intro (And.intro (ti13) (ti14)) (And.intro (ti15) (ti16))))) (And.intro (And.intro (And.intro (And.intro (ti17) (ti18)) (And.intro (ti19) (ti20))) (And.intro (And.intro (ti21) (ti22)) (And.intro (ti23) (ti24)))) (And.intro (And.intro (And.intro (ti25) (ti26)) (And.intro (ti27) (ti28))) (And.intro (And.intro (ti29) (ti30)) (And.intro (ti31) (ti32))))))
def tab1 := PLift.up (And.intro (And.intro (And.intro (And.intro (And.intro (ti33) (ti34)) (And.intro (ti35) (ti36))) (And.intro (And.intro (ti37) (ti38)) (And.intro (ti39) (ti40)))) (And.intro (And.intro (And.intro (ti41) (ti42)) (And.intro (ti43) (ti44))) (And.intro (And.intro (ti45) (ti47)) (And.intro (ti48) (ti49))))) (And.intro (And.intro (And.intro (And.intro (ti50) (ti51)) (And.intro (ti52) (ti53))) (And.intro (And.intro (ti54) (ti55)) (And.intro (ti56) (ti57)))) (And.intro (And.intro (And.intro (ti58) (ti59)) (And.intro (ti60) (ti61))) (And.intro (And.intro (ti62) (ti63)) (And.intro (ti64) (ti65))))))
def tab2 := PLift.up (And.intro (And.intro (And.intro (And.intro (And.intro (ti66) (ti67)) (And.intro (ti68) (ti69))) (And.intro (And.intro (ti70) (ti71)) (And.intro (ti72) (ti73)))) (And.intro (And.intro (And.intro (ti74) (ti75)) (And.intro (ti76) (ti77))) (And.intro (And.intro (ti78) (ti79)) (And.intro (ti80) (ti82))))) (And.intro (And.intro (And.intro (And.intro (ti83) (ti84)) (And.intro (ti85) (ti86))) (And.intro (And.intro (ti87) (ti88)) (And.intro (ti89) (ti90)))) (And.intro (And.intro (And.intro (ti91) (ti92)) (And.intro (ti93) (ti94))) (And.intro (And.intro (ti95) (ti96)) (And.intro (ti98) (ti99))))))
def tab3 := PLift.up (And.intro (And.intro (And.intro (And.intro (And.intro (ti100) (ti101)) (And.intro (ti102) (ti103))) (And.intro (And.intro (ti104) (ti105)) (And.intro (ti106) (ti107)))) (And.intro (And.intro (And.intro (ti108) (ti109)) (And.intro (ti110) (ti111))) (And.intro (And.intro (ti112) (ti113)) (And.intro (ti114) (ti115))))) (And.intro (And.intro (And.intro (And.intro (ti116) (ti117)) (And.intro (own0) (own1))) (And.intro (And.intro (own2) (own3)) (And.intro (own4) (own5)))) (And.intro (And.intro (And.intro (own6) (own7)) (And.intro (own8) (own9))) (And.intro (And.intro (own10) (own11)) (And.intro (own12) (own13))))))
def tab4 := PLift.up (And.intro (And.intro (And.intro (And.intro (And.intro (own14) (own15)) (And.intro (own16) (own17))) (And.intro (And.intro (own18) (own19)) (And.intro (own20) (own21)))) (And.intro (And.intro (And.intro (own22) (own23)) (And.intro (own24) (own25))) (And.intro (And.intro (own26) (own27)) (And.intro (own28) (own29))))) (And.intro (And.intro (And.intro (And.intro (own30) (own31)) (And.intro (own32) (own33))) (And.intro (And.intro (own34) (own35)) (And.intro (own36) (own37)))) (And.intro (And.intro (And.intro (own38) (own39)) (And.intro (own40) (own41))) (And.intro (And.intro (own42) (own43)) (And.intro (own44) (own45))))))
def tab5 := PLift.up (And.intro (And.intro (And.intro (And.intro (And.intro (own46) (own47)) (And.intro (own48) (own49))) (And.intro (And.intro (own50) (own51)) (And.intro (own52) (own53)))) (And.intro (And.intro (And.intro (own54) (own55)) (And.intro (own56) (own57))) (And.intro (And.intro (own58) (own59)) (And.intro (own60) (own61))))) (And.intro (And.intro (And.intro (And.intro (own62) (own63)) (And.intro (own64) (own65))) (And.intro (And.intro (own66) (own67)) (And.intro (own68) (own69)))) (And.intro (And.intro (And.intro (own70) (own71)) (And.intro (own72) (own73))) (And.intro (And.intro (own74) (own75)) (And.intro (own76) (own77))))))
def tab6 := PLift.up (And.intro (And.intro (And.intro (And.intro (And.intro (own78) (own79)) (And.intro (own80) (own81))) (And.intro (And.intro (own82) (own83)) (And.intro (own84) (kp0)))) (And.intro (And.intro (And.intro (kp1) (kp2)) (And.intro (kp3) (kp4))) (And.intro (And.intro (kp5) (kp6)) (And.intro (kp7) (kp8))))) (And.intro (And.intro (And.intro (And.intro (kp9) (kp10)) (And.intro (kp11) (kp12))) (And.intro (And.intro (kp13) (kp14)) (And.intro (kp15) (kp16)))) (And.intro (And.intro (And.intro (kp17) (kp18)) (And.intro (kp19) (kp20))) (And.intro (And.intro (kp21) (kp22)) (And.intro (kp23) (kp24))))))
def tab7 := PLift.up (And.intro (And.intro (And.intro (And.intro (And.intro (kp25) (kp26)) (And.intro (kp27) (kp28))) (And.intro (And.intro (kp29) (kp30)) (And.intro (kp31) (kp32)))) (And.intro (And.intro (And.intro (kp33) (kp34)) (And.intro (kp35) (kp36))) (And.intro (And.intro (kp37) (kp38)) (And.intro (kp39) (kp40))))) (And.intro (And.intro (And.intro (And.intro (kp41) (kp42)) (And.intro (kp43) (kp44))) (And.intro (And.intro (kp45) (kp46)) (And.intro (kp47) (kp48)))) (And.intro (And.intro (And.intro (kp49) (kp50)) (And.intro (kp51) (kp52))) (And.intro (And.intro (kp53) (kp54)) (And.intro (kp55) (kp56))))))
def tab8 := PLift.up (And.intro (And.intro (And.intro (And.intro (And.intro (kp57) (kp58)) (And.intro (kp59) (kp60))) (And.intro (And.intro (kp61) (kp62)) (And.intro (kp63) (kp64)))) (And.intro (And.intro (And.intro (kp65) (kp66)) (And.intro (kp67) (kp68))) (And.intro (And.intro (kp69) (kp70)) (And.intro (kp71) (kp72))))) (And.intro (And.intro (And.intro (And.intro (kp73) (kp74)) (And.intro (kp75) (kp76))) (And.intro (And.intro (kp77) (kp78)) (And.intro (kp79) (kp80)))) (And.intro (And.intro (And.intro (kp81) (kp82)) (And.intro (kp83) (kp84))) (And.intro (And.intro (pr0) (pr1)) (And.intro (pr2) (pr3))))))
def tab9 := PLift.up (And.intro (And.intro (And.intro (And.intro (And.intro (pr5) (pr6)) (And.intro (pr7) (pr8))) (And.intro (And.intro (pr9) (pr10)) (And.intro (pr11) (pr12)))) (And.intro (And.intro (And.intro (pr13) (pr14)) (And.intro (pr15) (pr16))) (And.intro (And.intro (pr17) (pr18)) (And.intro (pr19) (pr20))))) (And.intro (And.intro (And.intro (And.intro (pr21) (pr22)) (And.intro (pr23) (pr24))) (And.intro (And.intro (pr25) (pr26)) (And.intro (pr27) (pr28)))) (And.intro (And.intro (And.intro (pr29) (pr30)) (And.intro (pr31) (pr32))) (And.intro (And.intro (pr33) (pr34)) (And.intro (pr35) (pr36))))))
def tab10 := PLift.up (And.intro (And.intro (And.intro (And.intro (And.intro (pr37) (pr38)) (And.intro (pr39) (pr40))) (And.intro (And.intro (pr41) (pr42)) (And.intro (pr43) (pr44)))) (And.intro (And.intro (And.intro (pr45) (pr46)) (And.intro (pr47) (pr48))) (And.intro (And.intro (pr49) (pr50)) (And.intro (pr51) (pr52))))) (And.intro (And.intro (And.intro (And.intro (pr53) (pr54)) (And.intro (pr55) (pr56))) (And.intro (And.intro (pr57) (pr58)) (And.intro (pr59) (pr60)))) (And.intro (And.intro (And.intro (pr61) (pr62)) (And.intro (pr63) (pr64))) (And.intro (And.intro (pr65) (pr66)) (And.intro (pr67) (pr68))))))
def tab11 := PLift.up (And.intro (And.intro (And.intro (And.intro (And.intro (pr69) (pr70)) (And.intro (pr71) (pr72))) (And.intro (And.intro (pr73) (pr74)) (And.intro (pr75) (pr76)))) (And.intro (And.intro (And.intro (pr77) (pr78)) (And.intro (pr79) (pr80))) (And.intro (And.intro (pr81) (pr82)) (And.intro (pr83) (pr84))))) (And.intro (And.intro (And.intro (And.intro (pr4_0) (pr4_1)) (And.intro (pr4_2) (pr4_3))) (And.intro (And.intro (pr4_4) (pr4_5)) (And.intro (pr4_6) (pr4_7)))) (And.intro (And.intro (And.intro (pr4_8) (pr4_9)) (And.intro (pr4_10) (pr4_11))) (And.intro (And.intro (pr4_12) (pr4_13)) (And.intro (pr4_14) (pr4_15))))))
def tab12 := PLift.up (And.intro (And.intro (And.intro (And.intro (And.intro (pr4_16) (pr4_17)) (And.intro (pr4_18) (pr4_19))) (And.intro (And.intro (pr4_20) (pr4_21)) (And.intro (pr4_22) (pr4_23)))) (And.intro (And.intro (And.intro (pr4_24) (pr4_25)) (And.intro (pr4_26) (pr4_27))) (And.intro (And.intro (pr4_28) (pr4_29)) (And.intro (pr4_30) (pr4_31))))) (And.intro (And.intro (And.intro (And.intro (pr4_32) (pr4_33)) (And.intro (pr4_34) (pr4_35))) (And.intro (And.intro (pr4_36) (pr4_37)) (And.intro (pr4_38) (pr4_39)))) (And.intro (And.intro (And.intro (pr4_40) (pr4_41)) (And.intro (pr4_42) (pr4_43))) (And.intro (And.intro (pr4_44) (pr4_45)) (And.intro (pr4_46) (pr4_47))))))
def tab13 := PLift.up (And.intro (And.intro (And.intro (And.intro (pr4_48) (And.intro (pr4_49) (pr4_50))) (And.intro (pr4_51) (And.intro (pr4_52) (pr4_53)))) (And.intro (And.intro (pr4_54) (And.intro (pr4_55) (pr4_56))) (And.intro (pr4_57) (And.intro (pr4_58) (pr4_59))))) (And.intro (And.intro (And.intro (pr4_60) (And.intro (pr4_61) (pr4_62))) (And.intro (pr4_63) (And.intro (pr4_64) (pr4_65)))) (And.intro (And.intro (pr4_66) (And.intro (pr4_67) (pr4_68))) (And.intro (And.intro (pr4_69) (pr4_70)) (And.intro (pr4_71) (pr4_72))))))
def tab := PLift.up (And.intro (And.intro (And.intro (tab0.down) (And.intro (tab1.down) (tab2.down))) (And.intro (And.intro (tab3.down) (tab4.down)) (And.intro (tab5.down) (tab6.down)))) (And.intro (And.intro (tab7.down) (And.intro (tab8.down) (tab9.down))) (And.intro (And.intro (tab10.down) (tab11.down)) (And.intro (tab12.down) (tab13.down)))))
theorem fn2 : G.fn 2 = some ⟨Try.f2.ntmps, Try.f2.results.toList, Try.f2.body.get!⟩ := by kernel_rfl
theorem fn3 : G.fn 3 = some ⟨Try.f3.ntmps, Try.f3.results.toList, Try.f3.body.get!⟩ := by kernel_rfl
theorem fn4 : G.fn 4 = some ⟨Try.f4.ntmps, Try.f4.results.toList, Try.f4.body.get!⟩ := by kernel_rfl
theorem fn5 : G.fn 5 = some ⟨Try.f5.ntmps, Try.f5.results.toList, Try.f5.body.get!⟩ := by kernel_rfl
theorem fn6 : G.fn 6 = some ⟨Try.f6.ntmps, Try.f6.results.toList, Try.f6.body.get!⟩ := by kernel_rfl
theorem fn7 : G.fn 7 = some ⟨Try.f7.ntmps, Try.f7.results.toList, Try.f7.body.get!⟩ := by kernel_rfl
theorem fn8 : G.fn 8 = some ⟨Try.f8.ntmps, Try.f8.results.toList, Try.f8.body.get!⟩ := by kernel_rfl
theorem fn9 : G.fn 9 = some ⟨Try.f9.ntmps, Try.f9.results.toList, Try.f9.body.get!⟩ := by kernel_rfl
theorem fn10 : G.fn 10 = some ⟨Try.f10.ntmps, Try.f10.results.toList, Try.f10.body.get!⟩ := by kernel_rfl
theorem fn11 : G.fn 11 = some ⟨Try.f11.ntmps, Try.f11.results.toList, Try.f11.body.get!⟩ := by kernel_rfl
theorem fn12 : G.fn 12 = some ⟨Try.f12.ntmps, Try.f12.results.toList, Try.f12.body.get!⟩ := by kernel_rfl
theorem fn13 : G.fn 13 = some ⟨Try.f13.ntmps, Try.f13.results.toList, Try.f13.body.get!⟩ := by kernel_rfl
theorem fn14 : G.fn 14 = some ⟨Try.f14.ntmps, Try.f14.results.toList, Try.f14.body.get!⟩ := by kernel_rfl
theorem fn15 : G.fn 15 = some ⟨Try.f15.ntmps, Try.f15.results.toList, Try.f15.body.get!⟩ := by kernel_rfl
theorem fn16 : G.fn 16 = some ⟨Try.f16.ntmps, Try.f16.results.toList, Try.f16.body.get!⟩ := by kernel_rfl
theorem fn17 : G.fn 17 = some ⟨Try.f17.ntmps, Try.f17.results.toList, Try.f17.body.get!⟩ := by kernel_rfl
theorem fn18 : G.fn 18 = some ⟨Try.f18.ntmps, Try.f18.results.toList, Try.f18.body.get!⟩ := by kernel_rfl
theorem fn19 : G.fn 19 = some ⟨Try.f19.ntmps, Try.f19.results.toList, Try.f19.body.get!⟩ := by kernel_rfl
theorem fn20 : G.fn 20 = some ⟨Try.f20.ntmps, Try.f20.results.toList, Try.f20.body.get!⟩ := by kernel_rfl
theorem fn21 : G.fn 21 = some ⟨Try.f21.ntmps, Try.f21.results.toList, Try.f21.body.get!⟩ := by kernel_rfl
theorem fn22 : G.fn 22 = some ⟨Try.f22.ntmps, Try.f22.results.toList, Try.f22.body.get!⟩ := by kernel_rfl
theorem fn23 : G.fn 23 = some ⟨Try.f23.ntmps, Try.f23.results.toList, Try.f23.body.get!⟩ := by kernel_rfl
theorem fn24 : G.fn 24 = some ⟨Try.f24.ntmps, Try.f24.results.toList, Try.f24.body.get!⟩ := by kernel_rfl
theorem fn25 : G.fn 25 = some ⟨Try.f25.ntmps, Try.f25.results.toList, Try.f25.body.get!⟩ := by kernel_rfl
theorem fn26 : G.fn 26 = some ⟨Try.f26.ntmps, Try.f26.results.toList, Try.f26.body.get!⟩ := by kernel_rfl
theorem fn27 : G.fn 27 = some ⟨Try.f27.ntmps, Try.f27.results.toList, Try.f27.body.get!⟩ := by kernel_rfl
theorem fn28 : G.fn 28 = some ⟨Try.f28.ntmps, Try.f28.results.toList, Try.f28.body.get!⟩ := by kernel_rfl
theorem fn29 : G.fn 29 = some ⟨Try.f29.ntmps, Try.f29.results.toList, Try.f29.body.get!⟩ := by kernel_rfl
theorem fn30 : G.fn 30 = some ⟨Try.f30.ntmps, Try.f30.results.toList, Try.f30.body.get!⟩ := by kernel_rfl
theorem fn31 : G.fn 31 = some ⟨Try.f31.ntmps, Try.f31.results.toList, Try.f31.body.get!⟩ := by kernel_rfl
theorem fn32 : G.fn 32 = some ⟨Try.f32.ntmps, Try.f32.results.toList, Try.f32.body.get!⟩ := by kernel_rfl
theorem fn33 : G.fn 33 = some ⟨Try.f33.ntmps, Try.f33.results.toList, Try.f33.body.get!⟩ := by kernel_rfl
theorem fn34 : G.fn 34 = some ⟨Try.f34.ntmps, Try.f34.results.toList, Try.f34.body.get!⟩ := by kernel_rfl
theorem fn35 : G.fn 35 = some ⟨Try.f35.ntmps, Try.f35.results.toList, Try.f35.body.get!⟩ := by kernel_rfl
theorem fn36 : G.fn 36 = some ⟨Try.f36.ntmps, Try.f36.results.toList, Try.f36.body.get!⟩ := by kernel_rfl
theorem fn37 : G.fn 37 = some ⟨Try.f37.ntmps, Try.f37.results.toList, Try.f37.body.get!⟩ := by kernel_rfl
theorem fn38 : G.fn 38 = some ⟨Try.f38.ntmps, Try.f38.results.toList, Try.f38.body.get!⟩ := by kernel_rfl
theorem fn39 : G.fn 39 = some ⟨Try.f39.ntmps, Try.f39.results.toList, Try.f39.body.get!⟩ := by kernel_rfl
theorem fn40 : G.fn 40 = some ⟨Try.f40.ntmps, Try.f40.results.toList, Try.f40.body.get!⟩ := by kernel_rfl
theorem fn41 : G.fn 41 = some ⟨Try.f41.ntmps, Try.f41.results.toList, Try.f41.body.get!⟩ := by kernel_rfl
theorem fn42 : G.fn 42 = some ⟨Try.f42.ntmps, Try.f42.results.toList, Try.f42.body.get!⟩ := by kernel_rfl
theorem fn43 : G.fn 43 = some ⟨Try.f43.ntmps, Try.f43.results.toList, Try.f43.body.get!⟩ := by kernel_rfl
theorem fn44 : G.fn 44 = some ⟨Try.f44.ntmps, Try.f44.results.toList, Try.f44.body.get!⟩ := by kernel_rfl
theorem fn45 : G.fn 45 = some ⟨Try.f45.ntmps, Try.f45.results.toList, Try.f45.body.get!⟩ := by kernel_rfl
theorem fn46 : G.fn 46 = some ⟨Try.f46.ntmps, Try.f46.results.toList, Try.f46.body.get!⟩ := by kernel_rfl
theorem fn47 : G.fn 47 = some ⟨Try.f47.ntmps, Try.f47.results.toList, Try.f47.body.get!⟩ := by kernel_rfl
theorem fn48 : G.fn 48 = some ⟨Try.f48.ntmps, Try.f48.results.toList, Try.f48.body.get!⟩ := by kernel_rfl
theorem fn49 : G.fn 49 = some ⟨Try.f49.ntmps, Try.f49.results.toList, Try.f49.body.get!⟩ := by kernel_rfl
theorem fn50 : G.fn 50 = some ⟨Try.f50.ntmps, Try.f50.results.toList, Try.f50.body.get!⟩ := by kernel_rfl
theorem fn51 : G.fn 51 = some ⟨Try.f51.ntmps, Try.f51.results.toList, Try.f51.body.get!⟩ := by kernel_rfl
theorem fn52 : G.fn 52 = some ⟨Try.f52.ntmps, Try.f52.results.toList, Try.f52.body.get!⟩ := by kernel_rfl
theorem fn53 : G.fn 53 = some ⟨Try.f53.ntmps, Try.f53.results.toList, Try.f53.body.get!⟩ := by kernel_rfl
theorem fn54 : G.fn 54 = some ⟨Try.f54.ntmps, Try.f54.results.toList, Try.f54.body.get!⟩ := by kernel_rfl
theorem fn55 : G.fn 55 = some ⟨Try.f55.ntmps, Try.f55.results.toList, Try.f55.body.get!⟩ := by kernel_rfl
theorem fn56 : G.fn 56 = some ⟨Try.f56.ntmps, Try.f56.results.toList, Try.f56.body.get!⟩ := by kernel_rfl
theorem fn57 : G.fn 57 = some ⟨Try.f57.ntmps, Try.f57.results.toList, Try.f57.body.get!⟩ := by kernel_rfl
theorem fn58 : G.fn 58 = some ⟨Try.f58.ntmps, Try.f58.results.toList, Try.f58.body.get!⟩ := by kernel_rfl
theorem fn59 : G.fn 59 = some ⟨Try.f59.ntmps, Try.f59.results.toList, Try.f59.body.get!⟩ := by kernel_rfl
theorem fn60 : G.fn 60 = some ⟨Try.f60.ntmps, Try.f60.results.toList, Try.f60.body.get!⟩ := by kernel_rfl
theorem fn61 : G.fn 61 = some ⟨Try.f61.ntmps, Try.f61.results.toList, Try.f61.body.get!⟩ := by kernel_rfl
theorem fn62 : G.fn 62 = some ⟨Try.f62.ntmps, Try.f62.results.toList, Try.f62.body.get!⟩ := by kernel_rfl
theorem fn63 : G.fn 63 = some ⟨Try.f63.ntmps, Try.f63.results.toList, Try.f63.body.get!⟩ := by kernel_rfl
theorem fn64 : G.fn 64 = some ⟨Try.f64.ntmps, Try.f64.results.toList, Try.f64.body.get!⟩ := by kernel_rfl
theorem fn65 : G.fn 65 = some ⟨Try.f65.ntmps, Try.f65.results.toList, Try.f65.body.get!⟩ := by kernel_rfl
theorem fn66 : G.fn 66 = some ⟨Try.f66.ntmps, Try.f66.results.toList, Try.f66.body.get!⟩ := by kernel_rfl
theorem fn67 : G.fn 67 = some ⟨Try.f67.ntmps, Try.f67.results.toList, Try.f67.body.get!⟩ := by kernel_rfl
end Go.Proofs.Ytdhgdeelagmbpaa
