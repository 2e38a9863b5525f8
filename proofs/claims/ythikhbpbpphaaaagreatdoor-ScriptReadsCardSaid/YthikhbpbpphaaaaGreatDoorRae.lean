/-
  The tables of the program as the machine reads it.
-/
import Derived.Test.YthikhbpbpphaaaaGreatDoorRows
import Derived.Test.YthikhbpbpphaaaaGreatDoorRad
set_option linter.unusedSimpArgs false
set_option linter.unusedVariables false
namespace Go.Proofs.YthikhbpbpphaaaaGreatDoor
open Go Go.Gm
def spec : FuncId → Nat → jf
 | 5,0 => ⟨[0,6,7,8,9],[2,3,4,5,6,7,8,9],[8],[],[],0⟩
 | 6,0 => ⟨[0,6,7,9,10],[2,3,4,5,7,9],[9],[],[],0⟩
 | 7,0 => ⟨[0,1,5],[4],[],[],[],0⟩
 | 8,0 => ⟨[0,1,5],[4],[],[],[],0⟩
 | 9,0 => ⟨[9,10,34,35,36],[10],[],[],[],1000⟩
 | 10,0 => ⟨[0,3,4],[3],[],[],[],1000⟩
 | 11,0 => ⟨[0,3],[0,3],[3],[],[],0⟩
 | 12,1 => ⟨[0,2,3],[0,2,3],[],[(3,5)],[],0⟩
 | 12,3 => ⟨[0,2,3],[0,2,3],[],[(3,6)],[],0⟩
 | 13,0 => ⟨[0,4],[2,3,4],[4],[],[],0⟩
 | 15,1 => ⟨[0,2,4,5],[2,4,5],[],[(4,5)],[],0⟩
 | 15,3 => ⟨[0,2,4,5],[2,4,5],[],[(4,6)],[],0⟩
 | 16,0 => ⟨[0,1,5],[4],[],[],[],0⟩
 | 17,0 => ⟨[0,1,5],[4],[],[],[],0⟩
 | 18,0 => ⟨[0,6,15,16,17],[0,4,5,6],[],[],[],1000⟩
 | 21,0 => ⟨[0,5,28,29,30],[0,5],[],[],[],1000⟩
 | 21,2 => ⟨[0,46,47,48],[0],[],[],[],1000⟩
 | 21,4 => ⟨[0,9,10,46,47,48,53,54,55],[0,9,10,46,47,48],[],[],[],1000⟩
 | 24,0 => ⟨[0,3],[0,3],[],[],[],0⟩
 | 31,0 => ⟨[0,3],[0,3],[],[],[],0⟩
 | 34,0 => ⟨[0,3,4],[2],[],[],[],0⟩
 | 52,0 => ⟨[1,2,3,7,8,9],[1,2,3],[3],[],[],1000⟩
 | 53,0 => ⟨[0,4,5,6],[0,2,3,4,5,6],[],[],[],0⟩
 | 55,0 => ⟨[0,4,5,6],[0,4,5,6],[],[],[],0⟩
 | 57,0 => ⟨[0,3],[0,2],[],[],[],1000⟩
 | 59,0 => ⟨[0,1,7,8],[4],[],[],[],1000⟩
 | 61,0 => ⟨[0,6,12,13,14],[0,4,5,6],[6],[],[],1000⟩
 | 64,0 => ⟨[0,1,14,15,16],[1,4,5],[],[],[],1000⟩
 | 66,0 => ⟨[1,2,4,11,13,37,38,39],[4,11],[],[],[],1000⟩
 | 71,0 => ⟨[1,5,13,14,15],[5],[5],[],[],1000⟩
 | 72,0 => ⟨[0,1,5,20,21,22],[5],[5],[],[],1000⟩
 | 72,2 => ⟨[12,73,74,75],[12],[12],[],[],1000⟩
 | 79,0 => ⟨[0,1,7,9,10],[0,1,7,9],[],[],[],1000⟩
 | 79,2 => ⟨[0,1,7,11,65,66,67],[0,1,7],[],[],[],1000⟩
 | 80,0 => ⟨[0,1,4,5],[0,1,4,5],[],[],[],1000⟩
 | 80,2 => ⟨[0,1,4,5,6],[0,1,4,5,6],[],[],[],1000⟩
 | 83,0 => ⟨[1,2,3,10,11,12],[1,2,3],[3],[],[],1000⟩
 | 83,2 => ⟨[1,2,3,5,6,10,11,12,17,18,19],[1,2,3,5,6,10,11,12],[6],[],[],1000⟩
 | 87,0 => ⟨[0,1,2,3],[1,3],[],[],[],1000⟩
 | 90,0 => ⟨[4,14,15,16],[4],[4],[],[],1000⟩
 | 95,0 => ⟨[3,6,42,43,44],[2],[],[],[],1000⟩
 | 95,2 => ⟨[3,6,7,8,9,42,43,44,54,55,56],[2,3,8,42,43,44],[],[],[],1000⟩
 | 96,0 => ⟨[0,1,7,8,9],[0,1,4],[],[],[],1000⟩
 | 97,0 => ⟨[3,14,15,16],[3],[],[(3,2)],[],1000⟩
 | 98,0 => ⟨[0,1],[],[],[],[],1000⟩
 | 99,0 => ⟨[0,14,15,16],[],[],[],[2000],1000⟩
 | 100,0 => ⟨[0,3],[2],[],[],[],1000⟩
 | 100,2 => ⟨[0,3,4],[0,2,3],[],[],[],1000⟩
 | 100,4 => ⟨[0,3,4,44,45,46],[0,2,3,4],[],[],[],1000⟩
 | 101,0 => ⟨[0,2,11,12],[],[],[],[],1000⟩
 | 101,2 => ⟨[0,2,3,4,11,12,34,35,36],[0,3,4,11,12],[],[(4,1),(4,2)],[],1000⟩
 | 102,0 => ⟨[0,2,3,9,10,11],[0,2,3],[3],[],[],1000⟩
 | 104,0 => ⟨[3,10,11,12],[3],[3],[],[],1000⟩
 | 104,2 => ⟨[6,28,29,30],[6],[6],[],[],1000⟩
 | 105,0 => ⟨[0,1,6,7],[0,1,6,7],[7],[],[],1000⟩
 | 106,0 => ⟨[3,7,8,9],[3],[],[],[],1000⟩
 | 107,0 => ⟨[3,6,7,8],[3],[3],[],[],1000⟩
 | 109,0 => ⟨[1,2,11,12,13,39,40,41],[6,7,8,12,13],[12,13],[],[],1000⟩
 | 111,0 => ⟨[1,4,5,6,13,14,15],[4,5],[],[(5,1)],[],1000⟩
 | 111,2 => ⟨[1,4,5,6,8,9,10,13,14,15,36,37,38],[1,4,5,6,8,10,13,14,15],[],[(10,2)],[],1000⟩
 | 113,0 => ⟨[1,2,4,6,7,23,24,25],[1,2,4,6,7],[7],[],[],1000⟩
 | 115,0 => ⟨[0,9,10,11],[4,5],[],[],[],1000⟩
 | 116,0 => ⟨[0,13,14,15],[4,5],[],[],[],1000⟩
 | 117,0 => ⟨[1,2,6,7,14,15,16],[6,7],[6],[],[],1000⟩
 | 117,2 => ⟨[1,2,6,7,10,14,15,16,21,22,23],[1,2,6,7,14,15,16],[6],[],[],1000⟩
 | 118,0 => ⟨[0,7,8,9,23,24,25],[7],[7],[],[],1000⟩
 | 123,0 => ⟨[0,1,5,15,16,17],[0,1,4,5],[5],[],[],1000⟩
 | 123,2 => ⟨[0,1,35,36,37],[],[],[],[],1000⟩
 | 124,0 => ⟨[1,5,8,9,10],[5],[5],[],[1],1000⟩
 | 129,0 => ⟨[0],[0],[],[],[],1000⟩
 | 130,0 => ⟨[0],[0],[],[],[],1000⟩
 | 137,0 => ⟨[3,6,7,8],[2,3],[],[],[],1000⟩
 | 141,0 => ⟨[0,1],[1],[],[],[],1000⟩
 | 142,0 => ⟨[0,1],[1],[],[],[],1000⟩
 | 146,0 => ⟨[0,1],[0,1],[],[],[],1000⟩
 | 146,2 => ⟨[0,1],[1],[],[],[],1000⟩
 | 147,0 => ⟨[0,1],[0,1],[],[],[],1000⟩
 | 147,2 => ⟨[0,1],[1],[],[],[],1000⟩
 | 149,0 => ⟨[0,1,12,13],[4],[],[],[],1000⟩
 | 150,0 => ⟨[2,5,18,19,20],[4],[],[],[18],1000⟩
 | 152,0 => ⟨[0,5,10,11,12],[5],[5],[],[],1000⟩
 | 152,2 => ⟨[0,5,10,11,12,17,18,19],[0,5,10,11,12],[5],[],[],1000⟩
 | 153,0 => ⟨[3,10,11,12],[2],[],[],[],1000⟩
 | 154,0 => ⟨[3,6,7,8],[3],[3],[],[],1000⟩
 | 155,0 => ⟨[0,7,8,9],[0],[],[],[],1000⟩
 | 156,0 => ⟨[2,9,10,11],[4],[],[],[],1000⟩
 | 157,0 => ⟨[0,2,3],[],[],[],[],1000⟩
 | 158,0 => ⟨[2,3,11,12,13],[4,5],[],[],[],1000⟩
 | 158,2 => ⟨[2,3,6,11,12,13,19,20,21],[2,3,4,5,11,12,13],[],[],[],1000⟩
 | 159,0 => ⟨[0,1,5,10,12,13,14],[0,1,5,10,12],[],[],[],1000⟩
 | 159,2 => ⟨[0,1,5,10,12,91,92,93],[0,10],[],[],[],1000⟩
 | 160,0 => ⟨[1,3,12,13,14],[1,3],[],[],[1],1000⟩
 | 160,2 => ⟨[1,3,6],[6],[6],[],[],1000⟩
 | 161,0 => ⟨[0,1,2,3,9,10,11,47,48,49],[0,1,2,3,9,10,11],[],[],[],1000⟩
 | 161,2 => ⟨[0,1,2,3,15,16,17],[8],[],[],[],1000⟩
 | 168,0 => ⟨[0,1,7,8,9],[4],[],[],[],1000⟩
 | 170,0 => ⟨[10,12],[10,12],[],[],[],1000⟩
 | 173,0 => ⟨[3,11,12,13],[3],[],[],[],1000⟩
 | 173,2 => ⟨[3,11,12,13,18,19,20],[3,11,12,13],[],[],[],1000⟩
 | 174,0 => ⟨[2,3,12,13,14],[2,3],[],[(3,2)],[],1000⟩
 | 174,2 => ⟨[2,3,6,12,13,14,23,24],[2,3,6,12,13,14],[],[],[],1000⟩
 | 176,0 => ⟨[0,2,3],[],[],[],[],1000⟩
 | 183,0 => ⟨[0,1,14,15,16],[0],[],[],[],1000⟩
 | 186,0 => ⟨[0,1,4],[0,1,4],[],[],[],1000⟩
 | 187,0 => ⟨[0,1,3,4,10,11,12,13,14,15,16],[0,1,3,4,10,11,12,13],[],[],[],1000⟩
 | 187,2 => ⟨[0,1,3,4,10,11,12,13,17],[0,1,3,4,10,11,12,13],[],[],[],1000⟩
 | 188,0 => ⟨[1,2,3,11,12,13],[1,2,3],[3],[],[],1000⟩
 | 191,0 => ⟨[0,2,3,4],[2,3],[],[],[],1000⟩
 | 193,0 => ⟨[0,1,2,6,7,8],[0,1,2,6,7],[],[],[],1000⟩
 | 193,2 => ⟨[0,1,2,6],[],[],[],[],1000⟩
 | 193,4 => ⟨[0,1,2,6,7,8],[0,1,2,6,7],[],[],[],1000⟩
 | 198,0 => ⟨[1,2,7,8],[6,7],[],[],[],1000⟩
 | 203,0 => ⟨[1,2,5],[1,2,4],[],[],[],1000⟩
 | 208,0 => ⟨[7,8],[7],[],[],[],1000⟩
 | 209,0 => ⟨[5,6,12,13,14,34,35,36],[12,14],[],[(14,1),(14,2)],[],1000⟩
 | 212,0 => ⟨[1,2,5,12,13,14],[5],[],[],[],1000⟩
 | 212,2 => ⟨[1,2,5,7,8,12,13,14],[1,2,5,12,13,14],[],[],[],1000⟩
 | 213,0 => ⟨[0,1,7,8],[4],[],[],[],1000⟩
 | 215,0 => ⟨[1,2,3,7,8,9,10],[7,8,9],[],[],[],1000⟩
 | 216,0 => ⟨[1,3,10,12,13,40,41,42],[1,6,7,8,10,12,13],[12],[],[],1000⟩
 | 216,2 => ⟨[1,3,10,12,13,15,16,40,41,42,52,53,54],[1,3,10,12,13,15,16,40,41,42],[16],[],[],1000⟩
 | 216,4 => ⟨[1,3,10,12,15,16,40,41,42,74,75,76],[1,3,10,12,15,40,41,42],[12],[],[],1000⟩
 | 217,0 => ⟨[0,1,2,6,7,8],[0,1,2,6,7],[],[],[],1000⟩
 | 217,2 => ⟨[0,1,2,6],[],[],[],[],1000⟩
 | 217,4 => ⟨[0,1,2,6,7,8],[0,1,2,6,7],[],[],[],1000⟩
 | 223,0 => ⟨[0,5,6],[0,5,6],[],[],[],1000⟩
 | 223,2 => ⟨[0,5,6],[0,5,6],[],[],[],1000⟩
 | 224,0 => ⟨[0,8,9,10],[4,5],[],[],[],1000⟩
 | 226,0 => ⟨[0,5,8,9,10],[5],[5],[],[],1000⟩
 | 227,0 => ⟨[0,6,7,8],[],[],[],[],1000⟩
 | 228,0 => ⟨[0,2,9,10,11],[6],[],[],[],1000⟩
 | 229,0 => ⟨[0,1,2,12,13],[1,6,7],[1],[],[],1000⟩
 | 230,0 => ⟨[0,1,5,6,12,13,14],[0,1,5,6],[],[],[],1000⟩
 | 230,2 => ⟨[0,1,5,6,37,38,39],[0,1,6],[],[],[],1000⟩
 | 231,0 => ⟨[0,1,3,4,17,18,19],[1],[1],[],[],1000⟩
 | 231,2 => ⟨[0,1,3,4,12,14,17,18,19,52,53,54],[0,1,3,4,12,14,17,18,19],[],[(14,17)],[],1000⟩
 | 232,0 => ⟨[0,1,2,6,7,8],[0,1,2,6,7],[],[],[],1000⟩
 | 232,2 => ⟨[0,1,2,6],[],[],[],[],1000⟩
 | 232,4 => ⟨[0,1,2,6,7,8],[0,1,2,6,7],[],[],[],1000⟩
 | 242,0 => ⟨[0,1,2,3,8],[],[],[],[],1000⟩
 | 242,2 => ⟨[0,1,2,3,8,9],[0,1,2,3,8],[],[],[],1000⟩
 | 243,0 => ⟨[0,1,4,10,11],[0,1,10],[],[],[],1000⟩
 | 243,2 => ⟨[0,10,13],[],[],[],[],1000⟩
 | 243,4 => ⟨[0,2,4,14,15],[0,2,14],[],[],[],1000⟩
 | 243,6 => ⟨[0,14,17],[],[],[],[],1000⟩
 | 243,8 => ⟨[0,1,2,3,4,18,19,20,21,22],[0,1,2,3,4,18,19,20],[],[],[],1000⟩
 | 244,0 => ⟨[1,4,6,7],[4,5,6],[],[],[],1000⟩
 | 246,0 => ⟨[0,1,7,8],[0,6],[],[],[],1000⟩
 | 250,0 => ⟨[0,1,7,8],[4],[],[],[],1000⟩
 | 252,0 => ⟨[1,2,4,5,10,11,19,20,21],[1,2,4,5,10,11],[],[(11,3)],[],1000⟩
 | 252,2 => ⟨[10,11,71,72,73],[10,11],[],[],[],1000⟩
 | 253,0 => ⟨[0,2,3,4,6,10,12,13,14,32,33,34],[10,12,13],[13],[(12,2)],[],1000⟩
 | 256,0 => ⟨[0,5],[],[],[],[],1000⟩
 | 260,0 => ⟨[1,5,12,13,14],[5],[],[],[],1000⟩
 | 261,0 => ⟨[0,1,2,3,8],[],[],[],[],1000⟩
 | 261,2 => ⟨[0,1,2,3,8,9],[0,1,2,3,8],[],[],[],1000⟩
 | 262,0 => ⟨[0,1,4,10,11],[0,1,10],[],[],[],1000⟩
 | 262,2 => ⟨[0,10,13],[],[],[],[],1000⟩
 | 262,4 => ⟨[0,2,4,14,15],[0,2,14],[],[],[],1000⟩
 | 262,6 => ⟨[0,14,17],[],[],[],[],1000⟩
 | 262,8 => ⟨[0,1,2,3,4,18,19,20,21,22],[0,1,2,3,4,18,19,20],[],[],[],1000⟩
 | 265,0 => ⟨[0,4,5],[0,2,3,4,5],[],[],[],1000⟩
 | 266,0 => ⟨[0,4],[0,4],[],[],[],1000⟩
 | 277,0 => ⟨[0,1,2,3,8],[],[],[],[],1000⟩
 | 277,2 => ⟨[0,1,2,3,8,9],[0,1,2,3,8],[],[],[],1000⟩
 | 278,0 => ⟨[0,1,4,10,11],[0,1,10],[],[],[],1000⟩
 | 278,2 => ⟨[0,10,13],[],[],[],[],1000⟩
 | 278,4 => ⟨[0,2,4,14,15],[0,2,14],[],[],[],1000⟩
 | 278,6 => ⟨[0,14,17],[],[],[],[],1000⟩
 | 278,8 => ⟨[0,1,2,3,4,18,19,20,21,22],[0,1,2,3,4,18,19,20],[],[],[],1000⟩
 | 279,0 => ⟨[0,5],[],[],[],[],1000⟩
 | 282,0 => ⟨[0,2,4,10,11],[0,2,4,10],[],[],[],1000⟩
 | 285,0 => ⟨[0,2,3,5,8,9],[0,2,3,5,8],[],[],[],1000⟩
 | 285,2 => ⟨[0,3,5,8,10,11],[],[],[],[],1000⟩
 | 286,0 => ⟨[0,2,4,6,28,29,30],[],[],[],[],1000⟩
 | 290,0 => ⟨[0,1,2,3,8,9],[],[],[],[],1000⟩
 | 293,0 => ⟨[0,5,6,7],[2],[],[],[],1000⟩
 | 294,0 => ⟨[11,12,13],[8,9,10,11,12],[12],[],[],1000⟩
 | 296,1 => ⟨[6,16,17,18],[6],[],[],[],1000⟩
 | 296,3 => ⟨[6,31,32,33],[6],[],[],[],1000⟩
 | 297,0 => ⟨[0,2,4,10,11],[0,2,4,10],[],[],[],1000⟩
 | 298,0 => ⟨[0,4,5],[0,4,5],[4,5],[],[],1000⟩
 | 299,0 => ⟨[0,1,4,7],[0,1,4,7],[7],[],[],1000⟩
 | 302,0 => ⟨[0,1,5],[4],[],[],[],1000⟩
 | 306,0 => ⟨[0,1,2,3,8,9],[],[],[],[],1000⟩
 | 308,0 => ⟨[0,2,4,10,11],[0,2,4,10],[],[],[],1000⟩
 | 309,0 => ⟨[0,1,2,3,10],[],[],[],[],1000⟩
 | 312,0 => ⟨[0,1,2,6],[],[],[],[],1000⟩
 | 312,2 => ⟨[0,1,2,6,7],[0,1,2,6],[],[],[],1000⟩
 | 313,0 => ⟨[0,6,7,8,9],[0,6,7,8],[],[],[],1000⟩
 | 313,2 => ⟨[0,6,7,10],[],[],[],[],1000⟩
 | 314,0 => ⟨[0,1,6,7,8,9],[],[],[],[],1000⟩
 | 316,0 => ⟨[0,6,7],[],[],[],[],1000⟩
 | 317,0 => ⟨[0,1,2,7,8],[6],[],[],[],1000⟩
 | 317,2 => ⟨[0,1,2,7,8],[0,1,2,7,8],[],[],[],1000⟩
 | 317,4 => ⟨[0,1,2,7,8,9],[0,1,2,7,8],[],[],[],1000⟩
 | 317,6 => ⟨[0,1,2,7,8,10],[0,1,2,7,8],[],[],[],1000⟩
 | 319,0 => ⟨[0,1,9,10],[9],[],[],[],1000⟩
 | 319,2 => ⟨[0,1,9,10],[0,1,9,10],[],[],[],1000⟩
 | 319,4 => ⟨[0,1,9,10],[0,1,9,10],[],[],[],1000⟩
 | 320,0 => ⟨[0,1,10,11],[0,1,10,11],[],[],[],1000⟩
 | 320,2 => ⟨[0,1,10,11],[0,1,10,11],[],[],[],1000⟩
 | 320,4 => ⟨[0,1,10,11],[0,1,11],[],[],[],1000⟩
 | 320,6 => ⟨[0,1,10,11],[0,1,10,11],[],[],[],1000⟩
 | 320,8 => ⟨[0,1,10,11],[0,1,10,11],[],[],[],1000⟩
 | 322,0 => ⟨[1,2,31,32,33],[1,6,7],[],[],[],1000⟩
 | 325,0 => ⟨[0,1,4],[4,5],[],[],[],1000⟩
 | 330,0 => ⟨[0,1,5,6],[5],[],[],[],1000⟩
 | 331,0 => ⟨[0,1,2,3,10],[],[],[],[],1000⟩
 | 333,0 => ⟨[0,1,7,8,9],[4,5,6],[],[(7,0),(8,0)],[],1000⟩
 | 335,0 => ⟨[0,1,12,13],[4],[],[],[],1000⟩
 | 337,0 => ⟨[0,1,2,3,10],[],[],[],[],1000⟩
 | 338,0 => ⟨[0,2,3,8],[],[],[],[],1000⟩
 | 347,0 => ⟨[0,3,4],[3],[3],[],[],1000⟩
 | 348,0 => ⟨[0,3,4],[3],[3],[],[],1000⟩
 | 349,0 => ⟨[1,4,5,22,23,24],[1,4,5],[],[(5,8)],[],1000⟩
 | 350,0 => ⟨[7,8],[7],[],[],[],1000⟩
 | 352,0 => ⟨[0,1,6,7,8],[0,1,6,7],[],[],[],1000⟩
 | 356,0 => ⟨[0,2,4,5],[2,3],[4,5],[],[],1000⟩
 | 361,0 => ⟨[0,1,12,13],[4],[],[],[],1000⟩
 | 362,0 => ⟨[1,2,15,16,17],[6],[],[],[],1000⟩
 | 365,0 => ⟨[0,5,6,7],[2],[],[],[],1000⟩
 | 369,0 => ⟨[0,1],[1],[],[],[],1000⟩
 | 370,0 => ⟨[0,4,5],[],[],[],[],1000⟩
 | 371,1 => ⟨[0,2,3,29,30,31],[8],[],[],[],1000⟩
 | 378,0 => ⟨[0,1,7,8],[1,4,5,6,7,8],[],[],[],1000⟩
 | 391,0 => ⟨[0,5,8,9,10],[5],[5],[],[],1000⟩
 | 394,0 => ⟨[0,3],[2],[],[],[],1000⟩
 | 395,0 => ⟨[0,1,2,9],[6,7,8],[9],[],[],1000⟩
 | 396,0 => ⟨[0,1,7,8],[4],[],[],[],1000⟩
 | 397,0 => ⟨[0,1,7,8],[4],[],[],[],1000⟩
 | 401,0 => ⟨[3,8,9,10],[3],[],[],[],1000⟩
 | 406,0 => ⟨[0,2,4,5],[2,3,4,5],[5],[],[],1000⟩
 | 410,0 => ⟨[1,7,8,9],[4],[],[],[],1000⟩
 | 411,0 => ⟨[3,8,9,10],[3],[],[],[],1000⟩
 | 413,0 => ⟨[3,10,11,12],[3],[3],[],[],1000⟩
 | 413,2 => ⟨[6,25,26,27],[6],[6],[],[],1000⟩
 | 416,0 => ⟨[0,4,5,6],[2,3,4,5],[],[],[],1000⟩
 | 420,0 => ⟨[0,1,2,6,7,8],[0,1,2,6,7],[],[],[],1000⟩
 | 420,2 => ⟨[0,1,2,6],[],[],[],[],1000⟩
 | 420,4 => ⟨[0,1,2,6,7,8],[0,1,2,6,7],[],[],[],1000⟩
 | 422,0 => ⟨[0,1,2,3,8],[],[],[],[],1000⟩
 | 422,2 => ⟨[0,1,2,3,8,9],[0,1,2,3,8],[],[],[],1000⟩
 | 423,0 => ⟨[0,1,4,10,11],[0,1,10],[],[],[],1000⟩
 | 423,2 => ⟨[0,10,13],[],[],[],[],1000⟩
 | 423,4 => ⟨[0,2,4,14,15],[0,2,14],[],[],[],1000⟩
 | 423,6 => ⟨[0,14,17],[],[],[],[],1000⟩
 | 423,8 => ⟨[0,1,2,3,4,18,19,20,21,22],[0,1,2,3,4,18,19,20],[],[],[],1000⟩
 | 424,0 => ⟨[0,2,4,10,11],[0,2,4,10],[],[],[],1000⟩
 | 425,0 => ⟨[0,1,2,3,10],[],[],[],[],1000⟩
 | _,_ => {}
def qq2 (f : FuncId) : Bool := [176,178,232,277,278,157,135,193,242,243,162,217,261,262,166,231,113].contains f
def zjr (f : FuncId) : Bool := [173,97,208,119,177,84,207,166,231,102,52].contains f
def qkp : FuncId → Nat → List Nat
 | 101,15 => [4]
 | _,_ => []
def zed (t : TypeId) : Bool := [].contains t
def qpe (t : TypeId) : Bool := [377,343,346,64].contains t
noncomputable def G : GP := q8p Tryz.prog spec qq2 zjr qkp zed qpe
theorem zal : G.owned 3 = false := rfl
theorem kp3 : G.keep 3 = false := rfl
theorem pr3 (i : Nat) : G.pre 3 i = [] := rfl
theorem zgg : G.owned 4 = false := rfl
theorem kp4 : G.keep 4 = false := rfl
theorem pr4 (i : Nat) : G.pre 4 i = [] := rfl
theorem zlc : G.owned 5 = false := rfl
theorem kp5 : G.keep 5 = false := rfl
theorem pr5 (i : Nat) : G.pre 5 i = [] := rfl
theorem zf9 : G.owned 6 = false := rfl
theorem kp6 : G.keep 6 = false := rfl
theorem pr6 (i : Nat) : G.pre 6 i = [] := rfl
theorem qtz : G.owned 7 = false := rfl
theorem kp7 : G.keep 7 = false := rfl
theorem pr7 (i : Nat) : G.pre 7 i = [] := rfl
theorem z1q : G.owned 8 = false := rfl
theorem kp8 : G.keep 8 = false := rfl
theorem pr8 (i : Nat) : G.pre 8 i = [] := rfl
theorem z3o : G.owned 11 = false := rfl
theorem ql4 : G.keep 11 = false := rfl
theorem qxx (i : Nat) : G.pre 11 i = [] := rfl
theorem qrt : G.owned 12 = false := rfl
theorem qsd : G.keep 12 = false := rfl
theorem z1r (i : Nat) : G.pre 12 i = [] := rfl
theorem z3w : G.owned 13 = false := rfl
theorem qnd : G.keep 13 = false := rfl
theorem z0h (i : Nat) : G.pre 13 i = [] := rfl
theorem qwq : G.owned 14 = false := rfl
theorem z5t : G.keep 14 = false := rfl
theorem qf6 (i : Nat) : G.pre 14 i = [] := rfl
theorem qzx : G.owned 15 = false := rfl
theorem zja : G.keep 15 = false := rfl
theorem qm3 (i : Nat) : G.pre 15 i = [] := rfl
theorem z1g : G.owned 16 = false := rfl
theorem qpo : G.keep 16 = false := rfl
theorem qqd (i : Nat) : G.pre 16 i = [] := rfl
theorem qlw : G.owned 17 = false := rfl
theorem qkk : G.keep 17 = false := rfl
theorem z0l (i : Nat) : G.pre 17 i = [] := rfl
theorem qnt : G.owned 24 = false := rfl
theorem ql3 : G.keep 24 = false := rfl
theorem qoy (i : Nat) : G.pre 24 i = [] := rfl
theorem qnk : G.owned 25 = false := rfl
theorem qua : G.keep 25 = false := rfl
theorem zfr (i : Nat) : G.pre 25 i = [] := rfl
theorem qiu : G.owned 26 = false := rfl
theorem qpk : G.keep 26 = false := rfl
theorem qtp (i : Nat) : G.pre 26 i = [] := rfl
theorem qp7 : G.owned 27 = false := rfl
theorem zf5 : G.keep 27 = false := rfl
theorem qru (i : Nat) : G.pre 27 i = [] := rfl
theorem qp6 : G.owned 28 = false := rfl
theorem qq8 : G.keep 28 = false := rfl
theorem qmg (i : Nat) : G.pre 28 i = [] := rfl
theorem zlm : G.owned 29 = false := rfl
theorem z7q : G.keep 29 = false := rfl
theorem qu0 (i : Nat) : G.pre 29 i = [] := rfl
theorem qhe : G.owned 30 = false := rfl
theorem qxr : G.keep 30 = false := rfl
theorem zcf (i : Nat) : G.pre 30 i = [] := rfl
theorem zi1 : G.owned 31 = false := rfl
theorem qjn : G.keep 31 = false := rfl
theorem z3z (i : Nat) : G.pre 31 i = [] := rfl
theorem zjy : G.owned 32 = false := rfl
theorem qgq : G.keep 32 = false := rfl
theorem z1l (i : Nat) : G.pre 32 i = [] := rfl
theorem z0i : G.owned 33 = false := rfl
theorem qsc : G.keep 33 = false := rfl
theorem z0k (i : Nat) : G.pre 33 i = [] := rfl
theorem z9z : G.owned 34 = false := rfl
theorem qz9 : G.keep 34 = false := rfl
theorem zl7 (i : Nat) : G.pre 34 i = [] := rfl
theorem qjd : G.owned 35 = false := rfl
theorem qsk : G.keep 35 = false := rfl
theorem qiv (i : Nat) : G.pre 35 i = [] := rfl
theorem qqq : G.owned 53 = false := rfl
theorem zaa : G.keep 53 = false := rfl
theorem qso (i : Nat) : G.pre 53 i = [] := rfl
theorem qwd : G.owned 54 = false := rfl
theorem zc9 : G.keep 54 = false := rfl
theorem z2x (i : Nat) : G.pre 54 i = [] := rfl
theorem qyo : G.owned 55 = false := rfl
theorem zbr : G.keep 55 = false := rfl
theorem zgy (i : Nat) : G.pre 55 i = [] := rfl
theorem zgj : G.owned 56 = false := rfl
theorem qm6 : G.keep 56 = false := rfl
theorem qft (i : Nat) : G.pre 56 i = [] := rfl
theorem qgl : G.owned 85 = false := rfl
theorem zjz : G.keep 85 = false := rfl
theorem qtt (i : Nat) : G.pre 85 i = [] := rfl
theorem zgv : G.spec 5 0 = ⟨[0,6,7,8,9],[2,3,4,5,6,7,8,9],[8],[],[],0⟩ := rfl
theorem zeu : G.spec 6 0 = ⟨[0,6,7,9,10],[2,3,4,5,7,9],[9],[],[],0⟩ := rfl
theorem qy9 : G.spec 7 0 = ⟨[0,1,5],[4],[],[],[],0⟩ := rfl
theorem qr6 : G.spec 8 0 = ⟨[0,1,5],[4],[],[],[],0⟩ := rfl
theorem z4u : G.spec 11 0 = ⟨[0,3],[0,3],[3],[],[],0⟩ := rfl
theorem z8i : G.spec 12 1 = ⟨[0,2,3],[0,2,3],[],[(3,5)],[],0⟩ := rfl
theorem qt4 : G.spec 12 3 = ⟨[0,2,3],[0,2,3],[],[(3,6)],[],0⟩ := rfl
theorem qf7 : G.spec 13 0 = ⟨[0,4],[2,3,4],[4],[],[],0⟩ := rfl
theorem qq9 : G.spec 15 1 = ⟨[0,2,4,5],[2,4,5],[],[(4,5)],[],0⟩ := rfl
theorem qlr : G.spec 15 3 = ⟨[0,2,4,5],[2,4,5],[],[(4,6)],[],0⟩ := rfl
theorem quw : G.spec 16 0 = ⟨[0,1,5],[4],[],[],[],0⟩ := rfl
theorem zaf : G.spec 17 0 = ⟨[0,1,5],[4],[],[],[],0⟩ := rfl
theorem qv3 : G.spec 24 0 = ⟨[0,3],[0,3],[],[],[],0⟩ := rfl
theorem qzc : G.spec 31 0 = ⟨[0,3],[0,3],[],[],[],0⟩ := rfl
theorem qm0 : G.spec 34 0 = ⟨[0,3,4],[2],[],[],[],0⟩ := rfl
theorem qzk : G.spec 53 0 = ⟨[0,4,5,6],[0,2,3,4,5,6],[],[],[],0⟩ := rfl
theorem z4p : G.spec 55 0 = ⟨[0,4,5,6],[0,4,5,6],[],[],[],0⟩ := rfl
theorem fz1 : G.frz 1 = false := rfl
theorem fz2 : G.frz 2 = false := rfl
theorem fz3 : G.frz 3 = false := rfl
theorem fz4 : G.frz 4 = false := rfl
theorem fz5 : G.frz 5 = false := rfl
theorem fz6 : G.frz 6 = false := rfl
theorem fz7 : G.frz 7 = false := rfl
theorem fz8 : G.frz 8 = false := rfl
theorem fz9 : G.frz 9 = false := rfl
theorem z9v : G.frz 10 = false := rfl
theorem qmq : G.frz 11 = false := rfl
theorem qsf : G.frz 12 = false := rfl
theorem zbj : G.frz 13 = false := rfl
theorem qwh : G.frz 14 = false := rfl
theorem zjg : G.frz 15 = false := rfl
theorem qkb : G.frz 16 = false := rfl
theorem qff : G.frz 17 = false := rfl
theorem ze1 : G.frz 18 = false := rfl
theorem qf8 : G.frz 19 = false := rfl
theorem zc6 : G.frz 20 = false := rfl
theorem qy8 : G.frz 21 = false := rfl
theorem qlf : G.frz 22 = false := rfl
theorem z5g : G.frz 23 = false := rfl
theorem zd1 : G.frz 24 = false := rfl
theorem qsi : G.frz 25 = false := rfl
theorem qmu : G.frz 26 = false := rfl
theorem zk8 : G.frz 28 = false := rfl
theorem qoo : G.frz 29 = false := rfl
theorem zhj : G.frz 30 = false := rfl
theorem qml : G.frz 31 = false := rfl
theorem qog : G.frz 33 = false := rfl
theorem qv2 : G.frz 34 = false := rfl
theorem ziv : G.frz 35 = false := rfl
theorem z5p : G.frz 36 = false := rfl
theorem qyj : G.frz 37 = false := rfl
theorem qy0 : G.frz 38 = false := rfl
theorem qm5 : G.frz 39 = false := rfl
theorem zgo : G.frz 40 = false := rfl
theorem qmp : G.frz 41 = false := rfl
theorem qg6 : G.frz 42 = false := rfl
theorem qkt : G.frz 43 = false := rfl
theorem zl1 : G.frz 44 = false := rfl
theorem qj2 : G.frz 45 = false := rfl
theorem zdi : G.frz 46 = false := rfl
theorem qmv : G.frz 47 = false := rfl
theorem qx4 : G.frz 48 = false := rfl
theorem qw6 : G.frz 50 = false := rfl
theorem z5j : G.frz 51 = false := rfl
theorem z4j : G.frz 53 = false := rfl
theorem z2q : G.frz 54 = false := rfl
theorem zjb : G.frz 55 = false := rfl
theorem zby : G.frz 56 = false := rfl
theorem qri : G.frz 57 = false := rfl
theorem z1h : G.frz 59 = false := rfl
theorem qzw : G.frz 60 = false := rfl
theorem zcx : G.frz 61 = false := rfl
theorem qlx : G.frz 62 = false := rfl
theorem qng : G.frz 63 = false := rfl
theorem zco : G.frz 64 = false := rfl
theorem zi9 : G.frz 65 = false := rfl
theorem zbh : G.frz 66 = false := rfl
theorem zfy : G.frz 67 = false := rfl
theorem qnb : G.frz 68 = false := rfl
theorem z13 : G.frz 69 = false := rfl
theorem zhe : G.frz 70 = false := rfl
theorem z8y : G.frz 71 = false := rfl
theorem qfe : G.frz 72 = false := rfl
theorem qs3 : G.frz 73 = false := rfl
theorem qxa : G.frz 74 = false := rfl
theorem zdr : G.frz 75 = false := rfl
theorem z1m : G.frz 76 = false := rfl
theorem qxn : G.frz 77 = false := rfl
theorem qpa : G.frz 78 = false := rfl
theorem qwr : G.frz 80 = false := rfl
theorem zaq : G.frz 82 = false := rfl
theorem qsv : G.frz 83 = false := rfl
theorem zk6 : G.frz 84 = false := rfl
theorem qn6 : G.frz 85 = false := rfl
theorem qvo : G.frz 87 = false := rfl
theorem qsw : G.frz 88 = false := rfl
theorem z6n : G.frz 90 = false := rfl
theorem qgx : G.frz 91 = false := rfl
theorem qsl : G.frz 93 = false := rfl
theorem z2s : G.frz 94 = false := rfl
theorem z3b : G.frz 95 = false := rfl
theorem qvv : G.frz 96 = false := rfl
theorem z6i : G.frz 97 = false := rfl
theorem zee : G.frz 98 = false := rfl
theorem ql5 : G.frz 99 = false := rfl
theorem zio : G.frz 100 = false := rfl
theorem qg4 : G.frz 101 = false := rfl
theorem qvy : G.frz 103 = false := rfl
theorem z5s : G.frz 104 = false := rfl
theorem z9l : G.frz 105 = false := rfl
theorem zg2 : G.frz 106 = false := rfl
theorem zhr : G.frz 108 = false := rfl
theorem z8a : G.frz 109 = false := rfl
theorem qxp : G.frz 110 = false := rfl
theorem z7r : G.frz 111 = false := rfl
theorem qox : G.frz 112 = false := rfl
theorem qwe : G.frz 113 = false := rfl
theorem z7n : G.frz 114 = false := rfl
theorem ql7 : G.frz 115 = false := rfl
theorem qny : G.frz 116 = false := rfl
theorem qu7 : G.frz 117 = false := rfl
theorem zjf : G.frz 118 = false := rfl
theorem qp2 : G.frz 119 = false := rfl
theorem zll : G.frz 120 = false := rfl
theorem zgf : G.frz 121 = false := rfl
theorem qr5 : G.frz 122 = false := rfl
theorem qwm : G.frz 123 = false := rfl
theorem qwa : G.frz 124 = false := rfl
theorem zfo : G.frz 125 = false := rfl
theorem qgp : G.frz 126 = false := rfl
theorem z3k : G.frz 128 = false := rfl
theorem qwj : G.frz 129 = false := rfl
theorem qk6 : G.frz 130 = false := rfl
theorem qxe : G.frz 131 = false := rfl
theorem qyw : G.frz 132 = false := rfl
theorem qmm : G.frz 133 = false := rfl
theorem z19 : G.frz 134 = false := rfl
theorem qim : G.frz 135 = false := rfl
theorem qlp : G.frz 136 = false := rfl
theorem ze2 : G.frz 137 = false := rfl
theorem qwf : G.frz 138 = false := rfl
theorem zho : G.frz 140 = false := rfl
theorem z07 : G.frz 141 = false := rfl
theorem zd5 : G.frz 143 = false := rfl
theorem qgb : G.frz 144 = false := rfl
theorem zks : G.frz 145 = false := rfl
theorem z4e : G.frz 146 = false := rfl
theorem z1e : G.frz 147 = false := rfl
theorem zie : G.frz 148 = false := rfl
theorem z9x : G.frz 149 = false := rfl
theorem qpr : G.frz 151 = false := rfl
theorem zd2 : G.frz 152 = false := rfl
theorem qs0 : G.frz 153 = false := rfl
theorem zkt : G.frz 154 = false := rfl
theorem z3s : G.frz 156 = false := rfl
theorem qho : G.frz 157 = false := rfl
theorem zdy : G.frz 158 = false := rfl
theorem qkx : G.frz 159 = false := rfl
theorem qq6 : G.frz 160 = false := rfl
theorem z4h : G.frz 161 = false := rfl
theorem z2l : G.frz 162 = false := rfl
theorem qul : G.frz 163 = false := rfl
theorem z6w : G.frz 164 = false := rfl
theorem qto : G.frz 165 = false := rfl
theorem qlt : G.frz 166 = false := rfl
theorem qfy : G.frz 167 = false := rfl
theorem qz4 : G.frz 168 = false := rfl
theorem zbv : G.frz 169 = false := rfl
theorem qxi : G.frz 170 = false := rfl
theorem zfe : G.frz 171 = false := rfl
theorem qo0 : G.frz 172 = false := rfl
theorem zel : G.frz 173 = false := rfl
theorem qtf : G.frz 174 = false := rfl
theorem zgr : G.frz 175 = false := rfl
theorem qu6 : G.frz 176 = false := rfl
theorem z3v : G.frz 177 = false := rfl
theorem zia : G.frz 178 = false := rfl
theorem qs1 : G.frz 180 = false := rfl
theorem z8f : G.frz 181 = false := rfl
theorem zao : G.frz 182 = false := rfl
theorem z6k : G.frz 183 = false := rfl
theorem qzv : G.frz 184 = false := rfl
theorem zda : G.frz 185 = false := rfl
theorem zcp : G.frz 186 = false := rfl
theorem qjh : G.frz 187 = false := rfl
theorem qow : G.frz 189 = false := rfl
theorem z0m : G.frz 190 = false := rfl
theorem qlu : G.frz 191 = false := rfl
theorem zga : G.frz 192 = false := rfl
theorem qin : G.frz 193 = false := rfl
theorem z92 : G.frz 195 = false := rfl
theorem z0z : G.frz 196 = false := rfl
theorem zjw : G.frz 197 = false := rfl
theorem z3p : G.frz 199 = false := rfl
theorem qqy : G.frz 200 = false := rfl
theorem zlj : G.frz 202 = false := rfl
theorem zfh : G.frz 203 = false := rfl
theorem za8 : G.frz 204 = false := rfl
theorem qrr : G.frz 205 = false := rfl
theorem zfp : G.frz 206 = false := rfl
theorem zhv : G.frz 207 = false := rfl
theorem z5f : G.frz 208 = false := rfl
theorem z10 : G.frz 210 = false := rfl
theorem qn3 : G.frz 211 = false := rfl
theorem z8t : G.frz 212 = false := rfl
theorem z4c : G.frz 213 = false := rfl
theorem quc : G.frz 214 = false := rfl
theorem zes : G.frz 215 = false := rfl
theorem z7c : G.frz 216 = false := rfl
theorem qsb : G.frz 217 = false := rfl
theorem qrf : G.frz 218 = false := rfl
theorem qhi : G.frz 219 = false := rfl
theorem qn8 : G.frz 220 = false := rfl
theorem qyk : G.frz 221 = false := rfl
theorem z2k : G.frz 222 = false := rfl
theorem zkz : G.frz 223 = false := rfl
theorem qiy : G.frz 225 = false := rfl
theorem qr4 : G.frz 226 = false := rfl
theorem qkz : G.frz 227 = false := rfl
theorem z9d : G.frz 228 = false := rfl
theorem zak : G.frz 229 = false := rfl
theorem qy4 : G.frz 230 = false := rfl
theorem z0t : G.frz 231 = false := rfl
theorem qj6 : G.frz 232 = false := rfl
theorem qqi : G.frz 233 = false := rfl
theorem z0b : G.frz 234 = false := rfl
theorem zet : G.frz 235 = false := rfl
theorem qyq : G.frz 236 = false := rfl
theorem qlq : G.frz 237 = false := rfl
theorem qtr : G.frz 238 = false := rfl
theorem qvp : G.frz 239 = false := rfl
theorem z7j : G.frz 240 = false := rfl
theorem zah : G.frz 241 = false := rfl
theorem z9h : G.frz 242 = false := rfl
theorem z7k : G.frz 243 = false := rfl
theorem qig : G.frz 244 = false := rfl
theorem qwg : G.frz 245 = false := rfl
theorem z1f : G.frz 246 = false := rfl
theorem z2e : G.frz 247 = false := rfl
theorem qsj : G.frz 248 = false := rfl
theorem qti : G.frz 249 = false := rfl
theorem zbm : G.frz 250 = false := rfl
theorem qqz : G.frz 251 = false := rfl
theorem qvr : G.frz 252 = false := rfl
theorem z1o : G.frz 253 = false := rfl
theorem qlk : G.frz 255 = false := rfl
theorem z7v : G.frz 256 = false := rfl
theorem qo2 : G.frz 257 = false := rfl
theorem z7p : G.frz 258 = false := rfl
theorem zdu : G.frz 259 = false := rfl
theorem zlf : G.frz 260 = false := rfl
theorem qnh : G.frz 261 = false := rfl
theorem zl6 : G.frz 262 = false := rfl
theorem qj8 : G.frz 263 = false := rfl
theorem qzl : G.frz 264 = false := rfl
theorem qtl : G.frz 266 = false := rfl
theorem zb9 : G.frz 267 = false := rfl
theorem qw9 : G.frz 268 = false := rfl
theorem qi0 : G.frz 269 = false := rfl
theorem qo7 : G.frz 270 = false := rfl
theorem qyd : G.frz 272 = false := rfl
theorem qp3 : G.frz 274 = false := rfl
theorem qo1 : G.frz 275 = false := rfl
theorem qph : G.frz 276 = false := rfl
theorem zar : G.frz 277 = false := rfl
theorem qp0 : G.frz 278 = false := rfl
theorem qhv : G.frz 279 = false := rfl
theorem z05 : G.frz 280 = false := rfl
theorem qro : G.frz 281 = false := rfl
theorem zg8 : G.frz 282 = false := rfl
theorem zei : G.frz 283 = false := rfl
theorem z2y : G.frz 284 = false := rfl
theorem z9o : G.frz 285 = false := rfl
theorem qpn : G.frz 286 = false := rfl
theorem qj9 : G.frz 287 = false := rfl
theorem qwk : G.frz 289 = false := rfl
theorem zfg : G.frz 290 = false := rfl
theorem qvs : G.frz 291 = false := rfl
theorem qhq : G.frz 292 = false := rfl
theorem qm1 : G.frz 294 = false := rfl
theorem zii : G.frz 295 = false := rfl
theorem zfv : G.frz 296 = false := rfl
theorem qof : G.frz 297 = false := rfl
theorem qfw : G.frz 298 = false := rfl
theorem qgf : G.frz 299 = false := rfl
theorem zca : G.frz 300 = false := rfl
theorem qwb : G.frz 301 = false := rfl
theorem qk4 : G.frz 302 = false := rfl
theorem zkr : G.frz 303 = false := rfl
theorem z4r : G.frz 304 = false := rfl
theorem qw4 : G.frz 306 = false := rfl
theorem z6q : G.frz 307 = false := rfl
theorem qlg : G.frz 308 = false := rfl
theorem zea : G.frz 309 = false := rfl
theorem zas : G.frz 310 = false := rfl
theorem zbn : G.frz 311 = false := rfl
theorem zjc : G.frz 312 = false := rfl
theorem qyl : G.frz 313 = false := rfl
theorem zc3 : G.frz 314 = false := rfl
theorem zb0 : G.frz 315 = false := rfl
theorem z8n : G.frz 316 = false := rfl
theorem z4a : G.frz 317 = false := rfl
theorem qgv : G.frz 318 = false := rfl
theorem z8r : G.frz 319 = false := rfl
theorem zl9 : G.frz 320 = false := rfl
theorem qwl : G.frz 321 = false := rfl
theorem qf9 : G.frz 322 = false := rfl
theorem z6v : G.frz 323 = false := rfl
theorem z5v : G.frz 324 = false := rfl
theorem qtc : G.frz 325 = false := rfl
theorem zke : G.frz 326 = false := rfl
theorem qir : G.frz 327 = false := rfl
theorem qv5 : G.frz 328 = false := rfl
theorem qke : G.frz 329 = false := rfl
theorem qzd : G.frz 330 = false := rfl
theorem qxy : G.frz 331 = false := rfl
theorem z7t : G.frz 333 = false := rfl
theorem z03 : G.frz 334 = false := rfl
theorem qgu : G.frz 335 = false := rfl
theorem qzt : G.frz 336 = false := rfl
theorem qki : G.frz 337 = false := rfl
theorem z4d : G.frz 338 = false := rfl
theorem qnf : G.frz 339 = false := rfl
theorem zfc : G.frz 340 = false := rfl
theorem zcl : G.frz 341 = false := rfl
theorem z3c : G.frz 342 = false := rfl
theorem qtu : G.frz 343 = false := rfl
theorem qze : G.frz 344 = false := rfl
theorem z6t : G.frz 345 = false := rfl
theorem z2o : G.frz 346 = false := rfl
theorem zir : G.frz 347 = false := rfl
theorem z7a : G.frz 348 = false := rfl
theorem qq5 : G.frz 349 = false := rfl
theorem qrm : G.frz 350 = false := rfl
theorem z5o : G.frz 351 = false := rfl
theorem z6j : G.frz 353 = false := rfl
theorem que : G.frz 354 = false := rfl
theorem zgi : G.frz 355 = false := rfl
theorem ze4 : G.frz 356 = false := rfl
theorem zgp : G.frz 357 = false := rfl
theorem z5r : G.frz 358 = false := rfl
theorem z3u : G.frz 359 = false := rfl
theorem qrq : G.frz 360 = false := rfl
theorem zg3 : G.frz 361 = false := rfl
theorem qok : G.frz 362 = false := rfl
theorem zb2 : G.frz 363 = false := rfl
theorem ziu : G.frz 364 = false := rfl
theorem qzm : G.frz 365 = false := rfl
theorem qkf : G.frz 366 = false := rfl
theorem qwi : G.frz 367 = false := rfl
theorem zhl : G.frz 368 = false := rfl
theorem qne : G.frz 369 = false := rfl
theorem zhh : G.frz 371 = false := rfl
theorem qw8 : G.frz 372 = false := rfl
theorem zfw : G.frz 373 = false := rfl
theorem qpv : G.frz 374 = false := rfl
theorem qya : G.frz 376 = false := rfl
theorem zce : G.frz 377 = false := rfl
theorem qmw : G.frz 378 = false := rfl
theorem zcq : G.frz 379 = false := rfl
theorem qzh : G.frz 380 = false := rfl
theorem qjr : G.frz 382 = false := rfl
theorem qn1 : G.frz 383 = false := rfl
theorem qyv : G.frz 384 = false := rfl
theorem zbt : G.frz 386 = false := rfl
theorem qps : G.frz 387 = false := rfl
theorem z15 : G.frz 388 = false := rfl
theorem qiq : G.frz 389 = false := rfl
theorem zdb : G.frz 390 = false := rfl
theorem qm8 : G.frz 391 = false := rfl
theorem qxf : G.frz 392 = false := rfl
theorem qnc : G.frz 393 = false := rfl
theorem zjd : G.frz 394 = false := rfl
theorem qih : G.frz 395 = false := rfl
theorem qje : G.frz 396 = false := rfl
theorem qfj : G.frz 397 = false := rfl
theorem qqa : G.frz 398 = false := rfl
theorem z2f : G.frz 399 = false := rfl
theorem qg0 : G.frz 400 = false := rfl
theorem qou : G.frz 401 = false := rfl
theorem zku : G.frz 402 = false := rfl
theorem zcu : G.frz 404 = false := rfl
theorem zib : G.frz 406 = false := rfl
theorem qjt : G.frz 407 = false := rfl
theorem qsa : G.frz 408 = false := rfl
theorem zij : G.frz 409 = false := rfl
theorem qsm : G.frz 410 = false := rfl
theorem z6s : G.frz 411 = false := rfl
theorem z7x : G.frz 412 = false := rfl
theorem z5e : G.frz 413 = false := rfl
theorem z9c : G.frz 414 = false := rfl
theorem qf2 : G.frz 415 = false := rfl
theorem qnr : G.frz 417 = false := rfl
theorem zkp : G.frz 418 = false := rfl
theorem zad : G.frz 420 = false := rfl
theorem z9n : G.frz 422 = false := rfl
theorem qsg : G.frz 423 = false := rfl
theorem qxs : G.frz 424 = false := rfl
theorem z11 : G.frz 425 = false := rfl
theorem zey : G.frz 426 = false := rfl
theorem qle : G.frz 427 = false := rfl
theorem zem : G.frz 428 = false := rfl
theorem qiz : G.frz 429 = false := rfl
theorem z4l : G.frz 430 = false := rfl
theorem zd3 : G.frz 431 = false := rfl
theorem qmn : G.frz 433 = false := rfl
theorem zlb : G.frz 434 = false := rfl
theorem qsh : G.frz 435 = false := rfl
theorem zkm : G.frz 436 = false := rfl
theorem z1k : G.frz 437 = false := rfl
theorem quk : G.frz 438 = false := rfl
theorem qi1 : G.frz 439 = false := rfl
theorem qgr : G.frz 440 = false := rfl
theorem z8v : G.frz 441 = false := rfl
theorem zfx : G.frz 442 = false := rfl
theorem qu9 : G.frz 443 = false := rfl
theorem qez : G.frz 444 = false := rfl
theorem zd6 : G.frz 445 = false := rfl
theorem qhp : G.frz 447 = false := rfl
theorem qrn : G.frz 448 = false := rfl
theorem qwt : G.frz 449 = false := rfl
theorem zbg : G.frz 450 = false := rfl
theorem qpx : G.frz 451 = false := rfl
theorem qmb : G.frz 452 = false := rfl
theorem qid : G.frz 454 = false := rfl
theorem zhn : G.frz 456 = false := rfl
theorem z3d : G.frz 457 = false := rfl
theorem qxm : G.frz 458 = false := rfl
theorem qrj : G.frz 459 = false := rfl
theorem qfx : G.frz 460 = false := rfl
theorem z8o : G.frz 462 = false := rfl
theorem qp8 : G.frz 463 = false := rfl
theorem z7y : G.frz 464 = false := rfl
theorem zgx : G.frz 465 = false := rfl
theorem qmf : G.frz 466 = false := rfl
theorem zg5 : G.frz 467 = false := rfl
theorem zi2 : G.frz 468 = false := rfl
theorem qrd : G.frz 469 = false := rfl
theorem zba : G.frz 470 = false := rfl
theorem qlh : G.frz 471 = false := rfl
theorem z9r : G.frz 472 = false := rfl
theorem quy : G.frz 473 = false := rfl
theorem qyg : G.frz 474 = false := rfl
theorem z0q : G.frz 475 = false := rfl
theorem ql6 : G.frz 476 = false := rfl
theorem zab : G.frz 477 = false := rfl
theorem zbf : G.frz 478 = false := rfl
theorem ze7 : G.frz 480 = false := rfl
theorem qw0 : G.frz 481 = false := rfl
theorem z2r : G.frz 482 = false := rfl
theorem qns : G.frz 483 = false := rfl
theorem zl3 : G.frz 484 = false := rfl
theorem qfp : G.frz 485 = false := rfl
theorem zch : G.frz 486 = false := rfl
theorem qi5 : G.frz 487 = false := rfl
theorem z8c : G.frz 488 = false := rfl
theorem zcr : G.frz 489 = false := rfl
theorem qyi : G.frz 490 = false := rfl
theorem qjz : G.frz 491 = false := rfl
theorem qls : G.frz 493 = false := rfl
theorem qvu : G.frz 494 = false := rfl
theorem zau : G.frz 495 = false := rfl
theorem qye : G.frz 496 = false := rfl
theorem qgy : G.frz 497 = false := rfl
theorem zg4 : G.frz 498 = false := rfl
theorem qse : G.frz 499 = false := rfl
theorem qqu : G.frz 500 = false := rfl
theorem z6g : G.frz 501 = false := rfl
theorem qss : G.frz 502 = false := rfl
theorem zj5 : G.frz 504 = false := rfl
theorem z8m : G.frz 505 = false := rfl
theorem z7s : G.frz 506 = false := rfl
theorem qld : G.frz 507 = false := rfl
theorem z94 : G.frz 508 = false := rfl
theorem zdg : G.frz 509 = false := rfl
theorem zkc : G.frz 510 = false := rfl
theorem z4x : G.frz 512 = false := rfl
theorem zkd : G.frz 513 = false := rfl
theorem zdw : G.frz 515 = false := rfl
theorem zft : G.frz 516 = false := rfl
theorem zhd : G.frz 517 = false := rfl
theorem qu1 : G.frz 518 = false := rfl
theorem qsq : G.frz 519 = false := rfl
theorem z8j : G.frz 520 = false := rfl
theorem qnu : G.frz 521 = false := rfl
theorem zjq : G.frz 522 = false := rfl
theorem zj3 : G.frz 523 = false := rfl
theorem qz1 : G.frz 524 = false := rfl
theorem qwn : G.frz 525 = false := rfl
theorem qy2 : G.frz 526 = false := rfl
theorem qoe : G.frz 527 = false := rfl
theorem qko : G.frz 528 = false := rfl
theorem z3x : G.frz 529 = false := rfl
theorem qg7 : G.frz 530 = false := rfl
theorem z2n : G.frz 531 = false := rfl
theorem zbk : G.frz 532 = false := rfl
theorem zej : G.frz 533 = false := rfl
theorem qpg : G.frz 534 = false := rfl
theorem qoc : G.frz 535 = false := rfl
theorem mf1 : G.mrf 1 = false := rfl
theorem mf2 : G.mrf 2 = false := rfl
theorem mf3 : G.mrf 3 = false := rfl
theorem mf4 : G.mrf 4 = false := rfl
theorem mf5 : G.mrf 5 = false := rfl
theorem mf6 : G.mrf 6 = false := rfl
theorem mf7 : G.mrf 7 = false := rfl
theorem mf8 : G.mrf 8 = false := rfl
theorem mf9 : G.mrf 9 = false := rfl
theorem qz2 : G.mrf 10 = false := rfl
theorem z0p : G.mrf 11 = false := rfl
theorem qv7 : G.mrf 12 = false := rfl
theorem qxk : G.mrf 13 = false := rfl
theorem zg6 : G.mrf 14 = false := rfl
theorem zkh : G.mrf 15 = false := rfl
theorem zik : G.mrf 16 = false := rfl
theorem z1z : G.mrf 17 = false := rfl
theorem qw7 : G.mrf 18 = false := rfl
theorem qxc : G.mrf 19 = false := rfl
theorem zdp : G.mrf 20 = false := rfl
theorem qvq : G.mrf 21 = false := rfl
theorem zkn : G.mrf 22 = false := rfl
theorem qzf : G.mrf 23 = false := rfl
theorem zbp : G.mrf 24 = false := rfl
theorem qnv : G.mrf 25 = false := rfl
theorem z2c : G.mrf 26 = false := rfl
theorem z6o : G.mrf 28 = false := rfl
theorem za1 : G.mrf 29 = false := rfl
theorem z4f : G.mrf 30 = false := rfl
theorem z9f : G.mrf 31 = false := rfl
theorem z4k : G.mrf 33 = false := rfl
theorem qi6 : G.mrf 34 = false := rfl
theorem qfm : G.mrf 35 = false := rfl
theorem qmt : G.mrf 36 = false := rfl
theorem qfo : G.mrf 37 = false := rfl
theorem z3m : G.mrf 38 = false := rfl
theorem zgm : G.mrf 39 = false := rfl
theorem z7i : G.mrf 40 = false := rfl
theorem qk5 : G.mrf 41 = false := rfl
theorem qgw : G.mrf 42 = false := rfl
theorem qgt : G.mrf 43 = false := rfl
theorem qha : G.mrf 44 = false := rfl
theorem qux : G.mrf 45 = false := rfl
theorem zat : G.mrf 46 = false := rfl
theorem qr0 : G.mrf 47 = false := rfl
theorem qw2 : G.mrf 48 = false := rfl
theorem z2t : G.mrf 50 = false := rfl
theorem qrg : G.mrf 51 = false := rfl
theorem zb4 : G.mrf 53 = false := rfl
theorem zbo : G.mrf 54 = false := rfl
theorem qif : G.mrf 55 = false := rfl
theorem z7u : G.mrf 56 = false := rfl
theorem qpw : G.mrf 57 = false := rfl
theorem qqj : G.mrf 59 = false := rfl
theorem qh5 : G.mrf 60 = false := rfl
theorem qqs : G.mrf 61 = false := rfl
theorem qi8 : G.mrf 62 = false := rfl
theorem zcb : G.mrf 63 = false := rfl
theorem qj0 : G.mrf 64 = true := rfl
theorem zen : G.mrf 65 = false := rfl
theorem qz8 : G.mrf 66 = false := rfl
theorem qhn : G.mrf 67 = false := rfl
theorem z0f : G.mrf 68 = false := rfl
theorem zec : G.mrf 69 = false := rfl
theorem ze9 : G.mrf 70 = false := rfl
theorem zc1 : G.mrf 71 = false := rfl
theorem qhr : G.mrf 72 = false := rfl
theorem qks : G.mrf 73 = false := rfl
theorem qtx : G.mrf 74 = false := rfl
theorem ze6 : G.mrf 75 = false := rfl
theorem zfi : G.mrf 76 = false := rfl
theorem qn7 : G.mrf 77 = false := rfl
theorem zdd : G.mrf 78 = false := rfl
theorem qzo : G.mrf 80 = false := rfl
theorem zb7 : G.mrf 82 = false := rfl
theorem qwx : G.mrf 83 = false := rfl
theorem qn0 : G.mrf 84 = false := rfl
theorem z6b : G.mrf 85 = false := rfl
theorem z3n : G.mrf 87 = false := rfl
theorem z1s : G.mrf 88 = false := rfl
theorem zav : G.mrf 90 = false := rfl
theorem qw5 : G.mrf 91 = false := rfl
theorem qh1 : G.mrf 93 = false := rfl
theorem qoj : G.mrf 94 = false := rfl
theorem zc2 : G.mrf 95 = false := rfl
theorem qlm : G.mrf 96 = false := rfl
theorem qus : G.mrf 97 = false := rfl
theorem z3e : G.mrf 98 = false := rfl
theorem qga : G.mrf 99 = false := rfl
theorem qrk : G.mrf 100 = false := rfl
theorem zhf : G.mrf 101 = false := rfl
theorem zh3 : G.mrf 103 = false := rfl
theorem z7b : G.mrf 104 = false := rfl
theorem qgk : G.mrf 105 = false := rfl
theorem qmz : G.mrf 106 = false := rfl
theorem zlh : G.mrf 108 = false := rfl
theorem ze8 : G.mrf 109 = false := rfl
theorem z8w : G.mrf 110 = false := rfl
theorem z2g : G.mrf 111 = false := rfl
theorem z6u : G.mrf 112 = false := rfl
theorem qmd : G.mrf 113 = false := rfl
theorem z0o : G.mrf 114 = false := rfl
theorem zko : G.mrf 115 = false := rfl
theorem zew : G.mrf 116 = false := rfl
theorem zfm : G.mrf 117 = false := rfl
theorem qey : G.mrf 118 = false := rfl
theorem qoz : G.mrf 119 = false := rfl
theorem qmy : G.mrf 120 = false := rfl
theorem z0u : G.mrf 121 = false := rfl
theorem qi2 : G.mrf 122 = false := rfl
theorem zaw : G.mrf 123 = false := rfl
theorem zb6 : G.mrf 124 = false := rfl
theorem zcs : G.mrf 125 = false := rfl
theorem qyn : G.mrf 126 = false := rfl
theorem zh1 : G.mrf 128 = false := rfl
theorem zcc : G.mrf 129 = false := rfl
theorem qj4 : G.mrf 130 = false := rfl
theorem z1c : G.mrf 131 = false := rfl
theorem quj : G.mrf 132 = false := rfl
theorem qmc : G.mrf 133 = false := rfl
theorem z0r : G.mrf 134 = false := rfl
theorem qg9 : G.mrf 135 = false := rfl
theorem zix : G.mrf 136 = false := rfl
theorem qf0 : G.mrf 137 = false := rfl
theorem qmh : G.mrf 138 = false := rfl
theorem qkg : G.mrf 140 = false := rfl
theorem qs2 : G.mrf 141 = false := rfl
theorem zgb : G.mrf 143 = false := rfl
theorem qvf : G.mrf 144 = false := rfl
theorem z3f : G.mrf 145 = false := rfl
theorem qpy : G.mrf 146 = false := rfl
theorem qn5 : G.mrf 147 = false := rfl
theorem qzu : G.mrf 148 = false := rfl
theorem z9u : G.mrf 149 = false := rfl
theorem zfz : G.mrf 151 = false := rfl
theorem z8e : G.mrf 152 = false := rfl
theorem qkr : G.mrf 153 = false := rfl
theorem z4n : G.mrf 154 = false := rfl
theorem qvc : G.mrf 156 = false := rfl
theorem qlv : G.mrf 157 = false := rfl
theorem zc7 : G.mrf 158 = false := rfl
theorem qyy : G.mrf 159 = false := rfl
theorem qzi : G.mrf 160 = false := rfl
theorem qm9 : G.mrf 161 = false := rfl
theorem qqw : G.mrf 162 = false := rfl
theorem qt6 : G.mrf 163 = false := rfl
theorem qqb : G.mrf 164 = false := rfl
theorem qkw : G.mrf 165 = false := rfl
theorem qju : G.mrf 166 = false := rfl
theorem qfl : G.mrf 167 = false := rfl
theorem qon : G.mrf 168 = false := rfl
theorem zc0 : G.mrf 169 = false := rfl
theorem qtw : G.mrf 170 = false := rfl
theorem qly : G.mrf 171 = false := rfl
theorem qo8 : G.mrf 172 = false := rfl
theorem qkm : G.mrf 173 = false := rfl
theorem z7e : G.mrf 174 = false := rfl
theorem zac : G.mrf 175 = false := rfl
theorem qi7 : G.mrf 176 = false := rfl
theorem zht : G.mrf 177 = false := rfl
theorem qhc : G.mrf 178 = false := rfl
theorem qm2 : G.mrf 180 = false := rfl
theorem z7f : G.mrf 181 = false := rfl
theorem z5a : G.mrf 182 = false := rfl
theorem qry : G.mrf 183 = false := rfl
theorem zkv : G.mrf 184 = false := rfl
theorem qhu : G.mrf 185 = false := rfl
theorem z2m : G.mrf 186 = false := rfl
theorem z0y : G.mrf 187 = false := rfl
theorem zep : G.mrf 189 = false := rfl
theorem zde : G.mrf 190 = false := rfl
theorem zcy : G.mrf 191 = false := rfl
theorem za3 : G.mrf 192 = false := rfl
theorem z1a : G.mrf 193 = false := rfl
theorem zeq : G.mrf 195 = false := rfl
theorem qx2 : G.mrf 196 = false := rfl
theorem zjk : G.mrf 197 = false := rfl
theorem zf1 : G.mrf 199 = false := rfl
theorem za9 : G.mrf 200 = false := rfl
theorem qz6 : G.mrf 202 = false := rfl
theorem qnq : G.mrf 203 = false := rfl
theorem z6c : G.mrf 204 = false := rfl
theorem qf3 : G.mrf 205 = false := rfl
theorem zdf : G.mrf 206 = false := rfl
theorem qo9 : G.mrf 207 = false := rfl
theorem zk5 : G.mrf 208 = false := rfl
theorem qp5 : G.mrf 210 = false := rfl
theorem qis : G.mrf 211 = false := rfl
theorem qza : G.mrf 212 = false := rfl
theorem z98 : G.mrf 213 = false := rfl
theorem qs6 : G.mrf 214 = false := rfl
theorem z8k : G.mrf 215 = false := rfl
theorem qi9 : G.mrf 216 = false := rfl
theorem ze3 : G.mrf 217 = false := rfl
theorem zc4 : G.mrf 218 = false := rfl
theorem qhz : G.mrf 219 = false := rfl
theorem qyr : G.mrf 220 = false := rfl
theorem ziz : G.mrf 221 = false := rfl
theorem z3q : G.mrf 222 = false := rfl
theorem qx1 : G.mrf 223 = false := rfl
theorem qjw : G.mrf 225 = false := rfl
theorem qwo : G.mrf 226 = false := rfl
theorem qtv : G.mrf 227 = false := rfl
theorem qhb : G.mrf 228 = false := rfl
theorem qte : G.mrf 229 = false := rfl
theorem z7h : G.mrf 230 = false := rfl
theorem z6l : G.mrf 231 = false := rfl
theorem zjj : G.mrf 232 = false := rfl
theorem qj5 : G.mrf 233 = false := rfl
theorem qjk : G.mrf 234 = false := rfl
theorem qiw : G.mrf 235 = false := rfl
theorem qf4 : G.mrf 236 = false := rfl
theorem qvd : G.mrf 237 = false := rfl
theorem zgn : G.mrf 238 = false := rfl
theorem zeo : G.mrf 239 = false := rfl
theorem zdq : G.mrf 240 = false := rfl
theorem qtq : G.mrf 241 = false := rfl
theorem zc5 : G.mrf 242 = false := rfl
theorem qku : G.mrf 243 = false := rfl
theorem zdz : G.mrf 244 = false := rfl
theorem zic : G.mrf 245 = false := rfl
theorem zan : G.mrf 246 = false := rfl
theorem qnj : G.mrf 247 = false := rfl
theorem z0g : G.mrf 248 = false := rfl
theorem zbq : G.mrf 249 = false := rfl
theorem qws : G.mrf 250 = false := rfl
theorem zfk : G.mrf 251 = false := rfl
theorem zgs : G.mrf 252 = false := rfl
theorem zih : G.mrf 253 = false := rfl
theorem qzq : G.mrf 255 = false := rfl
theorem z2a : G.mrf 256 = false := rfl
theorem zay : G.mrf 257 = false := rfl
theorem qfa : G.mrf 258 = false := rfl
theorem zis : G.mrf 259 = false := rfl
theorem z4v : G.mrf 260 = false := rfl
theorem zci : G.mrf 261 = false := rfl
theorem z99 : G.mrf 262 = false := rfl
theorem zbs : G.mrf 263 = false := rfl
theorem zcm : G.mrf 264 = false := rfl
theorem z81 : G.mrf 266 = false := rfl
theorem qy1 : G.mrf 267 = false := rfl
theorem zbi : G.mrf 268 = false := rfl
theorem zj6 : G.mrf 269 = false := rfl
theorem qhk : G.mrf 270 = false := rfl
theorem zha : G.mrf 272 = false := rfl
theorem qjc : G.mrf 274 = false := rfl
theorem zkw : G.mrf 275 = false := rfl
theorem qst : G.mrf 276 = false := rfl
theorem z06 : G.mrf 277 = false := rfl
theorem zd4 : G.mrf 278 = false := rfl
theorem qg1 : G.mrf 279 = false := rfl
theorem zji : G.mrf 280 = false := rfl
theorem qq7 : G.mrf 281 = false := rfl
theorem ziq : G.mrf 282 = false := rfl
theorem qr7 : G.mrf 283 = false := rfl
theorem zfa : G.mrf 284 = false := rfl
theorem qwp : G.mrf 285 = false := rfl
theorem z08 : G.mrf 286 = false := rfl
theorem qma : G.mrf 287 = false := rfl
theorem z1i : G.mrf 289 = false := rfl
theorem qie : G.mrf 290 = false := rfl
theorem zkj : G.mrf 291 = false := rfl
theorem qht : G.mrf 292 = false := rfl
theorem qxt : G.mrf 294 = false := rfl
theorem qli : G.mrf 295 = false := rfl
theorem zh2 : G.mrf 296 = false := rfl
theorem qh9 : G.mrf 297 = false := rfl
theorem qgh : G.mrf 298 = false := rfl
theorem qwv : G.mrf 299 = false := rfl
theorem zgz : G.mrf 300 = false := rfl
theorem z7m : G.mrf 301 = false := rfl
theorem z3g : G.mrf 302 = false := rfl
theorem qqe : G.mrf 303 = false := rfl
theorem zi0 : G.mrf 304 = false := rfl
theorem z0v : G.mrf 306 = false := rfl
theorem qoa : G.mrf 307 = false := rfl
theorem qvt : G.mrf 308 = false := rfl
theorem qh4 : G.mrf 309 = false := rfl
theorem qrp : G.mrf 310 = false := rfl
theorem z3t : G.mrf 311 = false := rfl
theorem qsu : G.mrf 312 = false := rfl
theorem qjg : G.mrf 313 = false := rfl
theorem qni : G.mrf 314 = false := rfl
theorem qfq : G.mrf 315 = false := rfl
theorem zae : G.mrf 316 = false := rfl
theorem qhl : G.mrf 317 = false := rfl
theorem qyz : G.mrf 318 = false := rfl
theorem zk1 : G.mrf 319 = false := rfl
theorem qhd : G.mrf 320 = false := rfl
theorem zkg : G.mrf 321 = false := rfl
theorem zdk : G.mrf 322 = false := rfl
theorem qop : G.mrf 323 = false := rfl
theorem z8h : G.mrf 324 = false := rfl
theorem qpj : G.mrf 325 = false := rfl
theorem zez : G.mrf 326 = false := rfl
theorem qod : G.mrf 327 = false := rfl
theorem z4s : G.mrf 328 = false := rfl
theorem qlb : G.mrf 329 = false := rfl
theorem z9g : G.mrf 330 = false := rfl
theorem zh8 : G.mrf 331 = false := rfl
theorem zit : G.mrf 333 = false := rfl
theorem zjo : G.mrf 334 = false := rfl
theorem zai : G.mrf 335 = false := rfl
theorem qpp : G.mrf 336 = false := rfl
theorem ziw : G.mrf 337 = false := rfl
theorem zj9 : G.mrf 338 = false := rfl
theorem z5n : G.mrf 339 = false := rfl
theorem z5w : G.mrf 340 = false := rfl
theorem qgc : G.mrf 341 = false := rfl
theorem zdj : G.mrf 342 = false := rfl
theorem qjf : G.mrf 343 = true := rfl
theorem ql1 : G.mrf 344 = false := rfl
theorem qk2 : G.mrf 345 = false := rfl
theorem qve : G.mrf 346 = true := rfl
theorem z5h : G.mrf 347 = false := rfl
theorem z9w : G.mrf 348 = false := rfl
theorem qor : G.mrf 349 = false := rfl
theorem zdt : G.mrf 350 = false := rfl
theorem qtk : G.mrf 351 = false := rfl
theorem zfb : G.mrf 353 = false := rfl
theorem qgj : G.mrf 354 = false := rfl
theorem qia : G.mrf 355 = false := rfl
theorem z9i : G.mrf 356 = false := rfl
theorem z88 : G.mrf 357 = false := rfl
theorem qy3 : G.mrf 358 = false := rfl
theorem qo3 : G.mrf 359 = false := rfl
theorem qq3 : G.mrf 360 = false := rfl
theorem zk9 : G.mrf 361 = false := rfl
theorem qub : G.mrf 362 = false := rfl
theorem qjl : G.mrf 363 = false := rfl
theorem z6x : G.mrf 364 = false := rfl
theorem zeg : G.mrf 365 = false := rfl
theorem qqt : G.mrf 366 = false := rfl
theorem zcg : G.mrf 367 = false := rfl
theorem zhb : G.mrf 368 = false := rfl
theorem qjs : G.mrf 369 = false := rfl
theorem qnw : G.mrf 371 = false := rfl
theorem z4w : G.mrf 372 = false := rfl
theorem qra : G.mrf 373 = false := rfl
theorem qhj : G.mrf 374 = false := rfl
theorem qk8 : G.mrf 376 = false := rfl
theorem qk3 : G.mrf 377 = true := rfl
theorem z02 : G.mrf 378 = false := rfl
theorem z5d : G.mrf 379 = false := rfl
theorem z1j : G.mrf 380 = false := rfl
theorem qz0 : G.mrf 382 = false := rfl
theorem zld : G.mrf 383 = false := rfl
theorem z8g : G.mrf 384 = false := rfl
theorem zcn : G.mrf 386 = false := rfl
theorem qfr : G.mrf 387 = false := rfl
theorem zjl : G.mrf 388 = false := rfl
theorem z5x : G.mrf 389 = false := rfl
theorem zgl : G.mrf 390 = false := rfl
theorem zi3 : G.mrf 391 = false := rfl
theorem zkk : G.mrf 392 = false := rfl
theorem zk2 : G.mrf 393 = false := rfl
theorem qnz : G.mrf 394 = false := rfl
theorem qlc : G.mrf 395 = false := rfl
theorem z0c : G.mrf 396 = false := rfl
theorem qn2 : G.mrf 397 = false := rfl
theorem qno : G.mrf 398 = false := rfl
theorem zd7 : G.mrf 399 = false := rfl
theorem qfc : G.mrf 400 = false := rfl
theorem qrv : G.mrf 401 = false := rfl
theorem ql2 : G.mrf 402 = false := rfl
theorem qxh : G.mrf 404 = false := rfl
theorem qxv : G.mrf 406 = false := rfl
theorem qut : G.mrf 407 = false := rfl
theorem qfb : G.mrf 408 = false := rfl
theorem qgi : G.mrf 409 = false := rfl
theorem qx8 : G.mrf 410 = false := rfl
theorem qz7 : G.mrf 411 = false := rfl
theorem zje : G.mrf 412 = false := rfl
theorem zlk : G.mrf 413 = false := rfl
theorem qy5 : G.mrf 414 = false := rfl
theorem qfk : G.mrf 415 = false := rfl
theorem qx3 : G.mrf 417 = false := rfl
theorem zge : G.mrf 418 = false := rfl
theorem qx9 : G.mrf 420 = false := rfl
theorem z3h : G.mrf 422 = false := rfl
theorem qpt : G.mrf 423 = false := rfl
theorem qr2 : G.mrf 424 = false := rfl
theorem z5m : G.mrf 425 = false := rfl
theorem z0a : G.mrf 426 = false := rfl
theorem z0x : G.mrf 427 = false := rfl
theorem zjt : G.mrf 428 = false := rfl
theorem qqr : G.mrf 429 = false := rfl
theorem qqf : G.mrf 430 = false := rfl
theorem zex : G.mrf 431 = false := rfl
theorem za4 : G.mrf 433 = false := rfl
theorem qpu : G.mrf 434 = false := rfl
theorem qu2 : G.mrf 435 = false := rfl
theorem qll : G.mrf 436 = false := rfl
theorem z95 : G.mrf 437 = false := rfl
theorem zli : G.mrf 438 = false := rfl
theorem qu3 : G.mrf 439 = false := rfl
theorem zg0 : G.mrf 440 = false := rfl
theorem qyx : G.mrf 441 = false := rfl
theorem qzn : G.mrf 442 = false := rfl
theorem zid : G.mrf 443 = false := rfl
theorem zhc : G.mrf 444 = false := rfl
theorem z3i : G.mrf 445 = false := rfl
theorem z0s : G.mrf 447 = false := rfl
theorem zjn : G.mrf 448 = false := rfl
theorem z8l : G.mrf 449 = false := rfl
theorem qqv : G.mrf 450 = false := rfl
theorem zhk : G.mrf 451 = false := rfl
theorem zhx : G.mrf 452 = false := rfl
theorem zi7 : G.mrf 454 = false := rfl
theorem qg3 : G.mrf 456 = false := rfl
theorem qh7 : G.mrf 457 = false := rfl
theorem zgt : G.mrf 458 = false := rfl
theorem z8q : G.mrf 459 = false := rfl
theorem qfs : G.mrf 460 = false := rfl
theorem z5b : G.mrf 462 = false := rfl
theorem qww : G.mrf 463 = false := rfl
theorem zkx : G.mrf 464 = false := rfl
theorem zgd : G.mrf 465 = false := rfl
theorem zf8 : G.mrf 466 = false := rfl
theorem qy6 : G.mrf 467 = false := rfl
theorem qka : G.mrf 468 = false := rfl
theorem qu8 : G.mrf 469 = false := rfl
theorem qtd : G.mrf 470 = false := rfl
theorem qyf : G.mrf 471 = false := rfl
theorem qfh : G.mrf 472 = false := rfl
theorem qyc : G.mrf 473 = false := rfl
theorem z2h : G.mrf 474 = false := rfl
theorem z6p : G.mrf 475 = false := rfl
theorem z8p : G.mrf 476 = false := rfl
theorem qlz : G.mrf 477 = false := rfl
theorem z3y : G.mrf 478 = false := rfl
theorem z1v : G.mrf 480 = false := rfl
theorem qxu : G.mrf 481 = false := rfl
theorem qjo : G.mrf 482 = false := rfl
theorem qkd : G.mrf 483 = false := rfl
theorem qnn : G.mrf 484 = false := rfl
theorem quf : G.mrf 485 = false := rfl
theorem zim : G.mrf 486 = false := rfl
theorem z9a : G.mrf 487 = false := rfl
theorem zh7 : G.mrf 488 = false := rfl
theorem qjp : G.mrf 489 = false := rfl
theorem qqg : G.mrf 490 = false := rfl
theorem qt9 : G.mrf 491 = false := rfl
theorem z2w : G.mrf 493 = false := rfl
theorem qp9 : G.mrf 494 = false := rfl
theorem zka : G.mrf 495 = false := rfl
theorem z5q : G.mrf 496 = false := rfl
theorem zds : G.mrf 497 = false := rfl
theorem qth : G.mrf 498 = false := rfl
theorem z5l : G.mrf 499 = false := rfl
theorem qfv : G.mrf 500 = false := rfl
theorem zh6 : G.mrf 501 = false := rfl
theorem zj7 : G.mrf 502 = false := rfl
theorem zjh : G.mrf 504 = false := rfl
theorem qr1 : G.mrf 505 = false := rfl
theorem qgo : G.mrf 506 = false := rfl
theorem qts : G.mrf 507 = false := rfl
theorem zki : G.mrf 508 = false := rfl
theorem zkl : G.mrf 509 = false := rfl
theorem zgu : G.mrf 510 = false := rfl
theorem qre : G.mrf 512 = false := rfl
theorem qv9 : G.mrf 513 = false := rfl
theorem qln : G.mrf 515 = false := rfl
theorem zle : G.mrf 516 = false := rfl
theorem zct : G.mrf 517 = false := rfl
theorem z2u : G.mrf 518 = false := rfl
theorem qh8 : G.mrf 519 = false := rfl
theorem qhh : G.mrf 520 = false := rfl
theorem qum : G.mrf 521 = false := rfl
theorem z1b : G.mrf 522 = false := rfl
theorem zaj : G.mrf 523 = false := rfl
theorem qmi : G.mrf 524 = false := rfl
theorem zjs : G.mrf 525 = false := rfl
theorem qv4 : G.mrf 526 = false := rfl
theorem z8z : G.mrf 527 = false := rfl
theorem qs5 : G.mrf 528 = false := rfl
theorem qgn : G.mrf 529 = false := rfl
theorem qmx : G.mrf 530 = false := rfl
theorem qyu : G.mrf 531 = false := rfl
theorem qr8 : G.mrf 532 = false := rfl
theorem z6r : G.mrf 533 = false := rfl
theorem z6y : G.mrf 534 = false := rfl
theorem zcj : G.mrf 535 = false := rfl
theorem ti3 : G.ti 3 = some ⟨1,8,.int .i64,[.int .i64 0],false,none⟩ := by kernel_rfl
theorem ti4 : G.ti 4 = some ⟨1,1,.bool,[.bool false],false,none⟩ := by kernel_rfl
theorem ti5 : G.ti 5 = some ⟨1,1,.int .u8,[.int .u8 0],false,none⟩ := by kernel_rfl
theorem ti9 : G.ti 9 = some ⟨1,16,.string,[.str []],false,none⟩ := by kernel_rfl
theorem qqx : G.ti 22 = some ⟨1,24,.slice 5,[.sl true 0 []],false,none⟩ := by kernel_rfl
theorem qjj : G.ti 24 = some ⟨1,24,.slice 54,[.sl true 0 []],false,none⟩ := by kernel_rfl
theorem qgz : G.ti 25 = some ⟨1,24,.slice 44,[.sl true 0 []],false,none⟩ := by kernel_rfl
theorem qhy : G.ti 26 = some ⟨1,8,.int .i64,[.int .i64 0],false,none⟩ := by kernel_rfl
theorem ziy : G.ti 37 = some ⟨2,32,.struct [(0,1,22),(1,1,3)],[.sl true 0 [],.int .i64 0],true,none⟩ := by kernel_rfl
theorem zi4 : G.ti 39 = some ⟨3,40,.struct [(0,2,37),(2,1,4)],[.sl true 0 [],.int .i64 0,.bool false],true,none⟩ := by kernel_rfl
theorem qjx : G.ti 41 = some ⟨1,24,.slice 76,[.sl true 0 []],false,none⟩ := by kernel_rfl
theorem za0 : G.ti 42 = some ⟨1,24,.slice 78,[.sl true 0 []],false,none⟩ := by kernel_rfl
theorem qq4 : G.ti 44 = some ⟨7,104,.struct [(0,1,3),(1,1,9),(2,1,9),(3,1,3),(4,1,4),(5,1,41),(6,1,42)],[.int .i64 0,.str [],.str [],.int .i64 0,.bool false,.sl true 0 [],.sl true 0 []],true,none⟩ := by kernel_rfl
theorem z96 : G.ti 48 = some ⟨2,32,.struct [(0,1,22),(1,1,3)],[.sl true 0 [],.int .i64 0],true,none⟩ := by kernel_rfl
theorem z3r : G.ti 54 = some ⟨1,4,.int .u32,[.int .u32 0],false,none⟩ := by kernel_rfl
theorem qz3 : G.ti 74 = some ⟨2,16,.struct [(0,1,3),(1,1,3)],[.int .i64 0,.int .i64 0],true,none⟩ := by kernel_rfl
theorem zef : G.ti 76 = some ⟨3,32,.struct [(0,2,74),(2,1,9)],[.int .i64 0,.int .i64 0,.str []],true,none⟩ := by kernel_rfl
theorem qur : G.ti 78 = some ⟨2,16,.struct [(0,1,3),(1,1,3)],[.int .i64 0,.int .i64 0],true,none⟩ := by kernel_rfl
theorem zl4 : G.ti 120 = some ⟨1,24,.slice 9,[.sl true 0 []],false,none⟩ := by kernel_rfl
theorem fn3 : G.fn 3 = some ⟨Tryz.f3.ntmps,Tryz.f3.results.toList,Tryz.f3.body.get!⟩ := by kernel_rfl
theorem fn5 : G.fn 5 = some ⟨Tryz.f5.ntmps,Tryz.f5.results.toList,Tryz.f5.body.get!⟩ := by kernel_rfl
theorem fn6 : G.fn 6 = some ⟨Tryz.f6.ntmps,Tryz.f6.results.toList,Tryz.f6.body.get!⟩ := by kernel_rfl
theorem fn7 : G.fn 7 = some ⟨Tryz.f7.ntmps,Tryz.f7.results.toList,Tryz.f7.body.get!⟩ := by kernel_rfl
theorem fn8 : G.fn 8 = some ⟨Tryz.f8.ntmps,Tryz.f8.results.toList,Tryz.f8.body.get!⟩ := by kernel_rfl
theorem q5s : G.fn 11 = some ⟨Tryz.f11.ntmps,Tryz.f11.results.toList,Tryz.f11.body.get!⟩ := by kernel_rfl
theorem xn : G.fn 12 = some ⟨Tryz.f12.ntmps,Tryz.f12.results.toList,Tryz.f12.body.get!⟩ := by kernel_rfl
theorem q3x : G.fn 13 = some ⟨Tryz.f13.ntmps,Tryz.f13.results.toList,Tryz.f13.body.get!⟩ := by kernel_rfl
theorem q8s : G.fn 14 = some ⟨Tryz.f14.ntmps,Tryz.f14.results.toList,Tryz.f14.body.get!⟩ := by kernel_rfl
theorem xq : G.fn 15 = some ⟨Tryz.f15.ntmps,Tryz.f15.results.toList,Tryz.f15.body.get!⟩ := by kernel_rfl
theorem q3q : G.fn 16 = some ⟨Tryz.f16.ntmps,Tryz.f16.results.toList,Tryz.f16.body.get!⟩ := by kernel_rfl
theorem q4k : G.fn 17 = some ⟨Tryz.f17.ntmps,Tryz.f17.results.toList,Tryz.f17.body.get!⟩ := by kernel_rfl
theorem q5v : G.fn 24 = some ⟨Tryz.f24.ntmps,Tryz.f24.results.toList,Tryz.f24.body.get!⟩ := by kernel_rfl
theorem qen : G.fn 25 = some ⟨Tryz.f25.ntmps,Tryz.f25.results.toList,Tryz.f25.body.get!⟩ := by kernel_rfl
theorem q9k : G.fn 26 = some ⟨Tryz.f26.ntmps,Tryz.f26.results.toList,Tryz.f26.body.get!⟩ := by kernel_rfl
theorem q8o : G.fn 27 = some ⟨Tryz.f27.ntmps,Tryz.f27.results.toList,Tryz.f27.body.get!⟩ := by kernel_rfl
theorem qde : G.fn 28 = some ⟨Tryz.f28.ntmps,Tryz.f28.results.toList,Tryz.f28.body.get!⟩ := by kernel_rfl
theorem qbf : G.fn 29 = some ⟨Tryz.f29.ntmps,Tryz.f29.results.toList,Tryz.f29.body.get!⟩ := by kernel_rfl
theorem q49 : G.fn 30 = some ⟨Tryz.f30.ntmps,Tryz.f30.results.toList,Tryz.f30.body.get!⟩ := by kernel_rfl
theorem q5e : G.fn 31 = some ⟨Tryz.f31.ntmps,Tryz.f31.results.toList,Tryz.f31.body.get!⟩ := by kernel_rfl
theorem qbj : G.fn 32 = some ⟨Tryz.f32.ntmps,Tryz.f32.results.toList,Tryz.f32.body.get!⟩ := by kernel_rfl
theorem qep : G.fn 33 = some ⟨Tryz.f33.ntmps,Tryz.f33.results.toList,Tryz.f33.body.get!⟩ := by kernel_rfl
theorem q53 : G.fn 34 = some ⟨Tryz.f34.ntmps,Tryz.f34.results.toList,Tryz.f34.body.get!⟩ := by kernel_rfl
theorem q8m : G.fn 35 = some ⟨Tryz.f35.ntmps,Tryz.f35.results.toList,Tryz.f35.body.get!⟩ := by kernel_rfl
theorem mr : G.fn 53 = some ⟨Tryz.f53.ntmps,Tryz.f53.results.toList,Tryz.f53.body.get!⟩ := by kernel_rfl
theorem q96 : G.fn 54 = some ⟨Tryz.f54.ntmps,Tryz.f54.results.toList,Tryz.f54.body.get!⟩ := by kernel_rfl
theorem gu : G.fn 55 = some ⟨Tryz.f55.ntmps,Tryz.f55.results.toList,Tryz.f55.body.get!⟩ := by kernel_rfl
theorem qwz : G.fn 56 = some ⟨Tryz.f56.ntmps,Tryz.f56.results.toList,Tryz.f56.body.get!⟩ := by kernel_rfl
theorem qcw : G.fn 85 = some ⟨Tryz.f85.ntmps,Tryz.f85.results.toList,Tryz.f85.body.get!⟩ := by kernel_rfl
end Go.Proofs.YthikhbpbpphaaaaGreatDoor
