/-
  The tables of the program as the machine reads it.
-/
import Derived.Test.YtljbbncgpbgboaaGreatDoorRows
import Derived.Test.YtljbbncgpbgboaaGreatDoorCad
set_option linter.unusedSimpArgs false
set_option linter.unusedVariables false
namespace Go.Proofs.YtljbbncgpbgboaaGreatDoor
open Go Go.Gm
def spec : FuncId → Nat → zz
 | 3,0 => ⟨[0,1,5,6],[0,1,5],[],[],[],0⟩
 | 5,0 => ⟨[0,3,4],[3],[],[],[],0⟩
 | 6,0 => ⟨[0,3,4],[3],[],[],[],0⟩
 | 7,0 => ⟨[9,10,34,35,36],[10],[],[],[],1000⟩
 | 8,0 => ⟨[0,6,7,8,9],[2,3,4,5,6,7,8,9],[8],[],[],1000⟩
 | 9,0 => ⟨[0,6,15,16,17],[0,4,5,6],[],[],[],1000⟩
 | 12,0 => ⟨[0,5,28,29,30],[0,5],[],[],[],1000⟩
 | 12,2 => ⟨[0,46,47,48],[0],[],[],[],1000⟩
 | 12,4 => ⟨[0,9,10,46,47,48,53,54,55],[0,9,10,46,47,48],[],[],[],1000⟩
 | 15,0 => ⟨[0,3],[0,3],[3],[],[],1000⟩
 | 16,1 => ⟨[0,2,3],[0,2,3],[],[(3,5)],[],1000⟩
 | 16,3 => ⟨[0,2,3],[0,2,3],[],[(3,6)],[],1000⟩
 | 33,0 => ⟨[1,2,3,7,8,9],[1,2,3],[3],[],[],1000⟩
 | 34,0 => ⟨[0,3],[0,3],[],[],[],1000⟩
 | 41,0 => ⟨[0,3],[0,2],[],[],[],1000⟩
 | 43,0 => ⟨[0,1,7,8],[4],[],[],[],1000⟩
 | 45,0 => ⟨[0,6,12,13,14],[0,4,5,6],[6],[],[],1000⟩
 | 48,0 => ⟨[0,1,14,15,16],[1,4,5],[],[],[],1000⟩
 | 50,0 => ⟨[1,2,4,11,13,37,38,39],[4,11],[],[],[],1000⟩
 | 55,0 => ⟨[1,5,13,14,15],[5],[5],[],[],1000⟩
 | 56,0 => ⟨[0,1,5,20,21,22],[5],[5],[],[],1000⟩
 | 56,2 => ⟨[12,73,74,75],[12],[12],[],[],1000⟩
 | 63,0 => ⟨[0,1,7,9,10],[0,1,7,9],[],[],[],1000⟩
 | 63,2 => ⟨[0,1,7,11,65,66,67],[0,1,7],[],[],[],1000⟩
 | 64,0 => ⟨[0,1,4,5],[0,1,4,5],[],[],[],1000⟩
 | 64,2 => ⟨[0,1,4,5,6],[0,1,4,5,6],[],[],[],1000⟩
 | 67,0 => ⟨[1,2,3,10,11,12],[1,2,3],[3],[],[],1000⟩
 | 67,2 => ⟨[1,2,3,5,6,10,11,12,17,18,19],[1,2,3,5,6,10,11,12],[6],[],[],1000⟩
 | 69,0 => ⟨[0,4,5,6],[0,2,3,4,5,6],[],[],[],1000⟩
 | 72,0 => ⟨[0,1,2,3],[1,3],[],[],[],1000⟩
 | 75,0 => ⟨[4,14,15,16],[4],[4],[],[],1000⟩
 | 80,0 => ⟨[3,6,42,43,44],[2],[],[],[],1000⟩
 | 80,2 => ⟨[3,6,7,8,9,42,43,44,54,55,56],[2,3,8,42,43,44],[],[],[],1000⟩
 | 81,0 => ⟨[0,1,7,8,9],[0,1,4],[],[],[],1000⟩
 | 82,0 => ⟨[3,14,15,16],[3],[],[(3,2)],[],1000⟩
 | 83,0 => ⟨[0,1],[],[],[],[],1000⟩
 | 84,0 => ⟨[0,14,15,16],[],[],[],[2000],1000⟩
 | 85,0 => ⟨[0,3],[2],[],[],[],1000⟩
 | 85,2 => ⟨[0,3,4],[0,2,3],[],[],[],1000⟩
 | 85,4 => ⟨[0,3,4,44,45,46],[0,2,3,4],[],[],[],1000⟩
 | 86,0 => ⟨[0,2,11,12],[],[],[],[],1000⟩
 | 86,2 => ⟨[0,2,3,4,11,12,34,35,36],[0,3,4,11,12],[],[(4,1),(4,2)],[],1000⟩
 | 87,0 => ⟨[0,2,3,9,10,11],[0,2,3],[3],[],[],1000⟩
 | 89,0 => ⟨[3,10,11,12],[3],[3],[],[],1000⟩
 | 89,2 => ⟨[6,28,29,30],[6],[6],[],[],1000⟩
 | 90,0 => ⟨[0,1,6,7],[0,1,6,7],[7],[],[],1000⟩
 | 91,0 => ⟨[3,7,8,9],[3],[],[],[],1000⟩
 | 92,0 => ⟨[3,6,7,8],[3],[3],[],[],1000⟩
 | 94,0 => ⟨[1,2,11,12,13,39,40,41],[6,7,8,12,13],[12,13],[],[],1000⟩
 | 96,0 => ⟨[1,4,5,6,13,14,15],[4,5],[],[(5,1)],[],1000⟩
 | 96,2 => ⟨[1,4,5,6,8,9,10,13,14,15,36,37,38],[1,4,5,6,8,10,13,14,15],[],[(10,2)],[],1000⟩
 | 98,0 => ⟨[1,2,4,6,7,23,24,25],[1,2,4,6,7],[7],[],[],1000⟩
 | 100,0 => ⟨[0,9,10,11],[4,5],[],[],[],1000⟩
 | 101,0 => ⟨[0,13,14,15],[4,5],[],[],[],1000⟩
 | 102,0 => ⟨[1,2,6,7,14,15,16],[6,7],[6],[],[],1000⟩
 | 102,2 => ⟨[1,2,6,7,10,14,15,16,21,22,23],[1,2,6,7,14,15,16],[6],[],[],1000⟩
 | 103,0 => ⟨[0,7,8,9,23,24,25],[7],[7],[],[],1000⟩
 | 108,0 => ⟨[0,1,5,15,16,17],[0,1,4,5],[5],[],[],1000⟩
 | 108,2 => ⟨[0,1,35,36,37],[],[],[],[],1000⟩
 | 109,0 => ⟨[1,5,8,9,10],[5],[5],[],[1],1000⟩
 | 114,0 => ⟨[0],[0],[],[],[],1000⟩
 | 115,0 => ⟨[0],[0],[],[],[],1000⟩
 | 122,0 => ⟨[3,6,7,8],[2,3],[],[],[],1000⟩
 | 126,0 => ⟨[0,1],[1],[],[],[],1000⟩
 | 127,0 => ⟨[0,1],[1],[],[],[],1000⟩
 | 131,0 => ⟨[0,1],[0,1],[],[],[],1000⟩
 | 131,2 => ⟨[0,1],[1],[],[],[],1000⟩
 | 132,0 => ⟨[0,1],[0,1],[],[],[],1000⟩
 | 132,2 => ⟨[0,1],[1],[],[],[],1000⟩
 | 134,0 => ⟨[0,1,12,13],[4],[],[],[],1000⟩
 | 135,0 => ⟨[2,5,18,19,20],[4],[],[],[18],1000⟩
 | 137,0 => ⟨[0,5,10,11,12],[5],[5],[],[],1000⟩
 | 137,2 => ⟨[0,5,10,11,12,17,18,19],[0,5,10,11,12],[5],[],[],1000⟩
 | 138,0 => ⟨[3,10,11,12],[2],[],[],[],1000⟩
 | 139,0 => ⟨[3,6,7,8],[3],[3],[],[],1000⟩
 | 140,0 => ⟨[0,7,8,9],[0],[],[],[],1000⟩
 | 141,0 => ⟨[2,9,10,11],[4],[],[],[],1000⟩
 | 142,0 => ⟨[0,2,3],[],[],[],[],1000⟩
 | 143,0 => ⟨[2,3,11,12,13],[4,5],[],[],[],1000⟩
 | 143,2 => ⟨[2,3,6,11,12,13,19,20,21],[2,3,4,5,11,12,13],[],[],[],1000⟩
 | 144,0 => ⟨[0,1,5,10,12,13,14],[0,1,5,10,12],[],[],[],1000⟩
 | 144,2 => ⟨[0,1,5,10,12,91,92,93],[0,10],[],[],[],1000⟩
 | 145,0 => ⟨[1,3,12,13,14],[1,3],[],[],[1],1000⟩
 | 145,2 => ⟨[1,3,6],[6],[6],[],[],1000⟩
 | 146,0 => ⟨[0,1,2,3,9,10,11,47,48,49],[0,1,2,3,9,10,11],[],[],[],1000⟩
 | 146,2 => ⟨[0,1,2,3,15,16,17],[8],[],[],[],1000⟩
 | 153,0 => ⟨[0,1,7,8,9],[4],[],[],[],1000⟩
 | 155,0 => ⟨[10,12],[10,12],[],[],[],1000⟩
 | 158,0 => ⟨[3,11,12,13],[3],[],[],[],1000⟩
 | 158,2 => ⟨[3,11,12,13,18,19,20],[3,11,12,13],[],[],[],1000⟩
 | 159,0 => ⟨[2,3,12,13,14],[2,3],[],[(3,2)],[],1000⟩
 | 159,2 => ⟨[2,3,6,12,13,14,23,24],[2,3,6,12,13,14],[],[],[],1000⟩
 | 161,0 => ⟨[0,2,3],[],[],[],[],1000⟩
 | 168,0 => ⟨[0,1,14,15,16],[0],[],[],[],1000⟩
 | 171,0 => ⟨[0,1,4],[0,1,4],[],[],[],1000⟩
 | 172,0 => ⟨[0,1,3,4,10,11,12,13,14,15,16],[0,1,3,4,10,11,12,13],[],[],[],1000⟩
 | 172,2 => ⟨[0,1,3,4,10,11,12,13,17],[0,1,3,4,10,11,12,13],[],[],[],1000⟩
 | 173,0 => ⟨[1,2,3,11,12,13],[1,2,3],[3],[],[],1000⟩
 | 176,0 => ⟨[0,2,3,4],[2,3],[],[],[],1000⟩
 | 178,0 => ⟨[0,1,2,6,7,8],[0,1,2,6,7],[],[],[],1000⟩
 | 178,2 => ⟨[0,1,2,6],[],[],[],[],1000⟩
 | 178,4 => ⟨[0,1,2,6,7,8],[0,1,2,6,7],[],[],[],1000⟩
 | 183,0 => ⟨[1,2,7,8],[6,7],[],[],[],1000⟩
 | 188,0 => ⟨[1,2,5],[1,2,4],[],[],[],1000⟩
 | 193,0 => ⟨[7,8],[7],[],[],[],1000⟩
 | 194,0 => ⟨[5,6,12,13,14,34,35,36],[12,14],[],[(14,1),(14,2)],[],1000⟩
 | 197,0 => ⟨[1,2,5,12,13,14],[5],[],[],[],1000⟩
 | 197,2 => ⟨[1,2,5,7,8,12,13,14],[1,2,5,12,13,14],[],[],[],1000⟩
 | 198,0 => ⟨[0,1,7,8],[4],[],[],[],1000⟩
 | 200,0 => ⟨[1,2,3,7,8,9,10],[7,8,9],[],[],[],1000⟩
 | 201,0 => ⟨[1,3,10,12,13,40,41,42],[1,6,7,8,10,12,13],[12],[],[],1000⟩
 | 201,2 => ⟨[1,3,10,12,13,15,16,40,41,42,52,53,54],[1,3,10,12,13,15,16,40,41,42],[16],[],[],1000⟩
 | 201,4 => ⟨[1,3,10,12,15,16,40,41,42,74,75,76],[1,3,10,12,15,40,41,42],[12],[],[],1000⟩
 | 202,0 => ⟨[0,1,2,6,7,8],[0,1,2,6,7],[],[],[],1000⟩
 | 202,2 => ⟨[0,1,2,6],[],[],[],[],1000⟩
 | 202,4 => ⟨[0,1,2,6,7,8],[0,1,2,6,7],[],[],[],1000⟩
 | 208,0 => ⟨[0,5,6],[0,5,6],[],[],[],1000⟩
 | 208,2 => ⟨[0,5,6],[0,5,6],[],[],[],1000⟩
 | 209,0 => ⟨[0,8,9,10],[4,5],[],[],[],1000⟩
 | 211,0 => ⟨[0,5,8,9,10],[5],[5],[],[],1000⟩
 | 212,0 => ⟨[0,6,7,8],[],[],[],[],1000⟩
 | 213,0 => ⟨[0,2,9,10,11],[6],[],[],[],1000⟩
 | 214,0 => ⟨[0,1,2,12,13],[1,6,7],[1],[],[],1000⟩
 | 215,0 => ⟨[0,1,5,6,12,13,14],[0,1,5,6],[],[],[],1000⟩
 | 215,2 => ⟨[0,1,5,6,37,38,39],[0,1,6],[],[],[],1000⟩
 | 216,0 => ⟨[0,1,3,4,17,18,19],[1],[1],[],[],1000⟩
 | 216,2 => ⟨[0,1,3,4,12,14,17,18,19,52,53,54],[0,1,3,4,12,14,17,18,19],[],[(14,17)],[],1000⟩
 | 217,0 => ⟨[0,1,2,6,7,8],[0,1,2,6,7],[],[],[],1000⟩
 | 217,2 => ⟨[0,1,2,6],[],[],[],[],1000⟩
 | 217,4 => ⟨[0,1,2,6,7,8],[0,1,2,6,7],[],[],[],1000⟩
 | 227,0 => ⟨[0,1,2,3,8],[],[],[],[],1000⟩
 | 227,2 => ⟨[0,1,2,3,8,9],[0,1,2,3,8],[],[],[],1000⟩
 | 228,0 => ⟨[0,1,4,10,11],[0,1,10],[],[],[],1000⟩
 | 228,2 => ⟨[0,10,13],[],[],[],[],1000⟩
 | 228,4 => ⟨[0,2,4,14,15],[0,2,14],[],[],[],1000⟩
 | 228,6 => ⟨[0,14,17],[],[],[],[],1000⟩
 | 228,8 => ⟨[0,1,2,3,4,18,19,20,21,22],[0,1,2,3,4,18,19,20],[],[],[],1000⟩
 | 229,0 => ⟨[1,4,6,7],[4,5,6],[],[],[],1000⟩
 | 231,0 => ⟨[0,1,7,8],[0,6],[],[],[],1000⟩
 | 235,0 => ⟨[0,1,7,8],[4],[],[],[],1000⟩
 | 237,0 => ⟨[1,2,4,5,10,11,19,20,21],[1,2,4,5,10,11],[],[(11,3)],[],1000⟩
 | 237,2 => ⟨[10,11,71,72,73],[10,11],[],[],[],1000⟩
 | 238,0 => ⟨[0,2,3,4,6,10,12,13,14,32,33,34],[10,12,13],[13],[(12,2)],[],1000⟩
 | 241,0 => ⟨[0,5],[],[],[],[],1000⟩
 | 245,0 => ⟨[1,5,12,13,14],[5],[],[],[],1000⟩
 | 246,0 => ⟨[0,1,2,3,8],[],[],[],[],1000⟩
 | 246,2 => ⟨[0,1,2,3,8,9],[0,1,2,3,8],[],[],[],1000⟩
 | 247,0 => ⟨[0,1,4,10,11],[0,1,10],[],[],[],1000⟩
 | 247,2 => ⟨[0,10,13],[],[],[],[],1000⟩
 | 247,4 => ⟨[0,2,4,14,15],[0,2,14],[],[],[],1000⟩
 | 247,6 => ⟨[0,14,17],[],[],[],[],1000⟩
 | 247,8 => ⟨[0,1,2,3,4,18,19,20,21,22],[0,1,2,3,4,18,19,20],[],[],[],1000⟩
 | 250,0 => ⟨[0,4,5],[0,2,3,4,5],[],[],[],1000⟩
 | 251,0 => ⟨[0,4],[0,4],[],[],[],1000⟩
 | 262,0 => ⟨[0,1,2,3,8],[],[],[],[],1000⟩
 | 262,2 => ⟨[0,1,2,3,8,9],[0,1,2,3,8],[],[],[],1000⟩
 | 263,0 => ⟨[0,1,4,10,11],[0,1,10],[],[],[],1000⟩
 | 263,2 => ⟨[0,10,13],[],[],[],[],1000⟩
 | 263,4 => ⟨[0,2,4,14,15],[0,2,14],[],[],[],1000⟩
 | 263,6 => ⟨[0,14,17],[],[],[],[],1000⟩
 | 263,8 => ⟨[0,1,2,3,4,18,19,20,21,22],[0,1,2,3,4,18,19,20],[],[],[],1000⟩
 | 264,0 => ⟨[0,5],[],[],[],[],1000⟩
 | 267,0 => ⟨[0,2,4,10,11],[0,2,4,10],[],[],[],1000⟩
 | 270,0 => ⟨[0,2,3,5,8,9],[0,2,3,5,8],[],[],[],1000⟩
 | 270,2 => ⟨[0,3,5,8,10,11],[],[],[],[],1000⟩
 | 271,0 => ⟨[0,2,4,6,28,29,30],[],[],[],[],1000⟩
 | 275,0 => ⟨[0,1,2,3,8,9],[],[],[],[],1000⟩
 | 278,0 => ⟨[0,5,6,7],[2],[],[],[],1000⟩
 | 279,0 => ⟨[11,12,13],[8,9,10,11,12],[12],[],[],1000⟩
 | 281,1 => ⟨[6,16,17,18],[6],[],[],[],1000⟩
 | 281,3 => ⟨[6,31,32,33],[6],[],[],[],1000⟩
 | 282,0 => ⟨[0,2,4,10,11],[0,2,4,10],[],[],[],1000⟩
 | 283,0 => ⟨[0,4,5],[0,4,5],[4,5],[],[],1000⟩
 | 284,0 => ⟨[0,1,4,7],[0,1,4,7],[7],[],[],1000⟩
 | 287,0 => ⟨[0,1,5],[4],[],[],[],1000⟩
 | 291,0 => ⟨[0,1,2,3,8,9],[],[],[],[],1000⟩
 | 293,0 => ⟨[0,2,4,10,11],[0,2,4,10],[],[],[],1000⟩
 | 294,0 => ⟨[0,1,2,3,10],[],[],[],[],1000⟩
 | 297,0 => ⟨[0,1,2,6],[],[],[],[],1000⟩
 | 297,2 => ⟨[0,1,2,6,7],[0,1,2,6],[],[],[],1000⟩
 | 298,0 => ⟨[0,6,7,8,9],[0,6,7,8],[],[],[],1000⟩
 | 298,2 => ⟨[0,6,7,10],[],[],[],[],1000⟩
 | 299,0 => ⟨[0,1,6,7,8,9],[],[],[],[],1000⟩
 | 301,0 => ⟨[0,6,7],[],[],[],[],1000⟩
 | 302,0 => ⟨[0,1,2,7,8],[6],[],[],[],1000⟩
 | 302,2 => ⟨[0,1,2,7,8],[0,1,2,7,8],[],[],[],1000⟩
 | 302,4 => ⟨[0,1,2,7,8,9],[0,1,2,7,8],[],[],[],1000⟩
 | 302,6 => ⟨[0,1,2,7,8,10],[0,1,2,7,8],[],[],[],1000⟩
 | 304,0 => ⟨[0,1,9,10],[9],[],[],[],1000⟩
 | 304,2 => ⟨[0,1,9,10],[0,1,9,10],[],[],[],1000⟩
 | 304,4 => ⟨[0,1,9,10],[0,1,9,10],[],[],[],1000⟩
 | 305,0 => ⟨[0,1,10,11],[0,1,10,11],[],[],[],1000⟩
 | 305,2 => ⟨[0,1,10,11],[0,1,10,11],[],[],[],1000⟩
 | 305,4 => ⟨[0,1,10,11],[0,1,11],[],[],[],1000⟩
 | 305,6 => ⟨[0,1,10,11],[0,1,10,11],[],[],[],1000⟩
 | 305,8 => ⟨[0,1,10,11],[0,1,10,11],[],[],[],1000⟩
 | 307,0 => ⟨[1,2,31,32,33],[1,6,7],[],[],[],1000⟩
 | 310,0 => ⟨[0,1,4],[4,5],[],[],[],1000⟩
 | 315,0 => ⟨[0,1,5,6],[5],[],[],[],1000⟩
 | 316,0 => ⟨[0,1,2,3,10],[],[],[],[],1000⟩
 | 318,0 => ⟨[0,1,7,8,9],[4,5,6],[],[(7,0),(8,0)],[],1000⟩
 | 320,0 => ⟨[0,1,12,13],[4],[],[],[],1000⟩
 | 322,0 => ⟨[0,1,2,3,10],[],[],[],[],1000⟩
 | 323,0 => ⟨[0,2,3,8],[],[],[],[],1000⟩
 | 332,0 => ⟨[0,3,4],[3],[3],[],[],1000⟩
 | 333,0 => ⟨[0,3,4],[3],[3],[],[],1000⟩
 | 334,0 => ⟨[1,4,5,22,23,24],[1,4,5],[],[(5,8)],[],1000⟩
 | 335,0 => ⟨[7,8],[7],[],[],[],1000⟩
 | 337,0 => ⟨[0,1,6,7,8],[0,1,6,7],[],[],[],1000⟩
 | 341,0 => ⟨[0,2,4,5],[2,3],[4,5],[],[],1000⟩
 | 346,0 => ⟨[0,1,12,13],[4],[],[],[],1000⟩
 | 347,0 => ⟨[1,2,15,16,17],[6],[],[],[],1000⟩
 | 350,0 => ⟨[0,5,6,7],[2],[],[],[],1000⟩
 | 354,0 => ⟨[0,1],[1],[],[],[],1000⟩
 | 355,0 => ⟨[0,4,5],[],[],[],[],1000⟩
 | 356,1 => ⟨[0,2,3,29,30,31],[8],[],[],[],1000⟩
 | 363,0 => ⟨[0,1,7,8],[1,4,5,6,7,8],[],[],[],1000⟩
 | 376,0 => ⟨[0,5,8,9,10],[5],[5],[],[],1000⟩
 | 379,0 => ⟨[0,3],[2],[],[],[],1000⟩
 | 380,0 => ⟨[0,1,2,9],[6,7,8],[9],[],[],1000⟩
 | 381,0 => ⟨[0,1,7,8],[4],[],[],[],1000⟩
 | 382,0 => ⟨[0,1,7,8],[4],[],[],[],1000⟩
 | 386,0 => ⟨[3,8,9,10],[3],[],[],[],1000⟩
 | 391,0 => ⟨[0,2,4,5],[2,3,4,5],[5],[],[],1000⟩
 | 395,0 => ⟨[1,7,8,9],[4],[],[],[],1000⟩
 | 396,0 => ⟨[3,8,9,10],[3],[],[],[],1000⟩
 | 398,0 => ⟨[3,10,11,12],[3],[3],[],[],1000⟩
 | 398,2 => ⟨[6,25,26,27],[6],[6],[],[],1000⟩
 | 401,0 => ⟨[0,4,5,6],[2,3,4,5],[],[],[],1000⟩
 | 405,0 => ⟨[0,1,2,6,7,8],[0,1,2,6,7],[],[],[],1000⟩
 | 405,2 => ⟨[0,1,2,6],[],[],[],[],1000⟩
 | 405,4 => ⟨[0,1,2,6,7,8],[0,1,2,6,7],[],[],[],1000⟩
 | 407,0 => ⟨[0,1,2,3,8],[],[],[],[],1000⟩
 | 407,2 => ⟨[0,1,2,3,8,9],[0,1,2,3,8],[],[],[],1000⟩
 | 408,0 => ⟨[0,1,4,10,11],[0,1,10],[],[],[],1000⟩
 | 408,2 => ⟨[0,10,13],[],[],[],[],1000⟩
 | 408,4 => ⟨[0,2,4,14,15],[0,2,14],[],[],[],1000⟩
 | 408,6 => ⟨[0,14,17],[],[],[],[],1000⟩
 | 408,8 => ⟨[0,1,2,3,4,18,19,20,21,22],[0,1,2,3,4,18,19,20],[],[],[],1000⟩
 | 409,0 => ⟨[0,2,4,10,11],[0,2,4,10],[],[],[],1000⟩
 | 410,0 => ⟨[0,1,2,3,10],[],[],[],[],1000⟩
 | _,_ => {}
def qwz (f : FuncId) : Bool := [161,163,217,262,263,142,120,178,227,228,147,202,246,247,151,216,98].contains f
def qcu (f : FuncId) : Bool := [158,82,193,104,162,68,192,151,216,87,33].contains f
def z3h : FuncId → Nat → List Nat
 | 86,15 => [4]
 | _,_ => []
def zau (t : TypeId) : Bool := [].contains t
def qwr (t : TypeId) : Bool := [365,331,334,40].contains t
noncomputable def G : GP := q4e Tryz.prog spec qwz qcu z3h zau qwr
theorem z7l : G.owned 3 = false := rfl
theorem kp3 : G.keep 3 = false := rfl
theorem pr3 (i : Nat) : G.pre 3 i = [] := rfl
theorem zbc : G.owned 4 = false := rfl
theorem kp4 : G.keep 4 = false := rfl
theorem pr4 (i : Nat) : G.pre 4 i = [] := rfl
theorem qp2 : G.owned 5 = false := rfl
theorem kp5 : G.keep 5 = false := rfl
theorem pr5 (i : Nat) : G.pre 5 i = [] := rfl
theorem z2w : G.owned 6 = false := rfl
theorem kp6 : G.keep 6 = false := rfl
theorem pr6 (i : Nat) : G.pre 6 i = [] := rfl
theorem qj6 : G.spec 3 0 = ⟨[0,1,5,6],[0,1,5],[],[],[],0⟩ := rfl
theorem qyx : G.spec 5 0 = ⟨[0,3,4],[3],[],[],[],0⟩ := rfl
theorem qg4 : G.spec 6 0 = ⟨[0,3,4],[3],[],[],[],0⟩ := rfl
theorem fz1 : G.frz 1 = false := rfl
theorem fz2 : G.frz 2 = false := rfl
theorem fz3 : G.frz 3 = false := rfl
theorem fz4 : G.frz 4 = false := rfl
theorem fz5 : G.frz 5 = false := rfl
theorem fz6 : G.frz 6 = false := rfl
theorem fz7 : G.frz 7 = false := rfl
theorem fz8 : G.frz 8 = false := rfl
theorem fz9 : G.frz 9 = false := rfl
theorem qxj : G.frz 10 = false := rfl
theorem z8g : G.frz 11 = false := rfl
theorem qar : G.frz 12 = false := rfl
theorem z6u : G.frz 13 = false := rfl
theorem z18 : G.frz 14 = false := rfl
theorem qqv : G.frz 15 = false := rfl
theorem qgt : G.frz 16 = false := rfl
theorem qvg : G.frz 17 = false := rfl
theorem qs9 : G.frz 18 = false := rfl
theorem qyg : G.frz 19 = false := rfl
theorem qpv : G.frz 20 = false := rfl
theorem qrg : G.frz 21 = false := rfl
theorem qim : G.frz 22 = false := rfl
theorem qwb : G.frz 23 = false := rfl
theorem qog : G.frz 24 = false := rfl
theorem qdo : G.frz 25 = false := rfl
theorem qz5 : G.frz 27 = false := rfl
theorem z97 : G.frz 28 = false := rfl
theorem qc7 : G.frz 29 = false := rfl
theorem z8c : G.frz 30 = false := rfl
theorem qbe : G.frz 32 = false := rfl
theorem qh7 : G.frz 33 = false := rfl
theorem qcp : G.frz 35 = false := rfl
theorem qt6 : G.frz 36 = false := rfl
theorem qli : G.frz 37 = false := rfl
theorem z6f : G.frz 38 = false := rfl
theorem qpf : G.frz 39 = false := rfl
theorem ql3 : G.frz 40 = false := rfl
theorem qf5 : G.frz 41 = false := rfl
theorem qnu : G.frz 42 = false := rfl
theorem z0i : G.frz 43 = false := rfl
theorem z7f : G.frz 44 = false := rfl
theorem qjq : G.frz 45 = false := rfl
theorem qj8 : G.frz 46 = false := rfl
theorem qzn : G.frz 47 = false := rfl
theorem z15 : G.frz 48 = false := rfl
theorem qcw : G.frz 49 = false := rfl
theorem qz7 : G.frz 50 = false := rfl
theorem qut : G.frz 51 = false := rfl
theorem qxt : G.frz 52 = false := rfl
theorem qrv : G.frz 53 = false := rfl
theorem qbc : G.frz 54 = false := rfl
theorem qva : G.frz 55 = false := rfl
theorem z3f : G.frz 56 = false := rfl
theorem qpk : G.frz 57 = false := rfl
theorem qrp : G.frz 58 = false := rfl
theorem qqh : G.frz 59 = false := rfl
theorem qu7 : G.frz 60 = false := rfl
theorem qrh : G.frz 61 = false := rfl
theorem qtv : G.frz 63 = false := rfl
theorem qr9 : G.frz 64 = false := rfl
theorem qfh : G.frz 66 = false := rfl
theorem z9w : G.frz 67 = false := rfl
theorem z8w : G.frz 69 = false := rfl
theorem qfg : G.frz 70 = false := rfl
theorem qpt : G.frz 71 = false := rfl
theorem ql4 : G.frz 72 = false := rfl
theorem zb7 : G.frz 73 = false := rfl
theorem z88 : G.frz 74 = false := rfl
theorem qzx : G.frz 75 = false := rfl
theorem qjr : G.frz 76 = false := rfl
theorem qg1 : G.frz 77 = false := rfl
theorem z0x : G.frz 78 = false := rfl
theorem qmp : G.frz 80 = false := rfl
theorem qh3 : G.frz 81 = false := rfl
theorem qq4 : G.frz 82 = false := rfl
theorem qld : G.frz 83 = false := rfl
theorem ql7 : G.frz 85 = false := rfl
theorem ql5 : G.frz 86 = false := rfl
theorem qga : G.frz 87 = false := rfl
theorem qhu : G.frz 88 = false := rfl
theorem qwy : G.frz 89 = false := rfl
theorem qe7 : G.frz 90 = false := rfl
theorem zbf : G.frz 91 = false := rfl
theorem z9b : G.frz 92 = false := rfl
theorem z2q : G.frz 93 = false := rfl
theorem ql6 : G.frz 94 = false := rfl
theorem qje : G.frz 95 = false := rfl
theorem z1e : G.frz 96 = false := rfl
theorem qwd : G.frz 97 = false := rfl
theorem zaa : G.frz 98 = false := rfl
theorem qqi : G.frz 99 = false := rfl
theorem qg6 : G.frz 100 = false := rfl
theorem z8e : G.frz 101 = false := rfl
theorem qql : G.frz 102 = false := rfl
theorem z0n : G.frz 103 = false := rfl
theorem qj0 : G.frz 104 = false := rfl
theorem z4g : G.frz 105 = false := rfl
theorem qip : G.frz 106 = false := rfl
theorem qgb : G.frz 107 = false := rfl
theorem qkv : G.frz 108 = false := rfl
theorem z6a : G.frz 110 = false := rfl
theorem qqk : G.frz 111 = false := rfl
theorem qra : G.frz 112 = false := rfl
theorem qkb : G.frz 113 = false := rfl
theorem qw2 : G.frz 114 = false := rfl
theorem z5k : G.frz 115 = false := rfl
theorem qoj : G.frz 116 = false := rfl
theorem qkg : G.frz 117 = false := rfl
theorem qu2 : G.frz 118 = false := rfl
theorem qex : G.frz 119 = false := rfl
theorem qnj : G.frz 120 = false := rfl
theorem qsi : G.frz 122 = false := rfl
theorem qil : G.frz 123 = false := rfl
theorem qhq : G.frz 125 = false := rfl
theorem z98 : G.frz 126 = false := rfl
theorem qsz : G.frz 127 = false := rfl
theorem qv2 : G.frz 128 = false := rfl
theorem zaj : G.frz 129 = false := rfl
theorem z2z : G.frz 130 = false := rfl
theorem z01 : G.frz 131 = false := rfl
theorem z5c : G.frz 133 = false := rfl
theorem z5w : G.frz 134 = false := rfl
theorem qfz : G.frz 135 = false := rfl
theorem z2e : G.frz 136 = false := rfl
theorem qln : G.frz 138 = false := rfl
theorem qa8 : G.frz 139 = false := rfl
theorem z7v : G.frz 140 = false := rfl
theorem zbe : G.frz 141 = false := rfl
theorem z10 : G.frz 142 = false := rfl
theorem qzc : G.frz 144 = false := rfl
theorem qas : G.frz 146 = false := rfl
theorem qtg : G.frz 147 = false := rfl
theorem qmo : G.frz 148 = false := rfl
theorem qjp : G.frz 149 = false := rfl
theorem qxy : G.frz 150 = false := rfl
theorem que : G.frz 151 = false := rfl
theorem z7o : G.frz 152 = false := rfl
theorem z1f : G.frz 153 = false := rfl
theorem qh5 : G.frz 154 = false := rfl
theorem qdc : G.frz 155 = false := rfl
theorem za3 : G.frz 156 = false := rfl
theorem z1o : G.frz 157 = false := rfl
theorem zb5 : G.frz 158 = false := rfl
theorem qcl : G.frz 159 = false := rfl
theorem qaa : G.frz 160 = false := rfl
theorem qjf : G.frz 161 = false := rfl
theorem qzj : G.frz 162 = false := rfl
theorem z6w : G.frz 163 = false := rfl
theorem qj4 : G.frz 164 = false := rfl
theorem qwa : G.frz 165 = false := rfl
theorem qp7 : G.frz 166 = false := rfl
theorem qiw : G.frz 168 = false := rfl
theorem qa2 : G.frz 169 = false := rfl
theorem qty : G.frz 170 = false := rfl
theorem z2a : G.frz 171 = false := rfl
theorem qqc : G.frz 172 = false := rfl
theorem zb3 : G.frz 173 = false := rfl
theorem qzq : G.frz 174 = false := rfl
theorem qeh : G.frz 175 = false := rfl
theorem qgd : G.frz 177 = false := rfl
theorem qpy : G.frz 178 = false := rfl
theorem qbx : G.frz 179 = false := rfl
theorem qeb : G.frz 180 = false := rfl
theorem qp4 : G.frz 181 = false := rfl
theorem z8m : G.frz 183 = false := rfl
theorem qs8 : G.frz 184 = false := rfl
theorem z3p : G.frz 185 = false := rfl
theorem qr1 : G.frz 187 = false := rfl
theorem qhz : G.frz 188 = false := rfl
theorem qz4 : G.frz 190 = false := rfl
theorem qtf : G.frz 191 = false := rfl
theorem z2u : G.frz 192 = false := rfl
theorem zaf : G.frz 193 = false := rfl
theorem qhk : G.frz 194 = false := rfl
theorem qk0 : G.frz 195 = false := rfl
theorem qx6 : G.frz 196 = false := rfl
theorem qce : G.frz 198 = false := rfl
theorem qpo : G.frz 199 = false := rfl
theorem qps : G.frz 200 = false := rfl
theorem qx9 : G.frz 201 = false := rfl
theorem qdg : G.frz 202 = false := rfl
theorem z5x : G.frz 203 = false := rfl
theorem zav : G.frz 204 = false := rfl
theorem qyi : G.frz 205 = false := rfl
theorem qnf : G.frz 206 = false := rfl
theorem zab : G.frz 207 = false := rfl
theorem qc8 : G.frz 208 = false := rfl
theorem qv5 : G.frz 209 = false := rfl
theorem qcy : G.frz 210 = false := rfl
theorem qcc : G.frz 211 = false := rfl
theorem qhh : G.frz 213 = false := rfl
theorem qoc : G.frz 214 = false := rfl
theorem z1p : G.frz 215 = false := rfl
theorem z4m : G.frz 216 = false := rfl
theorem qm4 : G.frz 217 = false := rfl
theorem qem : G.frz 218 = false := rfl
theorem qq9 : G.frz 219 = false := rfl
theorem qmq : G.frz 220 = false := rfl
theorem qwl : G.frz 221 = false := rfl
theorem z7z : G.frz 222 = false := rfl
theorem qqb : G.frz 223 = false := rfl
theorem qpl : G.frz 224 = false := rfl
theorem qs3 : G.frz 225 = false := rfl
theorem qwt : G.frz 226 = false := rfl
theorem z1g : G.frz 227 = false := rfl
theorem qzr : G.frz 228 = false := rfl
theorem qfu : G.frz 229 = false := rfl
theorem qqx : G.frz 230 = false := rfl
theorem qsk : G.frz 231 = false := rfl
theorem z1h : G.frz 232 = false := rfl
theorem qvr : G.frz 233 = false := rfl
theorem z1u : G.frz 234 = false := rfl
theorem z2s : G.frz 235 = false := rfl
theorem z7m : G.frz 236 = false := rfl
theorem qtj : G.frz 237 = false := rfl
theorem qw7 : G.frz 238 = false := rfl
theorem qnc : G.frz 239 = false := rfl
theorem z9q : G.frz 240 = false := rfl
theorem qg7 : G.frz 241 = false := rfl
theorem qvl : G.frz 242 = false := rfl
theorem z0c : G.frz 244 = false := rfl
theorem z4f : G.frz 245 = false := rfl
theorem qq6 : G.frz 246 = false := rfl
theorem qjl : G.frz 247 = false := rfl
theorem qvn : G.frz 248 = false := rfl
theorem qwm : G.frz 249 = false := rfl
theorem qwc : G.frz 250 = false := rfl
theorem qdd : G.frz 251 = false := rfl
theorem qv0 : G.frz 252 = false := rfl
theorem qaj : G.frz 253 = false := rfl
theorem qx0 : G.frz 255 = false := rfl
theorem qes : G.frz 256 = false := rfl
theorem qen : G.frz 257 = false := rfl
theorem qmv : G.frz 258 = false := rfl
theorem qs5 : G.frz 259 = false := rfl
theorem z5b : G.frz 261 = false := rfl
theorem qm6 : G.frz 263 = false := rfl
theorem z6b : G.frz 264 = false := rfl
theorem qvm : G.frz 265 = false := rfl
theorem z8i : G.frz 266 = false := rfl
theorem qin : G.frz 267 = false := rfl
theorem qna : G.frz 268 = false := rfl
theorem qms : G.frz 269 = false := rfl
theorem qvt : G.frz 270 = false := rfl
theorem z9x : G.frz 271 = false := rfl
theorem zak : G.frz 272 = false := rfl
theorem qdn : G.frz 273 = false := rfl
theorem qlk : G.frz 274 = false := rfl
theorem qtx : G.frz 275 = false := rfl
theorem qu3 : G.frz 276 = false := rfl
theorem z1w : G.frz 278 = false := rfl
theorem qss : G.frz 279 = false := rfl
theorem qp9 : G.frz 280 = false := rfl
theorem qsj : G.frz 281 = false := rfl
theorem qui : G.frz 283 = false := rfl
theorem qjd : G.frz 284 = false := rfl
theorem qjm : G.frz 285 = false := rfl
theorem qpz : G.frz 286 = false := rfl
theorem qor : G.frz 287 = false := rfl
theorem z14 : G.frz 288 = false := rfl
theorem z6h : G.frz 289 = false := rfl
theorem z5i : G.frz 290 = false := rfl
theorem qpp : G.frz 291 = false := rfl
theorem z7s : G.frz 292 = false := rfl
theorem qtz : G.frz 293 = false := rfl
theorem z4o : G.frz 295 = false := rfl
theorem qpa : G.frz 296 = false := rfl
theorem qxz : G.frz 297 = false := rfl
theorem qmf : G.frz 298 = false := rfl
theorem qru : G.frz 299 = false := rfl
theorem qxk : G.frz 300 = false := rfl
theorem qf0 : G.frz 301 = false := rfl
theorem qs4 : G.frz 302 = false := rfl
theorem qyo : G.frz 303 = false := rfl
theorem qpe : G.frz 304 = false := rfl
theorem z8t : G.frz 305 = false := rfl
theorem qgg : G.frz 306 = false := rfl
theorem qh8 : G.frz 307 = false := rfl
theorem qh0 : G.frz 308 = false := rfl
theorem qn3 : G.frz 309 = false := rfl
theorem qhj : G.frz 310 = false := rfl
theorem qxa : G.frz 311 = false := rfl
theorem qqj : G.frz 312 = false := rfl
theorem qso : G.frz 313 = false := rfl
theorem z8f : G.frz 314 = false := rfl
theorem qod : G.frz 315 = false := rfl
theorem qda : G.frz 316 = false := rfl
theorem qhx : G.frz 317 = false := rfl
theorem qgx : G.frz 318 = false := rfl
theorem qzv : G.frz 319 = false := rfl
theorem qi5 : G.frz 321 = false := rfl
theorem qoy : G.frz 322 = false := rfl
theorem qny : G.frz 323 = false := rfl
theorem qrm : G.frz 324 = false := rfl
theorem qjj : G.frz 325 = false := rfl
theorem qd8 : G.frz 326 = false := rfl
theorem z9s : G.frz 327 = false := rfl
theorem qpb : G.frz 328 = false := rfl
theorem qux : G.frz 329 = false := rfl
theorem z9n : G.frz 330 = false := rfl
theorem qtr : G.frz 331 = false := rfl
theorem qi9 : G.frz 332 = false := rfl
theorem qub : G.frz 333 = false := rfl
theorem qhd : G.frz 334 = false := rfl
theorem qv3 : G.frz 335 = false := rfl
theorem zb0 : G.frz 336 = false := rfl
theorem qec : G.frz 337 = false := rfl
theorem qk1 : G.frz 338 = false := rfl
theorem qa3 : G.frz 339 = false := rfl
theorem qnw : G.frz 341 = false := rfl
theorem quj : G.frz 342 = false := rfl
theorem qwg : G.frz 343 = false := rfl
theorem qdr : G.frz 344 = false := rfl
theorem qve : G.frz 345 = false := rfl
theorem qie : G.frz 346 = false := rfl
theorem qw0 : G.frz 347 = false := rfl
theorem qge : G.frz 348 = false := rfl
theorem z0e : G.frz 349 = false := rfl
theorem z4k : G.frz 350 = false := rfl
theorem z8h : G.frz 351 = false := rfl
theorem z7t : G.frz 352 = false := rfl
theorem qcg : G.frz 353 = false := rfl
theorem qmz : G.frz 354 = false := rfl
theorem qsy : G.frz 355 = false := rfl
theorem qis : G.frz 356 = false := rfl
theorem qnh : G.frz 357 = false := rfl
theorem qvq : G.frz 359 = false := rfl
theorem z6i : G.frz 360 = false := rfl
theorem z5d : G.frz 361 = false := rfl
theorem qei : G.frz 362 = false := rfl
theorem qfb : G.frz 364 = false := rfl
theorem qcz : G.frz 365 = false := rfl
theorem z7b : G.frz 366 = false := rfl
theorem z4y : G.frz 367 = false := rfl
theorem q9v : G.frz 368 = false := rfl
theorem qdt : G.frz 370 = false := rfl
theorem z07 : G.frz 371 = false := rfl
theorem qan : G.frz 372 = false := rfl
theorem qxw : G.frz 374 = false := rfl
theorem qff : G.frz 375 = false := rfl
theorem z7g : G.frz 376 = false := rfl
theorem qmr : G.frz 377 = false := rfl
theorem qj1 : G.frz 378 = false := rfl
theorem qvh : G.frz 379 = false := rfl
theorem qkp : G.frz 380 = false := rfl
theorem z2h : G.frz 381 = false := rfl
theorem qn7 : G.frz 382 = false := rfl
theorem z1z : G.frz 383 = false := rfl
theorem qm8 : G.frz 384 = false := rfl
theorem qsp : G.frz 385 = false := rfl
theorem qj2 : G.frz 386 = false := rfl
theorem qwj : G.frz 387 = false := rfl
theorem qu0 : G.frz 388 = false := rfl
theorem qtn : G.frz 389 = false := rfl
theorem qyv : G.frz 390 = false := rfl
theorem qfo : G.frz 392 = false := rfl
theorem qq8 : G.frz 394 = false := rfl
theorem z3r : G.frz 395 = false := rfl
theorem qwu : G.frz 396 = false := rfl
theorem qbg : G.frz 397 = false := rfl
theorem qbn : G.frz 398 = false := rfl
theorem qlw : G.frz 399 = false := rfl
theorem qro : G.frz 400 = false := rfl
theorem qit : G.frz 401 = false := rfl
theorem qah : G.frz 402 = false := rfl
theorem qot : G.frz 403 = false := rfl
theorem qfq : G.frz 405 = false := rfl
theorem qci : G.frz 406 = false := rfl
theorem qjx : G.frz 408 = false := rfl
theorem qng : G.frz 410 = false := rfl
theorem z7p : G.frz 411 = false := rfl
theorem qlx : G.frz 412 = false := rfl
theorem qm9 : G.frz 413 = false := rfl
theorem qbz : G.frz 414 = false := rfl
theorem za4 : G.frz 415 = false := rfl
theorem qqq : G.frz 416 = false := rfl
theorem qbj : G.frz 417 = false := rfl
theorem qk7 : G.frz 418 = false := rfl
theorem qx7 : G.frz 419 = false := rfl
theorem z7c : G.frz 421 = false := rfl
theorem qrb : G.frz 422 = false := rfl
theorem qjg : G.frz 423 = false := rfl
theorem z9u : G.frz 424 = false := rfl
theorem qtl : G.frz 425 = false := rfl
theorem qok : G.frz 426 = false := rfl
theorem qyr : G.frz 427 = false := rfl
theorem zai : G.frz 428 = false := rfl
theorem qwi : G.frz 429 = false := rfl
theorem zac : G.frz 430 = false := rfl
theorem qv9 : G.frz 431 = false := rfl
theorem qk5 : G.frz 432 = false := rfl
theorem qic : G.frz 433 = false := rfl
theorem qrc : G.frz 435 = false := rfl
theorem qk2 : G.frz 436 = false := rfl
theorem qyj : G.frz 437 = false := rfl
theorem qif : G.frz 438 = false := rfl
theorem z9f : G.frz 439 = false := rfl
theorem qw9 : G.frz 440 = false := rfl
theorem qxm : G.frz 442 = false := rfl
theorem qhr : G.frz 444 = false := rfl
theorem qkl : G.frz 445 = false := rfl
theorem qe1 : G.frz 446 = false := rfl
theorem qrj : G.frz 447 = false := rfl
theorem qox : G.frz 448 = false := rfl
theorem qu6 : G.frz 450 = false := rfl
theorem qn0 : G.frz 451 = false := rfl
theorem qe5 : G.frz 452 = false := rfl
theorem qha : G.frz 453 = false := rfl
theorem qtd : G.frz 454 = false := rfl
theorem qb5 : G.frz 455 = false := rfl
theorem qpi : G.frz 456 = false := rfl
theorem zay : G.frz 457 = false := rfl
theorem z5f : G.frz 458 = false := rfl
theorem qlt : G.frz 459 = false := rfl
theorem qla : G.frz 460 = false := rfl
theorem z6d : G.frz 461 = false := rfl
theorem zam : G.frz 462 = false := rfl
theorem q9s : G.frz 463 = false := rfl
theorem qk4 : G.frz 464 = false := rfl
theorem qug : G.frz 465 = false := rfl
theorem z3e : G.frz 466 = false := rfl
theorem qai : G.frz 468 = false := rfl
theorem quy : G.frz 469 = false := rfl
theorem qmt : G.frz 470 = false := rfl
theorem qyn : G.frz 471 = false := rfl
theorem za7 : G.frz 472 = false := rfl
theorem qtk : G.frz 473 = false := rfl
theorem z95 : G.frz 474 = false := rfl
theorem qrk : G.frz 475 = false := rfl
theorem qsq : G.frz 476 = false := rfl
theorem z2f : G.frz 477 = false := rfl
theorem quc : G.frz 478 = false := rfl
theorem qp8 : G.frz 479 = false := rfl
theorem z2c : G.frz 480 = false := rfl
theorem qnl : G.frz 482 = false := rfl
theorem z3u : G.frz 483 = false := rfl
theorem qrd : G.frz 484 = false := rfl
theorem qtm : G.frz 485 = false := rfl
theorem qew : G.frz 486 = false := rfl
theorem qaf : G.frz 487 = false := rfl
theorem z8u : G.frz 488 = false := rfl
theorem z09 : G.frz 489 = false := rfl
theorem qa1 : G.frz 490 = false := rfl
theorem qko : G.frz 491 = false := rfl
theorem qbv : G.frz 493 = false := rfl
theorem qik : G.frz 494 = false := rfl
theorem qlh : G.frz 495 = false := rfl
theorem z4z : G.frz 496 = false := rfl
theorem z6g : G.frz 497 = false := rfl
theorem qy6 : G.frz 498 = false := rfl
theorem qd5 : G.frz 499 = false := rfl
theorem qrl : G.frz 501 = false := rfl
theorem z0v : G.frz 502 = false := rfl
theorem z2v : G.frz 504 = false := rfl
theorem q9t : G.frz 505 = false := rfl
theorem qf6 : G.frz 506 = false := rfl
theorem qrn : G.frz 507 = false := rfl
theorem z0p : G.frz 508 = false := rfl
theorem qgu : G.frz 509 = false := rfl
theorem qqm : G.frz 510 = false := rfl
theorem qr4 : G.frz 511 = false := rfl
theorem qyl : G.frz 512 = false := rfl
theorem z9a : G.frz 513 = false := rfl
theorem z4b : G.frz 514 = false := rfl
theorem z6l : G.frz 515 = false := rfl
theorem qe3 : G.frz 516 = false := rfl
theorem qpm : G.frz 517 = false := rfl
theorem qp6 : G.frz 518 = false := rfl
theorem z8x : G.frz 519 = false := rfl
theorem qag : G.frz 520 = false := rfl
theorem qzo : G.frz 521 = false := rfl
theorem qnn : G.frz 522 = false := rfl
theorem qyw : G.frz 523 = false := rfl
theorem qf3 : G.frz 524 = false := rfl
theorem mf1 : G.mrf 1 = false := rfl
theorem mf2 : G.mrf 2 = false := rfl
theorem mf3 : G.mrf 3 = false := rfl
theorem mf4 : G.mrf 4 = false := rfl
theorem mf5 : G.mrf 5 = false := rfl
theorem mf6 : G.mrf 6 = false := rfl
theorem mf7 : G.mrf 7 = false := rfl
theorem mf8 : G.mrf 8 = false := rfl
theorem mf9 : G.mrf 9 = false := rfl
theorem zb2 : G.mrf 10 = false := rfl
theorem qej : G.mrf 11 = false := rfl
theorem z4h : G.mrf 12 = false := rfl
theorem qlp : G.mrf 13 = false := rfl
theorem ql0 : G.mrf 14 = false := rfl
theorem qt7 : G.mrf 15 = false := rfl
theorem qn1 : G.mrf 16 = false := rfl
theorem qrw : G.mrf 17 = false := rfl
theorem qxh : G.mrf 18 = false := rfl
theorem z0z : G.mrf 19 = false := rfl
theorem qwe : G.mrf 20 = false := rfl
theorem qdv : G.mrf 21 = false := rfl
theorem qrz : G.mrf 22 = false := rfl
theorem z4i : G.mrf 23 = false := rfl
theorem z5v : G.mrf 24 = false := rfl
theorem qzs : G.mrf 25 = false := rfl
theorem qaz : G.mrf 27 = false := rfl
theorem quk : G.mrf 28 = false := rfl
theorem qee : G.mrf 29 = false := rfl
theorem qbh : G.mrf 30 = false := rfl
theorem qb6 : G.mrf 32 = false := rfl
theorem qpc : G.mrf 33 = false := rfl
theorem qd3 : G.mrf 35 = false := rfl
theorem z1b : G.mrf 36 = false := rfl
theorem z4l : G.mrf 37 = false := rfl
theorem z7d : G.mrf 38 = false := rfl
theorem qf4 : G.mrf 39 = false := rfl
theorem qls : G.mrf 40 = true := rfl
theorem qrt : G.mrf 41 = false := rfl
theorem qx3 : G.mrf 42 = false := rfl
theorem qa0 : G.mrf 43 = false := rfl
theorem qe6 : G.mrf 44 = false := rfl
theorem qnb : G.mrf 45 = false := rfl
theorem qat : G.mrf 46 = false := rfl
theorem qdx : G.mrf 47 = false := rfl
theorem qqz : G.mrf 48 = false := rfl
theorem qd1 : G.mrf 49 = false := rfl
theorem z1q : G.mrf 50 = false := rfl
theorem qiq : G.mrf 51 = false := rfl
theorem z4j : G.mrf 52 = false := rfl
theorem z9t : G.mrf 53 = false := rfl
theorem qlr : G.mrf 54 = false := rfl
theorem qzl : G.mrf 55 = false := rfl
theorem z3o : G.mrf 56 = false := rfl
theorem qkn : G.mrf 57 = false := rfl
theorem qvy : G.mrf 58 = false := rfl
theorem qmk : G.mrf 59 = false := rfl
theorem qx2 : G.mrf 60 = false := rfl
theorem qki : G.mrf 61 = false := rfl
theorem qju : G.mrf 63 = false := rfl
theorem qa6 : G.mrf 64 = false := rfl
theorem qht : G.mrf 66 = false := rfl
theorem qdu : G.mrf 67 = false := rfl
theorem qdy : G.mrf 69 = false := rfl
theorem qde : G.mrf 70 = false := rfl
theorem zae : G.mrf 71 = false := rfl
theorem qdm : G.mrf 72 = false := rfl
theorem z5z : G.mrf 73 = false := rfl
theorem qg2 : G.mrf 74 = false := rfl
theorem q9w : G.mrf 75 = false := rfl
theorem qbb : G.mrf 76 = false := rfl
theorem qkz : G.mrf 77 = false := rfl
theorem qyc : G.mrf 78 = false := rfl
theorem q9n : G.mrf 80 = false := rfl
theorem z7r : G.mrf 81 = false := rfl
theorem qk8 : G.mrf 82 = false := rfl
theorem qy1 : G.mrf 83 = false := rfl
theorem z03 : G.mrf 85 = false := rfl
theorem qi0 : G.mrf 86 = false := rfl
theorem qi7 : G.mrf 87 = false := rfl
theorem qdh : G.mrf 88 = false := rfl
theorem qlc : G.mrf 89 = false := rfl
theorem qw5 : G.mrf 90 = false := rfl
theorem qdw : G.mrf 91 = false := rfl
theorem z8q : G.mrf 92 = false := rfl
theorem qt0 : G.mrf 93 = false := rfl
theorem z4r : G.mrf 94 = false := rfl
theorem qvd : G.mrf 95 = false := rfl
theorem qzm : G.mrf 96 = false := rfl
theorem z3l : G.mrf 97 = false := rfl
theorem qt4 : G.mrf 98 = false := rfl
theorem qno : G.mrf 99 = false := rfl
theorem qcr : G.mrf 100 = false := rfl
theorem qb2 : G.mrf 101 = false := rfl
theorem z5a : G.mrf 102 = false := rfl
theorem qab : G.mrf 103 = false := rfl
theorem zb6 : G.mrf 104 = false := rfl
theorem z0k : G.mrf 105 = false := rfl
theorem z8n : G.mrf 106 = false := rfl
theorem z0a : G.mrf 107 = false := rfl
theorem z4n : G.mrf 108 = false := rfl
theorem zb8 : G.mrf 110 = false := rfl
theorem qum : G.mrf 111 = false := rfl
theorem qww : G.mrf 112 = false := rfl
theorem qxr : G.mrf 113 = false := rfl
theorem qvb : G.mrf 114 = false := rfl
theorem qcq : G.mrf 115 = false := rfl
theorem qoa : G.mrf 116 = false := rfl
theorem qxb : G.mrf 117 = false := rfl
theorem qeo : G.mrf 118 = false := rfl
theorem quh : G.mrf 119 = false := rfl
theorem qxc : G.mrf 120 = false := rfl
theorem qq5 : G.mrf 122 = false := rfl
theorem qmn : G.mrf 123 = false := rfl
theorem qdb : G.mrf 125 = false := rfl
theorem z6o : G.mrf 126 = false := rfl
theorem qeq : G.mrf 127 = false := rfl
theorem z7e : G.mrf 128 = false := rfl
theorem qwh : G.mrf 129 = false := rfl
theorem z1d : G.mrf 130 = false := rfl
theorem zax : G.mrf 131 = false := rfl
theorem qoe : G.mrf 133 = false := rfl
theorem qrr : G.mrf 134 = false := rfl
theorem qfa : G.mrf 135 = false := rfl
theorem qhw : G.mrf 136 = false := rfl
theorem qw3 : G.mrf 138 = false := rfl
theorem qxd : G.mrf 139 = false := rfl
theorem z5l : G.mrf 140 = false := rfl
theorem qcx : G.mrf 141 = false := rfl
theorem z5s : G.mrf 142 = false := rfl
theorem qku : G.mrf 144 = false := rfl
theorem qyu : G.mrf 146 = false := rfl
theorem z5y : G.mrf 147 = false := rfl
theorem z0o : G.mrf 148 = false := rfl
theorem zaz : G.mrf 149 = false := rfl
theorem qt1 : G.mrf 150 = false := rfl
theorem qzd : G.mrf 151 = false := rfl
theorem qjv : G.mrf 152 = false := rfl
theorem qk9 : G.mrf 153 = false := rfl
theorem qqn : G.mrf 154 = false := rfl
theorem qvc : G.mrf 155 = false := rfl
theorem qp0 : G.mrf 156 = false := rfl
theorem z94 : G.mrf 157 = false := rfl
theorem qfy : G.mrf 158 = false := rfl
theorem qhb : G.mrf 159 = false := rfl
theorem qvi : G.mrf 160 = false := rfl
theorem qxq : G.mrf 161 = false := rfl
theorem qz0 : G.mrf 162 = false := rfl
theorem qb3 : G.mrf 163 = false := rfl
theorem z8l : G.mrf 164 = false := rfl
theorem z1r : G.mrf 165 = false := rfl
theorem qpu : G.mrf 166 = false := rfl
theorem qbd : G.mrf 168 = false := rfl
theorem qdp : G.mrf 169 = false := rfl
theorem z1n : G.mrf 170 = false := rfl
theorem qvu : G.mrf 171 = false := rfl
theorem z3g : G.mrf 172 = false := rfl
theorem qz1 : G.mrf 173 = false := rfl
theorem z9k : G.mrf 174 = false := rfl
theorem z1j : G.mrf 175 = false := rfl
theorem zal : G.mrf 177 = false := rfl
theorem z4c : G.mrf 178 = false := rfl
theorem qm5 : G.mrf 179 = false := rfl
theorem qfe : G.mrf 180 = false := rfl
theorem qc0 : G.mrf 181 = false := rfl
theorem z9h : G.mrf 183 = false := rfl
theorem za5 : G.mrf 184 = false := rfl
theorem qon : G.mrf 185 = false := rfl
theorem z0l : G.mrf 187 = false := rfl
theorem qv6 : G.mrf 188 = false := rfl
theorem qkk : G.mrf 190 = false := rfl
theorem zb9 : G.mrf 191 = false := rfl
theorem qvs : G.mrf 192 = false := rfl
theorem qt5 : G.mrf 193 = false := rfl
theorem qs2 : G.mrf 194 = false := rfl
theorem qzg : G.mrf 195 = false := rfl
theorem qg3 : G.mrf 196 = false := rfl
theorem qpg : G.mrf 198 = false := rfl
theorem qbu : G.mrf 199 = false := rfl
theorem qgr : G.mrf 200 = false := rfl
theorem qnr : G.mrf 201 = false := rfl
theorem qy0 : G.mrf 202 = false := rfl
theorem qu1 : G.mrf 203 = false := rfl
theorem qm2 : G.mrf 204 = false := rfl
theorem z0h : G.mrf 205 = false := rfl
theorem z5t : G.mrf 206 = false := rfl
theorem qnx : G.mrf 207 = false := rfl
theorem z0s : G.mrf 208 = false := rfl
theorem qfi : G.mrf 209 = false := rfl
theorem zbd : G.mrf 210 = false := rfl
theorem z9y : G.mrf 211 = false := rfl
theorem qta : G.mrf 213 = false := rfl
theorem qcd : G.mrf 214 = false := rfl
theorem z6r : G.mrf 215 = false := rfl
theorem qal : G.mrf 216 = false := rfl
theorem z8k : G.mrf 217 = false := rfl
theorem qud : G.mrf 218 = false := rfl
theorem qjo : G.mrf 219 = false := rfl
theorem qgo : G.mrf 220 = false := rfl
theorem qkw : G.mrf 221 = false := rfl
theorem qhc : G.mrf 222 = false := rfl
theorem qqo : G.mrf 223 = false := rfl
theorem qks : G.mrf 224 = false := rfl
theorem qiy : G.mrf 225 = false := rfl
theorem z1s : G.mrf 226 = false := rfl
theorem qwq : G.mrf 227 = false := rfl
theorem z8o : G.mrf 228 = false := rfl
theorem z3w : G.mrf 229 = false := rfl
theorem qhn : G.mrf 230 = false := rfl
theorem qob : G.mrf 231 = false := rfl
theorem qxi : G.mrf 232 = false := rfl
theorem qcs : G.mrf 233 = false := rfl
theorem qou : G.mrf 234 = false := rfl
theorem z8j : G.mrf 235 = false := rfl
theorem qfm : G.mrf 236 = false := rfl
theorem qw6 : G.mrf 237 = false := rfl
theorem qu8 : G.mrf 238 = false := rfl
theorem z9e : G.mrf 239 = false := rfl
theorem z2k : G.mrf 240 = false := rfl
theorem qvw : G.mrf 241 = false := rfl
theorem qf2 : G.mrf 242 = false := rfl
theorem zb1 : G.mrf 244 = false := rfl
theorem qof : G.mrf 245 = false := rfl
theorem qwv : G.mrf 246 = false := rfl
theorem qkx : G.mrf 247 = false := rfl
theorem qy7 : G.mrf 248 = false := rfl
theorem qto : G.mrf 249 = false := rfl
theorem z90 : G.mrf 250 = false := rfl
theorem qsf : G.mrf 251 = false := rfl
theorem qsl : G.mrf 252 = false := rfl
theorem z8y : G.mrf 253 = false := rfl
theorem qkq : G.mrf 255 = false := rfl
theorem qnm : G.mrf 256 = false := rfl
theorem ql1 : G.mrf 257 = false := rfl
theorem qb0 : G.mrf 258 = false := rfl
theorem qir : G.mrf 259 = false := rfl
theorem qq1 : G.mrf 261 = false := rfl
theorem qm1 : G.mrf 263 = false := rfl
theorem qhv : G.mrf 264 = false := rfl
theorem qt9 : G.mrf 265 = false := rfl
theorem qmh : G.mrf 266 = false := rfl
theorem qnz : G.mrf 267 = false := rfl
theorem z5q : G.mrf 268 = false := rfl
theorem qiu : G.mrf 269 = false := rfl
theorem z7a : G.mrf 270 = false := rfl
theorem qel : G.mrf 271 = false := rfl
theorem qqs : G.mrf 272 = false := rfl
theorem qig : G.mrf 273 = false := rfl
theorem z1t : G.mrf 274 = false := rfl
theorem qho : G.mrf 275 = false := rfl
theorem qnk : G.mrf 276 = false := rfl
theorem qz6 : G.mrf 278 = false := rfl
theorem z5g : G.mrf 279 = false := rfl
theorem z3a : G.mrf 280 = false := rfl
theorem qu9 : G.mrf 281 = false := rfl
theorem qe8 : G.mrf 283 = false := rfl
theorem z3s : G.mrf 284 = false := rfl
theorem qgm : G.mrf 285 = false := rfl
theorem qgi : G.mrf 286 = false := rfl
theorem qbp : G.mrf 287 = false := rfl
theorem qh4 : G.mrf 288 = false := rfl
theorem z9g : G.mrf 289 = false := rfl
theorem q9y : G.mrf 290 = false := rfl
theorem qlj : G.mrf 291 = false := rfl
theorem qvf : G.mrf 292 = false := rfl
theorem qyd : G.mrf 293 = false := rfl
theorem z19 : G.mrf 295 = false := rfl
theorem qy2 : G.mrf 296 = false := rfl
theorem z05 : G.mrf 297 = false := rfl
theorem qo8 : G.mrf 298 = false := rfl
theorem qy4 : G.mrf 299 = false := rfl
theorem qr6 : G.mrf 300 = false := rfl
theorem qkm : G.mrf 301 = false := rfl
theorem zan : G.mrf 302 = false := rfl
theorem qr2 : G.mrf 303 = false := rfl
theorem z7q : G.mrf 304 = false := rfl
theorem qfp : G.mrf 305 = false := rfl
theorem qns : G.mrf 306 = false := rfl
theorem z6t : G.mrf 307 = false := rfl
theorem qf7 : G.mrf 308 = false := rfl
theorem qxe : G.mrf 309 = false := rfl
theorem qf8 : G.mrf 310 = false := rfl
theorem z6q : G.mrf 311 = false := rfl
theorem qhg : G.mrf 312 = false := rfl
theorem qtw : G.mrf 313 = false := rfl
theorem z6z : G.mrf 314 = false := rfl
theorem qf9 : G.mrf 315 = false := rfl
theorem qx4 : G.mrf 316 = false := rfl
theorem qbq : G.mrf 317 = false := rfl
theorem z7x : G.mrf 318 = false := rfl
theorem z4q : G.mrf 319 = false := rfl
theorem z2t : G.mrf 321 = false := rfl
theorem z2d : G.mrf 322 = false := rfl
theorem qeu : G.mrf 323 = false := rfl
theorem qij : G.mrf 324 = false := rfl
theorem qkh : G.mrf 325 = false := rfl
theorem qd6 : G.mrf 326 = false := rfl
theorem qs6 : G.mrf 327 = false := rfl
theorem qsh : G.mrf 328 = false := rfl
theorem qhs : G.mrf 329 = false := rfl
theorem qib : G.mrf 330 = false := rfl
theorem qbr : G.mrf 331 = true := rfl
theorem qm3 : G.mrf 332 = false := rfl
theorem qjc : G.mrf 333 = false := rfl
theorem qix : G.mrf 334 = true := rfl
theorem qi8 : G.mrf 335 = false := rfl
theorem qja : G.mrf 336 = false := rfl
theorem qau : G.mrf 337 = false := rfl
theorem q9x : G.mrf 338 = false := rfl
theorem z2l : G.mrf 339 = false := rfl
theorem z4s : G.mrf 341 = false := rfl
theorem z4x : G.mrf 342 = false := rfl
theorem qgv : G.mrf 343 = false := rfl
theorem qze : G.mrf 344 = false := rfl
theorem z9i : G.mrf 345 = false := rfl
theorem qa9 : G.mrf 346 = false := rfl
theorem z1x : G.mrf 347 = false := rfl
theorem qyz : G.mrf 348 = false := rfl
theorem qz9 : G.mrf 349 = false := rfl
theorem qyb : G.mrf 350 = false := rfl
theorem z3j : G.mrf 351 = false := rfl
theorem qef : G.mrf 352 = false := rfl
theorem qqr : G.mrf 353 = false := rfl
theorem z8a : G.mrf 354 = false := rfl
theorem qdi : G.mrf 355 = false := rfl
theorem z2i : G.mrf 356 = false := rfl
theorem qgc : G.mrf 357 = false := rfl
theorem qcn : G.mrf 359 = false := rfl
theorem qsm : G.mrf 360 = false := rfl
theorem qt2 : G.mrf 361 = false := rfl
theorem qo0 : G.mrf 362 = false := rfl
theorem qtc : G.mrf 364 = false := rfl
theorem zas : G.mrf 365 = true := rfl
theorem qr8 : G.mrf 366 = false := rfl
theorem qe9 : G.mrf 367 = false := rfl
theorem za1 : G.mrf 368 = false := rfl
theorem qsn : G.mrf 370 = false := rfl
theorem qmu : G.mrf 371 = false := rfl
theorem qoz : G.mrf 372 = false := rfl
theorem qfd : G.mrf 374 = false := rfl
theorem qfn : G.mrf 375 = false := rfl
theorem qfw : G.mrf 376 = false := rfl
theorem zar : G.mrf 377 = false := rfl
theorem z1v : G.mrf 378 = false := rfl
theorem z5p : G.mrf 379 = false := rfl
theorem qul : G.mrf 380 = false := rfl
theorem qbk : G.mrf 381 = false := rfl
theorem z1k : G.mrf 382 = false := rfl
theorem qqu : G.mrf 383 = false := rfl
theorem qfr : G.mrf 384 = false := rfl
theorem qbi : G.mrf 385 = false := rfl
theorem qgz : G.mrf 386 = false := rfl
theorem zbg : G.mrf 387 = false := rfl
theorem qgk : G.mrf 388 = false := rfl
theorem qzy : G.mrf 389 = false := rfl
theorem z0d : G.mrf 390 = false := rfl
theorem qo2 : G.mrf 392 = false := rfl
theorem qn5 : G.mrf 394 = false := rfl
theorem qby : G.mrf 395 = false := rfl
theorem qow : G.mrf 396 = false := rfl
theorem qma : G.mrf 397 = false := rfl
theorem qsu : G.mrf 398 = false := rfl
theorem q9z : G.mrf 399 = false := rfl
theorem qfc : G.mrf 400 = false := rfl
theorem z5m : G.mrf 401 = false := rfl
theorem qo6 : G.mrf 402 = false := rfl
theorem z2x : G.mrf 403 = false := rfl
theorem qwk : G.mrf 405 = false := rfl
theorem qka : G.mrf 406 = false := rfl
theorem qwn : G.mrf 408 = false := rfl
theorem qzf : G.mrf 410 = false := rfl
theorem qjn : G.mrf 411 = false := rfl
theorem z2n : G.mrf 412 = false := rfl
theorem qao : G.mrf 413 = false := rfl
theorem qg5 : G.mrf 414 = false := rfl
theorem qii : G.mrf 415 = false := rfl
theorem qoh : G.mrf 416 = false := rfl
theorem qf1 : G.mrf 417 = false := rfl
theorem z1l : G.mrf 418 = false := rfl
theorem qhp : G.mrf 419 = false := rfl
theorem ql8 : G.mrf 421 = false := rfl
theorem z0j : G.mrf 422 = false := rfl
theorem qmw : G.mrf 423 = false := rfl
theorem zat : G.mrf 424 = false := rfl
theorem qup : G.mrf 425 = false := rfl
theorem qxu : G.mrf 426 = false := rfl
theorem qsw : G.mrf 427 = false := rfl
theorem qak : G.mrf 428 = false := rfl
theorem z6v : G.mrf 429 = false := rfl
theorem z1m : G.mrf 430 = false := rfl
theorem qym : G.mrf 431 = false := rfl
theorem qqw : G.mrf 432 = false := rfl
theorem qi2 : G.mrf 433 = false := rfl
theorem z16 : G.mrf 435 = false := rfl
theorem qly : G.mrf 436 = false := rfl
theorem qr7 : G.mrf 437 = false := rfl
theorem z7n : G.mrf 438 = false := rfl
theorem qx5 : G.mrf 439 = false := rfl
theorem z92 : G.mrf 440 = false := rfl
theorem z0w : G.mrf 442 = false := rfl
theorem qct : G.mrf 444 = false := rfl
theorem qev : G.mrf 445 = false := rfl
theorem z5e : G.mrf 446 = false := rfl
theorem qn8 : G.mrf 447 = false := rfl
theorem quf : G.mrf 448 = false := rfl
theorem z11 : G.mrf 450 = false := rfl
theorem qri : G.mrf 451 = false := rfl
theorem qre : G.mrf 452 = false := rfl
theorem qvj : G.mrf 453 = false := rfl
theorem qdq : G.mrf 454 = false := rfl
theorem qlz : G.mrf 455 = false := rfl
theorem quq : G.mrf 456 = false := rfl
theorem qa4 : G.mrf 457 = false := rfl
theorem z6p : G.mrf 458 = false := rfl
theorem qjk : G.mrf 459 = false := rfl
theorem qo3 : G.mrf 460 = false := rfl
theorem qv8 : G.mrf 461 = false := rfl
theorem qfj : G.mrf 462 = false := rfl
theorem z5h : G.mrf 463 = false := rfl
theorem q9m : G.mrf 464 = false := rfl
theorem z7k : G.mrf 465 = false := rfl
theorem qio : G.mrf 466 = false := rfl
theorem qid : G.mrf 468 = false := rfl
theorem qgf : G.mrf 469 = false := rfl
theorem qq2 : G.mrf 470 = false := rfl
theorem qyy : G.mrf 471 = false := rfl
theorem qys : G.mrf 472 = false := rfl
theorem qet : G.mrf 473 = false := rfl
theorem qed : G.mrf 474 = false := rfl
theorem quu : G.mrf 475 = false := rfl
theorem z3d : G.mrf 476 = false := rfl
theorem z3x : G.mrf 477 = false := rfl
theorem qgp : G.mrf 478 = false := rfl
theorem z2r : G.mrf 479 = false := rfl
theorem qw1 : G.mrf 480 = false := rfl
theorem z3q : G.mrf 482 = false := rfl
theorem qzz : G.mrf 483 = false := rfl
theorem qqy : G.mrf 484 = false := rfl
theorem qi4 : G.mrf 485 = false := rfl
theorem z1a : G.mrf 486 = false := rfl
theorem qad : G.mrf 487 = false := rfl
theorem qzt : G.mrf 488 = false := rfl
theorem qbs : G.mrf 489 = false := rfl
theorem z7u : G.mrf 490 = false := rfl
theorem qqp : G.mrf 491 = false := rfl
theorem qjy : G.mrf 493 = false := rfl
theorem z00 : G.mrf 494 = false := rfl
theorem qj7 : G.mrf 495 = false := rfl
theorem z3z : G.mrf 496 = false := rfl
theorem qfx : G.mrf 497 = false := rfl
theorem qop : G.mrf 498 = false := rfl
theorem qbl : G.mrf 499 = false := rfl
theorem z3n : G.mrf 501 = false := rfl
theorem qlo : G.mrf 502 = false := rfl
theorem qp5 : G.mrf 504 = false := rfl
theorem z3t : G.mrf 505 = false := rfl
theorem z99 : G.mrf 506 = false := rfl
theorem qdj : G.mrf 507 = false := rfl
theorem zaq : G.mrf 508 = false := rfl
theorem qji : G.mrf 509 = false := rfl
theorem qb4 : G.mrf 510 = false := rfl
theorem qbo : G.mrf 511 = false := rfl
theorem z0g : G.mrf 512 = false := rfl
theorem qe4 : G.mrf 513 = false := rfl
theorem ql9 : G.mrf 514 = false := rfl
theorem qwx : G.mrf 515 = false := rfl
theorem qco : G.mrf 516 = false := rfl
theorem qz8 : G.mrf 517 = false := rfl
theorem z02 : G.mrf 518 = false := rfl
theorem za6 : G.mrf 519 = false := rfl
theorem qm0 : G.mrf 520 = false := rfl
theorem z1y : G.mrf 521 = false := rfl
theorem z6j : G.mrf 522 = false := rfl
theorem qcb : G.mrf 523 = false := rfl
theorem qdz : G.mrf 524 = false := rfl
theorem ti3 : G.ti 3 = some ⟨1,8,.int .i64,[.int .i64 0],false,none⟩ := by kernel_rfl
theorem ti5 : G.ti 5 = some ⟨1,1,.int .u8,[.int .u8 0],false,none⟩ := by kernel_rfl
theorem ti9 : G.ti 9 = some ⟨1,16,.string,[.str []],false,none⟩ := by kernel_rfl
theorem fn3 : G.fn 3 = some ⟨Tryz.f3.ntmps,Tryz.f3.results.toList,Tryz.f3.body.get!⟩ := by kernel_rfl
theorem fn5 : G.fn 5 = some ⟨Tryz.f5.ntmps,Tryz.f5.results.toList,Tryz.f5.body.get!⟩ := by kernel_rfl
theorem fn6 : G.fn 6 = some ⟨Tryz.f6.ntmps,Tryz.f6.results.toList,Tryz.f6.body.get!⟩ := by kernel_rfl
end Go.Proofs.YtljbbncgpbgboaaGreatDoor
