/-
  The tables of the program as the machine reads it.
-/
import Derived.Test.YtlapkkdodjhgpaaGreatDoorRows
import Derived.Test.YtlapkkdodjhgpaaGreatDoorTad
set_option linter.unusedSimpArgs false
set_option linter.unusedVariables false
namespace Go.Proofs.YtlapkkdodjhgpaaGreatDoor
open Go Go.Gm
def spec : FuncId → Nat → je
 | 4,0 => ⟨[1,2,7],[6],[],[],[],0⟩
 | 4,2 => ⟨[1,2,7,8],[1,2,7],[],[],[],0⟩
 | 6,0 => ⟨[1,6,15,16,17],[1,6],[6],[],[],0⟩
 | 6,2 => ⟨[1,6,30,31,32],[1,4,5,6],[6],[],[],0⟩
 | 7,0 => ⟨[0,1,6,7],[1,6],[],[],[],0⟩
 | 7,2 => ⟨[1,6,8],[1,4,5,6],[],[],[],0⟩
 | 8,0 => ⟨[0,1,5],[4],[],[],[],0⟩
 | 9,0 => ⟨[1,2,7],[6],[],[],[],0⟩
 | 10,0 => ⟨[9,10,34,35,36],[10],[],[],[],1000⟩
 | 11,0 => ⟨[0,6,7,8,9],[2,3,4,5,6,7,8,9],[8],[],[],1000⟩
 | 12,0 => ⟨[0,3,4],[3],[],[],[],1000⟩
 | 14,1 => ⟨[4,5,6,82,83,84],[4,5,6],[],[],[],0⟩
 | 14,3 => ⟨[4,5,6,119,120,121],[4,5,6],[],[],[],0⟩
 | 15,0 => ⟨[0,3],[3],[],[],[],0⟩
 | 16,1 => ⟨[1,5,6],[1,2,3,5],[],[],[],0⟩
 | 16,3 => ⟨[1,5,7],[1,2,3,5],[],[],[],0⟩
 | 17,0 => ⟨[0,6,15,16,17],[0,4,5,6],[],[],[],1000⟩
 | 20,0 => ⟨[0,5,28,29,30],[0,5],[],[],[],1000⟩
 | 20,2 => ⟨[0,46,47,48],[0],[],[],[],1000⟩
 | 20,4 => ⟨[0,9,10,46,47,48,53,54,55],[0,9,10,46,47,48],[],[],[],1000⟩
 | 23,0 => ⟨[0,3],[0,3],[3],[],[],1000⟩
 | 24,1 => ⟨[0,2,3],[0,2,3],[],[(3,5)],[],1000⟩
 | 24,3 => ⟨[0,2,3],[0,2,3],[],[(3,6)],[],1000⟩
 | 26,0 => ⟨[5,6,7],[2],[],[],[],0⟩
 | 28,0 => ⟨[0,5,6,7],[2],[],[],[],0⟩
 | 48,0 => ⟨[1,2,3,7,8,9],[1,2,3],[3],[],[],1000⟩
 | 49,0 => ⟨[0,3],[0,3],[],[],[],1000⟩
 | 57,0 => ⟨[0,3],[0,2],[],[],[],1000⟩
 | 59,0 => ⟨[0,1,7,8],[4],[],[],[],1000⟩
 | 61,0 => ⟨[0,6,12,13,14],[0,4,5,6],[6],[],[],1000⟩
 | 64,0 => ⟨[0,1,14,15,16],[1,4,5],[],[],[],1000⟩
 | 66,0 => ⟨[1,2,4,11,13,37,38,39],[4,11],[],[],[],1000⟩
 | 71,0 => ⟨[1,5,13,14,15],[5],[5],[],[],1000⟩
 | 72,0 => ⟨[0,1,5,20,21,22],[5],[5],[],[],1000⟩
 | 72,2 => ⟨[12,73,74,75],[12],[12],[],[],1000⟩
 | 79,0 => ⟨[0,1,7,9,10],[0,1,7,9],[],[],[],1000⟩
 | 79,2 => ⟨[0,1,7,11,65,66,67],[0,1,7],[],[],[],1000⟩
 | 80,0 => ⟨[0,1,4,5],[0,1,4,5],[],[],[],1000⟩
 | 80,2 => ⟨[0,1,4,5,6],[0,1,4,5,6],[],[],[],1000⟩
 | 82,0 => ⟨[1,2,3,10,11,12],[1,2,3],[3],[],[],1000⟩
 | 82,2 => ⟨[1,2,3,5,6,10,11,12,17,18,19],[1,2,3,5,6,10,11,12],[6],[],[],1000⟩
 | 84,0 => ⟨[0,4,5,6],[0,2,3,4,5,6],[],[],[],1000⟩
 | 88,0 => ⟨[0,1,2,3],[1,3],[],[],[],1000⟩
 | 91,0 => ⟨[4,14,15,16],[4],[4],[],[],1000⟩
 | 96,0 => ⟨[3,6,42,43,44],[2],[],[],[],1000⟩
 | 96,2 => ⟨[3,6,7,8,9,42,43,44,54,55,56],[2,3,8,42,43,44],[],[],[],1000⟩
 | 97,0 => ⟨[0,1,7,8,9],[0,1,4],[],[],[],1000⟩
 | 98,0 => ⟨[3,14,15,16],[3],[],[(3,2)],[],1000⟩
 | 99,0 => ⟨[0,1],[],[],[],[],1000⟩
 | 100,0 => ⟨[0,14,15,16],[],[],[],[2000],1000⟩
 | 101,0 => ⟨[0,3],[2],[],[],[],1000⟩
 | 101,2 => ⟨[0,3,4],[0,2,3],[],[],[],1000⟩
 | 101,4 => ⟨[0,3,4,44,45,46],[0,2,3,4],[],[],[],1000⟩
 | 102,0 => ⟨[0,2,11,12],[],[],[],[],1000⟩
 | 102,2 => ⟨[0,2,3,4,11,12,34,35,36],[0,3,4,11,12],[],[(4,1),(4,2)],[],1000⟩
 | 103,0 => ⟨[0,2,3,9,10,11],[0,2,3],[3],[],[],1000⟩
 | 105,0 => ⟨[3,10,11,12],[3],[3],[],[],1000⟩
 | 105,2 => ⟨[6,28,29,30],[6],[6],[],[],1000⟩
 | 106,0 => ⟨[0,1,6,7],[0,1,6,7],[7],[],[],1000⟩
 | 107,0 => ⟨[3,7,8,9],[3],[],[],[],1000⟩
 | 108,0 => ⟨[3,6,7,8],[3],[3],[],[],1000⟩
 | 110,0 => ⟨[1,2,11,12,13,39,40,41],[6,7,8,12,13],[12,13],[],[],1000⟩
 | 112,0 => ⟨[1,4,5,6,13,14,15],[4,5],[],[(5,1)],[],1000⟩
 | 112,2 => ⟨[1,4,5,6,8,9,10,13,14,15,36,37,38],[1,4,5,6,8,10,13,14,15],[],[(10,2)],[],1000⟩
 | 114,0 => ⟨[1,2,4,6,7,23,24,25],[1,2,4,6,7],[7],[],[],1000⟩
 | 116,0 => ⟨[0,9,10,11],[4,5],[],[],[],1000⟩
 | 117,0 => ⟨[0,13,14,15],[4,5],[],[],[],1000⟩
 | 118,0 => ⟨[1,2,6,7,14,15,16],[6,7],[6],[],[],1000⟩
 | 118,2 => ⟨[1,2,6,7,10,14,15,16,21,22,23],[1,2,6,7,14,15,16],[6],[],[],1000⟩
 | 119,0 => ⟨[0,7,8,9,23,24,25],[7],[7],[],[],1000⟩
 | 124,0 => ⟨[0,1,5,15,16,17],[0,1,4,5],[5],[],[],1000⟩
 | 124,2 => ⟨[0,1,35,36,37],[],[],[],[],1000⟩
 | 125,0 => ⟨[1,5,8,9,10],[5],[5],[],[1],1000⟩
 | 131,0 => ⟨[0,1,4],[0,1,4],[],[],[],1000⟩
 | 132,0 => ⟨[0,1,3,4,10,11,12,13,14,15,16],[0,1,3,4,10,11,12,13],[],[],[],1000⟩
 | 132,2 => ⟨[0,1,3,4,10,11,12,13,17],[0,1,3,4,10,11,12,13],[],[],[],1000⟩
 | 133,0 => ⟨[0],[0],[],[],[],1000⟩
 | 134,0 => ⟨[0],[0],[],[],[],1000⟩
 | 141,0 => ⟨[3,6,7,8],[2,3],[],[],[],1000⟩
 | 145,0 => ⟨[0,1],[1],[],[],[],1000⟩
 | 146,0 => ⟨[0,1],[1],[],[],[],1000⟩
 | 150,0 => ⟨[0,1],[0,1],[],[],[],1000⟩
 | 150,2 => ⟨[0,1],[1],[],[],[],1000⟩
 | 151,0 => ⟨[0,1],[0,1],[],[],[],1000⟩
 | 151,2 => ⟨[0,1],[1],[],[],[],1000⟩
 | 153,0 => ⟨[0,1,12,13],[4],[],[],[],1000⟩
 | 154,0 => ⟨[2,5,18,19,20],[4],[],[],[18],1000⟩
 | 156,0 => ⟨[0,5,10,11,12],[5],[5],[],[],1000⟩
 | 156,2 => ⟨[0,5,10,11,12,17,18,19],[0,5,10,11,12],[5],[],[],1000⟩
 | 157,0 => ⟨[3,10,11,12],[2],[],[],[],1000⟩
 | 158,0 => ⟨[3,6,7,8],[3],[3],[],[],1000⟩
 | 159,0 => ⟨[0,7,8,9],[0],[],[],[],1000⟩
 | 160,0 => ⟨[2,9,10,11],[4],[],[],[],1000⟩
 | 161,0 => ⟨[0,2,3],[],[],[],[],1000⟩
 | 162,0 => ⟨[2,3,11,12,13],[4,5],[],[],[],1000⟩
 | 162,2 => ⟨[2,3,6,11,12,13,19,20,21],[2,3,4,5,11,12,13],[],[],[],1000⟩
 | 163,0 => ⟨[0,1,5,10,12,13,14],[0,1,5,10,12],[],[],[],1000⟩
 | 163,2 => ⟨[0,1,5,10,12,91,92,93],[0,10],[],[],[],1000⟩
 | 164,0 => ⟨[1,3,12,13,14],[1,3],[],[],[1],1000⟩
 | 164,2 => ⟨[1,3,6],[6],[6],[],[],1000⟩
 | 165,0 => ⟨[0,1,2,3,9,10,11,47,48,49],[0,1,2,3,9,10,11],[],[],[],1000⟩
 | 165,2 => ⟨[0,1,2,3,15,16,17],[8],[],[],[],1000⟩
 | 172,0 => ⟨[0,1,7,8,9],[4],[],[],[],1000⟩
 | 174,0 => ⟨[10,12],[10,12],[],[],[],1000⟩
 | 177,0 => ⟨[3,11,12,13],[3],[],[],[],1000⟩
 | 177,2 => ⟨[3,11,12,13,18,19,20],[3,11,12,13],[],[],[],1000⟩
 | 178,0 => ⟨[2,3,12,13,14],[2,3],[],[(3,2)],[],1000⟩
 | 178,2 => ⟨[2,3,6,12,13,14,23,24],[2,3,6,12,13,14],[],[],[],1000⟩
 | 180,0 => ⟨[0,2,3],[],[],[],[],1000⟩
 | 187,0 => ⟨[0,1,14,15,16],[0],[],[],[],1000⟩
 | 188,0 => ⟨[1,2,3,11,12,13],[1,2,3],[3],[],[],1000⟩
 | 196,0 => ⟨[0,2,3,4],[2,3],[],[],[],1000⟩
 | 198,0 => ⟨[0,1,2,6,7,8],[0,1,2,6,7],[],[],[],1000⟩
 | 198,2 => ⟨[0,1,2,6],[],[],[],[],1000⟩
 | 198,4 => ⟨[0,1,2,6,7,8],[0,1,2,6,7],[],[],[],1000⟩
 | 203,0 => ⟨[1,2,7,8],[6,7],[],[],[],1000⟩
 | 208,0 => ⟨[1,2,5],[1,2,4],[],[],[],1000⟩
 | 213,0 => ⟨[7,8],[7],[],[],[],1000⟩
 | 214,0 => ⟨[5,6,12,13,14,34,35,36],[12,14],[],[(14,1),(14,2)],[],1000⟩
 | 217,0 => ⟨[1,2,5,12,13,14],[5],[],[],[],1000⟩
 | 217,2 => ⟨[1,2,5,7,8,12,13,14],[1,2,5,12,13,14],[],[],[],1000⟩
 | 218,0 => ⟨[0,1,7,8],[4],[],[],[],1000⟩
 | 220,0 => ⟨[1,2,3,7,8,9,10],[7,8,9],[],[],[],1000⟩
 | 221,0 => ⟨[1,3,10,12,13,40,41,42],[1,6,7,8,10,12,13],[12],[],[],1000⟩
 | 221,2 => ⟨[1,3,10,12,13,15,16,40,41,42,52,53,54],[1,3,10,12,13,15,16,40,41,42],[16],[],[],1000⟩
 | 221,4 => ⟨[1,3,10,12,15,16,40,41,42,74,75,76],[1,3,10,12,15,40,41,42],[12],[],[],1000⟩
 | 222,0 => ⟨[0,1,2,6,7,8],[0,1,2,6,7],[],[],[],1000⟩
 | 222,2 => ⟨[0,1,2,6],[],[],[],[],1000⟩
 | 222,4 => ⟨[0,1,2,6,7,8],[0,1,2,6,7],[],[],[],1000⟩
 | 228,0 => ⟨[0,5,6],[0,5,6],[],[],[],1000⟩
 | 228,2 => ⟨[0,5,6],[0,5,6],[],[],[],1000⟩
 | 229,0 => ⟨[0,8,9,10],[4,5],[],[],[],1000⟩
 | 231,0 => ⟨[0,5,8,9,10],[5],[5],[],[],1000⟩
 | 232,0 => ⟨[0,6,7,8],[],[],[],[],1000⟩
 | 233,0 => ⟨[0,2,9,10,11],[6],[],[],[],1000⟩
 | 234,0 => ⟨[0,1,2,12,13],[1,6,7],[1],[],[],1000⟩
 | 235,0 => ⟨[0,1,5,6,12,13,14],[0,1,5,6],[],[],[],1000⟩
 | 235,2 => ⟨[0,1,5,6,37,38,39],[0,1,6],[],[],[],1000⟩
 | 236,0 => ⟨[0,1,3,4,17,18,19],[1],[1],[],[],1000⟩
 | 236,2 => ⟨[0,1,3,4,12,14,17,18,19,52,53,54],[0,1,3,4,12,14,17,18,19],[],[(14,17)],[],1000⟩
 | 237,0 => ⟨[0,1,2,6,7,8],[0,1,2,6,7],[],[],[],1000⟩
 | 237,2 => ⟨[0,1,2,6],[],[],[],[],1000⟩
 | 237,4 => ⟨[0,1,2,6,7,8],[0,1,2,6,7],[],[],[],1000⟩
 | 244,0 => ⟨[0,1,2,3,8],[],[],[],[],1000⟩
 | 244,2 => ⟨[0,1,2,3,8,9],[0,1,2,3,8],[],[],[],1000⟩
 | 245,0 => ⟨[0,1,4,10,11],[0,1,10],[],[],[],1000⟩
 | 245,2 => ⟨[0,10,13],[],[],[],[],1000⟩
 | 245,4 => ⟨[0,2,4,14,15],[0,2,14],[],[],[],1000⟩
 | 245,6 => ⟨[0,14,17],[],[],[],[],1000⟩
 | 245,8 => ⟨[0,1,2,3,4,18,19,20,21,22],[0,1,2,3,4,18,19,20],[],[],[],1000⟩
 | 246,0 => ⟨[1,4,6,7],[4,5,6],[],[],[],1000⟩
 | 248,0 => ⟨[0,1,7,8],[0,6],[],[],[],1000⟩
 | 252,0 => ⟨[0,1,7,8],[4],[],[],[],1000⟩
 | 254,0 => ⟨[1,2,4,5,10,11,19,20,21],[1,2,4,5,10,11],[],[(11,3)],[],1000⟩
 | 254,2 => ⟨[10,11,71,72,73],[10,11],[],[],[],1000⟩
 | 255,0 => ⟨[0,2,3,4,6,10,12,13,14,32,33,34],[10,12,13],[13],[(12,2)],[],1000⟩
 | 258,0 => ⟨[0,5],[],[],[],[],1000⟩
 | 262,0 => ⟨[1,5,12,13,14],[5],[],[],[],1000⟩
 | 263,0 => ⟨[0,1,2,3,8],[],[],[],[],1000⟩
 | 263,2 => ⟨[0,1,2,3,8,9],[0,1,2,3,8],[],[],[],1000⟩
 | 264,0 => ⟨[0,1,4,10,11],[0,1,10],[],[],[],1000⟩
 | 264,2 => ⟨[0,10,13],[],[],[],[],1000⟩
 | 264,4 => ⟨[0,2,4,14,15],[0,2,14],[],[],[],1000⟩
 | 264,6 => ⟨[0,14,17],[],[],[],[],1000⟩
 | 264,8 => ⟨[0,1,2,3,4,18,19,20,21,22],[0,1,2,3,4,18,19,20],[],[],[],1000⟩
 | 267,0 => ⟨[0,4,5],[0,2,3,4,5],[],[],[],1000⟩
 | 268,0 => ⟨[0,4],[0,4],[],[],[],1000⟩
 | 279,0 => ⟨[0,1,2,3,8],[],[],[],[],1000⟩
 | 279,2 => ⟨[0,1,2,3,8,9],[0,1,2,3,8],[],[],[],1000⟩
 | 280,0 => ⟨[0,1,4,10,11],[0,1,10],[],[],[],1000⟩
 | 280,2 => ⟨[0,10,13],[],[],[],[],1000⟩
 | 280,4 => ⟨[0,2,4,14,15],[0,2,14],[],[],[],1000⟩
 | 280,6 => ⟨[0,14,17],[],[],[],[],1000⟩
 | 280,8 => ⟨[0,1,2,3,4,18,19,20,21,22],[0,1,2,3,4,18,19,20],[],[],[],1000⟩
 | 281,0 => ⟨[0,5],[],[],[],[],1000⟩
 | 282,0 => ⟨[0,2,4,10,11],[0,2,4,10],[],[],[],1000⟩
 | 285,0 => ⟨[0,2,3,5,8,9],[0,2,3,5,8],[],[],[],1000⟩
 | 285,2 => ⟨[0,3,5,8,10,11],[],[],[],[],1000⟩
 | 286,0 => ⟨[0,2,4,6,28,29,30],[],[],[],[],1000⟩
 | 290,0 => ⟨[0,1,2,3,8,9],[],[],[],[],1000⟩
 | 293,0 => ⟨[0,5,6,7],[2],[],[],[],1000⟩
 | 294,0 => ⟨[11,12,13],[8,9,10,11,12],[12],[],[],1000⟩
 | 296,1 => ⟨[6,16,17,18],[6],[],[],[],1000⟩
 | 296,3 => ⟨[6,31,32,33],[6],[],[],[],1000⟩
 | 297,0 => ⟨[0,2,4,10,11],[0,2,4,10],[],[],[],1000⟩
 | 298,0 => ⟨[0,4,5],[0,4,5],[4,5],[],[],1000⟩
 | 299,0 => ⟨[0,1,4,7],[0,1,4,7],[7],[],[],1000⟩
 | 302,0 => ⟨[0,1,5],[4],[],[],[],1000⟩
 | 306,0 => ⟨[0,1,2,3,8,9],[],[],[],[],1000⟩
 | 308,0 => ⟨[0,2,4,10,11],[0,2,4,10],[],[],[],1000⟩
 | 309,0 => ⟨[0,1,2,3,10],[],[],[],[],1000⟩
 | 312,0 => ⟨[0,1,2,6],[],[],[],[],1000⟩
 | 312,2 => ⟨[0,1,2,6,7],[0,1,2,6],[],[],[],1000⟩
 | 313,0 => ⟨[0,6,7,8,9],[0,6,7,8],[],[],[],1000⟩
 | 313,2 => ⟨[0,6,7,10],[],[],[],[],1000⟩
 | 314,0 => ⟨[0,1,6,7,8,9],[],[],[],[],1000⟩
 | 316,0 => ⟨[0,6,7],[],[],[],[],1000⟩
 | 317,0 => ⟨[0,1,2,7,8],[6],[],[],[],1000⟩
 | 317,2 => ⟨[0,1,2,7,8],[0,1,2,7,8],[],[],[],1000⟩
 | 317,4 => ⟨[0,1,2,7,8,9],[0,1,2,7,8],[],[],[],1000⟩
 | 317,6 => ⟨[0,1,2,7,8,10],[0,1,2,7,8],[],[],[],1000⟩
 | 319,0 => ⟨[0,1,9,10],[9],[],[],[],1000⟩
 | 319,2 => ⟨[0,1,9,10],[0,1,9,10],[],[],[],1000⟩
 | 319,4 => ⟨[0,1,9,10],[0,1,9,10],[],[],[],1000⟩
 | 320,0 => ⟨[0,1,10,11],[0,1,10,11],[],[],[],1000⟩
 | 320,2 => ⟨[0,1,10,11],[0,1,10,11],[],[],[],1000⟩
 | 320,4 => ⟨[0,1,10,11],[0,1,11],[],[],[],1000⟩
 | 320,6 => ⟨[0,1,10,11],[0,1,10,11],[],[],[],1000⟩
 | 320,8 => ⟨[0,1,10,11],[0,1,10,11],[],[],[],1000⟩
 | 322,0 => ⟨[1,2,31,32,33],[1,6,7],[],[],[],1000⟩
 | 325,0 => ⟨[0,1,4],[4,5],[],[],[],1000⟩
 | 330,0 => ⟨[0,1,5,6],[5],[],[],[],1000⟩
 | 331,0 => ⟨[0,1,2,3,10],[],[],[],[],1000⟩
 | 333,0 => ⟨[0,1,7,8,9],[4,5,6],[],[(7,0),(8,0)],[],1000⟩
 | 335,0 => ⟨[0,1,12,13],[4],[],[],[],1000⟩
 | 337,0 => ⟨[0,1,2,3,10],[],[],[],[],1000⟩
 | 338,0 => ⟨[0,2,3,8],[],[],[],[],1000⟩
 | 347,0 => ⟨[0,3,4],[3],[3],[],[],1000⟩
 | 348,0 => ⟨[0,3,4],[3],[3],[],[],1000⟩
 | 349,0 => ⟨[1,4,5,22,23,24],[1,4,5],[],[(5,8)],[],1000⟩
 | 350,0 => ⟨[7,8],[7],[],[],[],1000⟩
 | 352,0 => ⟨[0,1,6,7,8],[0,1,6,7],[],[],[],1000⟩
 | 356,0 => ⟨[0,2,4,5],[2,3],[4,5],[],[],1000⟩
 | 361,0 => ⟨[0,1,12,13],[4],[],[],[],1000⟩
 | 362,0 => ⟨[1,2,15,16,17],[6],[],[],[],1000⟩
 | 365,0 => ⟨[0,5,6,7],[2],[],[],[],1000⟩
 | 369,0 => ⟨[0,1],[1],[],[],[],1000⟩
 | 370,0 => ⟨[0,4,5],[],[],[],[],1000⟩
 | 371,1 => ⟨[0,2,3,29,30,31],[8],[],[],[],1000⟩
 | 378,0 => ⟨[0,1,7,8],[1,4,5,6,7,8],[],[],[],1000⟩
 | 391,0 => ⟨[0,5,8,9,10],[5],[5],[],[],1000⟩
 | 394,0 => ⟨[0,3],[2],[],[],[],1000⟩
 | 395,0 => ⟨[0,1,2,9],[6,7,8],[9],[],[],1000⟩
 | 396,0 => ⟨[0,1,7,8],[4],[],[],[],1000⟩
 | 397,0 => ⟨[0,1,7,8],[4],[],[],[],1000⟩
 | 401,0 => ⟨[3,8,9,10],[3],[],[],[],1000⟩
 | 406,0 => ⟨[0,2,4,5],[2,3,4,5],[5],[],[],1000⟩
 | 410,0 => ⟨[1,7,8,9],[4],[],[],[],1000⟩
 | 411,0 => ⟨[3,8,9,10],[3],[],[],[],1000⟩
 | 413,0 => ⟨[3,10,11,12],[3],[3],[],[],1000⟩
 | 413,2 => ⟨[6,25,26,27],[6],[6],[],[],1000⟩
 | 416,0 => ⟨[0,4,5,6],[2,3,4,5],[],[],[],1000⟩
 | 420,0 => ⟨[0,1,2,6,7,8],[0,1,2,6,7],[],[],[],1000⟩
 | 420,2 => ⟨[0,1,2,6],[],[],[],[],1000⟩
 | 420,4 => ⟨[0,1,2,6,7,8],[0,1,2,6,7],[],[],[],1000⟩
 | 422,0 => ⟨[0,1,2,3,8],[],[],[],[],1000⟩
 | 422,2 => ⟨[0,1,2,3,8,9],[0,1,2,3,8],[],[],[],1000⟩
 | 423,0 => ⟨[0,1,4,10,11],[0,1,10],[],[],[],1000⟩
 | 423,2 => ⟨[0,10,13],[],[],[],[],1000⟩
 | 423,4 => ⟨[0,2,4,14,15],[0,2,14],[],[],[],1000⟩
 | 423,6 => ⟨[0,14,17],[],[],[],[],1000⟩
 | 423,8 => ⟨[0,1,2,3,4,18,19,20,21,22],[0,1,2,3,4,18,19,20],[],[],[],1000⟩
 | 424,0 => ⟨[0,2,4,10,11],[0,2,4,10],[],[],[],1000⟩
 | 425,0 => ⟨[0,1,2,3,10],[],[],[],[],1000⟩
 | _,_ => {}
def zhg (f : FuncId) : Bool := [180,182,237,279,280,161,139,198,244,245,166,222,263,264,170,236,114].contains f
def zjm (f : FuncId) : Bool := [177,98,213,120,181,83,212,170,236,103,48].contains f
def zoj : FuncId → Nat → List Nat
 | 102,15 => [4]
 | _,_ => []
def zct (t : TypeId) : Bool := [].contains t
def qpd (t : TypeId) : Bool := [377,348,351,59].contains t
def zrq : FuncId → Nat → List Cmd
 | _,_ => []
noncomputable def G : GP := q8l Tryz.prog spec zhg zjm zoj zct qpd zrq
theorem cm0 (i : Nat) : G.cmd 0 i = [] := rfl
theorem cm1 (i : Nat) : G.cmd 1 i = [] := rfl
theorem cm2 (i : Nat) : G.cmd 2 i = [] := rfl
theorem zei : G.owned 3 = false := rfl
theorem kp3 : G.keep 3 = false := rfl
theorem cm3 (i : Nat) : G.cmd 3 i = [] := rfl
theorem pr3 (i : Nat) : G.pre 3 i = [] := rfl
theorem znt : G.owned 4 = false := rfl
theorem kp4 : G.keep 4 = false := rfl
theorem cm4 (i : Nat) : G.cmd 4 i = [] := rfl
theorem pr4 (i : Nat) : G.pre 4 i = [] := rfl
theorem zwo : G.owned 5 = false := rfl
theorem kp5 : G.keep 5 = false := rfl
theorem cm5 (i : Nat) : G.cmd 5 i = [] := rfl
theorem pr5 (i : Nat) : G.pre 5 i = [] := rfl
theorem zuo : G.owned 6 = false := rfl
theorem kp6 : G.keep 6 = false := rfl
theorem cm6 (i : Nat) : G.cmd 6 i = [] := rfl
theorem pr6 (i : Nat) : G.pre 6 i = [] := rfl
theorem zli : G.owned 7 = false := rfl
theorem kp7 : G.keep 7 = false := rfl
theorem cm7 (i : Nat) : G.cmd 7 i = [] := rfl
theorem pr7 (i : Nat) : G.pre 7 i = [] := rfl
theorem qk4 : G.owned 8 = false := rfl
theorem kp8 : G.keep 8 = false := rfl
theorem cm8 (i : Nat) : G.cmd 8 i = [] := rfl
theorem pr8 (i : Nat) : G.pre 8 i = [] := rfl
theorem zt7 : G.owned 9 = false := rfl
theorem kp9 : G.keep 9 = false := rfl
theorem cm9 (i : Nat) : G.cmd 9 i = [] := rfl
theorem pr9 (i : Nat) : G.pre 9 i = [] := rfl
theorem qxj (i : Nat) : G.cmd 10 i = [] := rfl
theorem zbt (i : Nat) : G.cmd 11 i = [] := rfl
theorem qj6 (i : Nat) : G.cmd 12 i = [] := rfl
theorem zj1 : G.owned 13 = false := rfl
theorem ql0 : G.keep 13 = false := rfl
theorem qi5 (i : Nat) : G.cmd 13 i = [] := rfl
theorem zwk (i : Nat) : G.pre 13 i = [] := rfl
theorem qsc : G.owned 14 = false := rfl
theorem zvn : G.keep 14 = false := rfl
theorem z7h (i : Nat) : G.cmd 14 i = [] := rfl
theorem zna (i : Nat) : G.pre 14 i = [] := rfl
theorem z8n : G.owned 15 = false := rfl
theorem zkm : G.keep 15 = false := rfl
theorem qov (i : Nat) : G.cmd 15 i = [] := rfl
theorem z6x (i : Nat) : G.pre 15 i = [] := rfl
theorem qff : G.owned 16 = false := rfl
theorem zat : G.keep 16 = false := rfl
theorem zsk (i : Nat) : G.cmd 16 i = [] := rfl
theorem zq3 (i : Nat) : G.pre 16 i = [] := rfl
theorem zaz (i : Nat) : G.cmd 17 i = [] := rfl
theorem zns (i : Nat) : G.cmd 18 i = [] := rfl
theorem qxb (i : Nat) : G.cmd 19 i = [] := rfl
theorem qf5 (i : Nat) : G.cmd 20 i = [] := rfl
theorem qmd (i : Nat) : G.cmd 21 i = [] := rfl
theorem zlc (i : Nat) : G.cmd 22 i = [] := rfl
theorem zu1 (i : Nat) : G.cmd 23 i = [] := rfl
theorem qj0 (i : Nat) : G.cmd 24 i = [] := rfl
theorem qow : G.owned 25 = false := rfl
theorem qnc : G.keep 25 = false := rfl
theorem zsc (i : Nat) : G.cmd 25 i = [] := rfl
theorem qfd (i : Nat) : G.pre 25 i = [] := rfl
theorem zrl : G.owned 26 = false := rfl
theorem z4m : G.keep 26 = false := rfl
theorem zr9 (i : Nat) : G.cmd 26 i = [] := rfl
theorem zo6 (i : Nat) : G.pre 26 i = [] := rfl
theorem qfy : G.owned 27 = false := rfl
theorem qy7 : G.keep 27 = false := rfl
theorem zb0 (i : Nat) : G.cmd 27 i = [] := rfl
theorem qvc (i : Nat) : G.pre 27 i = [] := rfl
theorem qx3 : G.owned 28 = false := rfl
theorem qpc : G.keep 28 = false := rfl
theorem zp9 (i : Nat) : G.cmd 28 i = [] := rfl
theorem qqe (i : Nat) : G.pre 28 i = [] := rfl
theorem zdl : G.owned 29 = false := rfl
theorem zhn : G.keep 29 = false := rfl
theorem zi5 (i : Nat) : G.cmd 29 i = [] := rfl
theorem zdz (i : Nat) : G.pre 29 i = [] := rfl
theorem z2o : G.owned 30 = false := rfl
theorem zqb : G.keep 30 = false := rfl
theorem qx6 (i : Nat) : G.cmd 30 i = [] := rfl
theorem z3e (i : Nat) : G.pre 30 i = [] := rfl
theorem qxh : G.owned 31 = false := rfl
theorem qxa : G.keep 31 = false := rfl
theorem zp4 (i : Nat) : G.cmd 31 i = [] := rfl
theorem zbj (i : Nat) : G.pre 31 i = [] := rfl
theorem qok : G.owned 32 = false := rfl
theorem zb4 : G.keep 32 = false := rfl
theorem zn3 (i : Nat) : G.cmd 32 i = [] := rfl
theorem qtt (i : Nat) : G.pre 32 i = [] := rfl
theorem qjd : G.owned 33 = false := rfl
theorem qlo : G.keep 33 = false := rfl
theorem z0e (i : Nat) : G.cmd 33 i = [] := rfl
theorem qot (i : Nat) : G.pre 33 i = [] := rfl
theorem z7q (i : Nat) : G.cmd 34 i = [] := rfl
theorem zqh (i : Nat) : G.cmd 35 i = [] := rfl
theorem zhb (i : Nat) : G.cmd 36 i = [] := rfl
theorem zp5 (i : Nat) : G.cmd 37 i = [] := rfl
theorem qrq (i : Nat) : G.cmd 38 i = [] := rfl
theorem qm8 (i : Nat) : G.cmd 39 i = [] := rfl
theorem que (i : Nat) : G.cmd 40 i = [] := rfl
theorem z8b (i : Nat) : G.cmd 41 i = [] := rfl
theorem quz (i : Nat) : G.cmd 42 i = [] := rfl
theorem za5 (i : Nat) : G.cmd 43 i = [] := rfl
theorem z6t (i : Nat) : G.cmd 44 i = [] := rfl
theorem z8l (i : Nat) : G.cmd 45 i = [] := rfl
theorem qjz (i : Nat) : G.cmd 46 i = [] := rfl
theorem qmw (i : Nat) : G.cmd 47 i = [] := rfl
theorem zim (i : Nat) : G.cmd 48 i = [] := rfl
theorem qyk (i : Nat) : G.cmd 49 i = [] := rfl
theorem za8 (i : Nat) : G.cmd 50 i = [] := rfl
theorem qfm (i : Nat) : G.cmd 51 i = [] := rfl
theorem zos (i : Nat) : G.cmd 52 i = [] := rfl
theorem zc4 (i : Nat) : G.cmd 53 i = [] := rfl
theorem zn6 (i : Nat) : G.cmd 54 i = [] := rfl
theorem qvs : G.owned 55 = false := rfl
theorem qlp : G.keep 55 = false := rfl
theorem zvs (i : Nat) : G.cmd 55 i = [] := rfl
theorem zu6 (i : Nat) : G.pre 55 i = [] := rfl
theorem zgr (i : Nat) : G.cmd 56 i = [] := rfl
theorem z14 (i : Nat) : G.cmd 57 i = [] := rfl
theorem qwt (i : Nat) : G.cmd 58 i = [] := rfl
theorem z0p (i : Nat) : G.cmd 59 i = [] := rfl
theorem zbn (i : Nat) : G.cmd 60 i = [] := rfl
theorem zes (i : Nat) : G.cmd 61 i = [] := rfl
theorem qse (i : Nat) : G.cmd 62 i = [] := rfl
theorem qt8 (i : Nat) : G.cmd 63 i = [] := rfl
theorem z4f (i : Nat) : G.cmd 64 i = [] := rfl
theorem zhc (i : Nat) : G.cmd 65 i = [] := rfl
theorem zdx (i : Nat) : G.cmd 66 i = [] := rfl
theorem z0f (i : Nat) : G.cmd 67 i = [] := rfl
theorem qk3 (i : Nat) : G.cmd 68 i = [] := rfl
theorem qu0 (i : Nat) : G.cmd 69 i = [] := rfl
theorem qs5 (i : Nat) : G.cmd 70 i = [] := rfl
theorem qph (i : Nat) : G.cmd 71 i = [] := rfl
theorem qf6 (i : Nat) : G.cmd 72 i = [] := rfl
theorem zke (i : Nat) : G.cmd 73 i = [] := rfl
theorem qmt (i : Nat) : G.cmd 74 i = [] := rfl
theorem zhu (i : Nat) : G.cmd 75 i = [] := rfl
theorem ztw (i : Nat) : G.cmd 76 i = [] := rfl
theorem zfj (i : Nat) : G.cmd 77 i = [] := rfl
theorem qxg (i : Nat) : G.cmd 78 i = [] := rfl
theorem qwp (i : Nat) : G.cmd 79 i = [] := rfl
theorem qqc (i : Nat) : G.cmd 80 i = [] := rfl
theorem z8y (i : Nat) : G.cmd 81 i = [] := rfl
theorem zhl (i : Nat) : G.cmd 82 i = [] := rfl
theorem znk (i : Nat) : G.cmd 83 i = [] := rfl
theorem qt5 (i : Nat) : G.cmd 84 i = [] := rfl
theorem z7j (i : Nat) : G.cmd 85 i = [] := rfl
theorem zkl (i : Nat) : G.cmd 86 i = [] := rfl
theorem qz0 (i : Nat) : G.cmd 87 i = [] := rfl
theorem z3o (i : Nat) : G.cmd 88 i = [] := rfl
theorem ziv (i : Nat) : G.cmd 89 i = [] := rfl
theorem qsu (i : Nat) : G.cmd 90 i = [] := rfl
theorem qo9 (i : Nat) : G.cmd 91 i = [] := rfl
theorem zi3 (i : Nat) : G.cmd 92 i = [] := rfl
theorem zqu (i : Nat) : G.cmd 93 i = [] := rfl
theorem zvg (i : Nat) : G.cmd 94 i = [] := rfl
theorem qrh (i : Nat) : G.cmd 95 i = [] := rfl
theorem zb8 (i : Nat) : G.cmd 96 i = [] := rfl
theorem zem (i : Nat) : G.cmd 97 i = [] := rfl
theorem zhw (i : Nat) : G.cmd 98 i = [] := rfl
theorem qfq (i : Nat) : G.cmd 99 i = [] := rfl
theorem z0a (i : Nat) : G.cmd 100 i = [] := rfl
theorem qub (i : Nat) : G.cmd 101 i = [] := rfl
theorem qzg (i : Nat) : G.cmd 102 i = [] := rfl
theorem qsg (i : Nat) : G.cmd 103 i = [] := rfl
theorem z9n (i : Nat) : G.cmd 104 i = [] := rfl
theorem zt6 (i : Nat) : G.cmd 105 i = [] := rfl
theorem zki (i : Nat) : G.cmd 106 i = [] := rfl
theorem zf4 (i : Nat) : G.cmd 107 i = [] := rfl
theorem zwe (i : Nat) : G.cmd 108 i = [] := rfl
theorem qps (i : Nat) : G.cmd 109 i = [] := rfl
theorem qhp (i : Nat) : G.cmd 110 i = [] := rfl
theorem qqg (i : Nat) : G.cmd 111 i = [] := rfl
theorem qyh (i : Nat) : G.cmd 112 i = [] := rfl
theorem qwa (i : Nat) : G.cmd 113 i = [] := rfl
theorem zqw (i : Nat) : G.cmd 114 i = [] := rfl
theorem zi2 (i : Nat) : G.cmd 115 i = [] := rfl
theorem zfg (i : Nat) : G.cmd 116 i = [] := rfl
theorem qlw (i : Nat) : G.cmd 117 i = [] := rfl
theorem ztf (i : Nat) : G.cmd 118 i = [] := rfl
theorem qou (i : Nat) : G.cmd 119 i = [] := rfl
theorem qtv (i : Nat) : G.cmd 120 i = [] := rfl
theorem qlz (i : Nat) : G.cmd 121 i = [] := rfl
theorem qt0 (i : Nat) : G.cmd 122 i = [] := rfl
theorem zpk (i : Nat) : G.cmd 123 i = [] := rfl
theorem z8f (i : Nat) : G.cmd 124 i = [] := rfl
theorem qjf (i : Nat) : G.cmd 125 i = [] := rfl
theorem z4g (i : Nat) : G.cmd 126 i = [] := rfl
theorem z7b (i : Nat) : G.cmd 127 i = [] := rfl
theorem z8e (i : Nat) : G.cmd 128 i = [] := rfl
theorem zib (i : Nat) : G.cmd 129 i = [] := rfl
theorem zj8 (i : Nat) : G.cmd 130 i = [] := rfl
theorem zgw (i : Nat) : G.cmd 131 i = [] := rfl
theorem z6c (i : Nat) : G.cmd 132 i = [] := rfl
theorem qhv (i : Nat) : G.cmd 133 i = [] := rfl
theorem zsi (i : Nat) : G.cmd 134 i = [] := rfl
theorem zco (i : Nat) : G.cmd 135 i = [] := rfl
theorem z8k (i : Nat) : G.cmd 136 i = [] := rfl
theorem za2 (i : Nat) : G.cmd 137 i = [] := rfl
theorem zkn (i : Nat) : G.cmd 138 i = [] := rfl
theorem z1t (i : Nat) : G.cmd 139 i = [] := rfl
theorem z9o (i : Nat) : G.cmd 140 i = [] := rfl
theorem zuj (i : Nat) : G.cmd 141 i = [] := rfl
theorem qn6 (i : Nat) : G.cmd 142 i = [] := rfl
theorem qoa (i : Nat) : G.cmd 143 i = [] := rfl
theorem qma (i : Nat) : G.cmd 144 i = [] := rfl
theorem qsp (i : Nat) : G.cmd 145 i = [] := rfl
theorem qp1 (i : Nat) : G.cmd 146 i = [] := rfl
theorem zmb (i : Nat) : G.cmd 147 i = [] := rfl
theorem zly (i : Nat) : G.cmd 148 i = [] := rfl
theorem qsv (i : Nat) : G.cmd 149 i = [] := rfl
theorem qhu (i : Nat) : G.cmd 150 i = [] := rfl
theorem qyz (i : Nat) : G.cmd 151 i = [] := rfl
theorem qtp (i : Nat) : G.cmd 152 i = [] := rfl
theorem qx1 (i : Nat) : G.cmd 153 i = [] := rfl
theorem qty (i : Nat) : G.cmd 154 i = [] := rfl
theorem qyl (i : Nat) : G.cmd 155 i = [] := rfl
theorem qgl (i : Nat) : G.cmd 156 i = [] := rfl
theorem zqe (i : Nat) : G.cmd 157 i = [] := rfl
theorem qhy (i : Nat) : G.cmd 158 i = [] := rfl
theorem zfl (i : Nat) : G.cmd 159 i = [] := rfl
theorem qqv (i : Nat) : G.cmd 160 i = [] := rfl
theorem z3p (i : Nat) : G.cmd 161 i = [] := rfl
theorem zh0 (i : Nat) : G.cmd 162 i = [] := rfl
theorem qr3 (i : Nat) : G.cmd 163 i = [] := rfl
theorem zb5 (i : Nat) : G.cmd 164 i = [] := rfl
theorem qpy (i : Nat) : G.cmd 165 i = [] := rfl
theorem quk (i : Nat) : G.cmd 166 i = [] := rfl
theorem qvt (i : Nat) : G.cmd 167 i = [] := rfl
theorem qm9 (i : Nat) : G.cmd 168 i = [] := rfl
theorem qtf (i : Nat) : G.cmd 169 i = [] := rfl
theorem qsd (i : Nat) : G.cmd 170 i = [] := rfl
theorem zsn (i : Nat) : G.cmd 171 i = [] := rfl
theorem z1v (i : Nat) : G.cmd 172 i = [] := rfl
theorem zgj (i : Nat) : G.cmd 173 i = [] := rfl
theorem zcl (i : Nat) : G.cmd 174 i = [] := rfl
theorem zon (i : Nat) : G.cmd 175 i = [] := rfl
theorem qf3 (i : Nat) : G.cmd 176 i = [] := rfl
theorem qeq (i : Nat) : G.cmd 177 i = [] := rfl
theorem zd5 (i : Nat) : G.cmd 178 i = [] := rfl
theorem qr1 (i : Nat) : G.cmd 179 i = [] := rfl
theorem z4z (i : Nat) : G.cmd 180 i = [] := rfl
theorem zkq (i : Nat) : G.cmd 181 i = [] := rfl
theorem zlq (i : Nat) : G.cmd 182 i = [] := rfl
theorem zkw (i : Nat) : G.cmd 183 i = [] := rfl
theorem zod (i : Nat) : G.cmd 184 i = [] := rfl
theorem zcp (i : Nat) : G.cmd 185 i = [] := rfl
theorem qux (i : Nat) : G.cmd 186 i = [] := rfl
theorem z2z (i : Nat) : G.cmd 187 i = [] := rfl
theorem zom (i : Nat) : G.cmd 188 i = [] := rfl
theorem qzx (i : Nat) : G.cmd 189 i = [] := rfl
theorem qw8 (i : Nat) : G.cmd 190 i = [] := rfl
theorem zun (i : Nat) : G.cmd 191 i = [] := rfl
theorem qr2 (i : Nat) : G.cmd 192 i = [] := rfl
theorem qfh (i : Nat) : G.cmd 193 i = [] := rfl
theorem qns (i : Nat) : G.cmd 194 i = [] := rfl
theorem zuz (i : Nat) : G.cmd 195 i = [] := rfl
theorem z2a (i : Nat) : G.cmd 196 i = [] := rfl
theorem zn4 (i : Nat) : G.cmd 197 i = [] := rfl
theorem qqb (i : Nat) : G.cmd 198 i = [] := rfl
theorem zvt (i : Nat) : G.cmd 199 i = [] := rfl
theorem zq7 (i : Nat) : G.cmd 200 i = [] := rfl
theorem qkn (i : Nat) : G.cmd 201 i = [] := rfl
theorem z7k (i : Nat) : G.cmd 202 i = [] := rfl
theorem z4n (i : Nat) : G.cmd 203 i = [] := rfl
theorem qtb (i : Nat) : G.cmd 204 i = [] := rfl
theorem qm2 (i : Nat) : G.cmd 205 i = [] := rfl
theorem zel (i : Nat) : G.cmd 206 i = [] := rfl
theorem zup (i : Nat) : G.cmd 207 i = [] := rfl
theorem qs4 (i : Nat) : G.cmd 208 i = [] := rfl
theorem zb3 (i : Nat) : G.cmd 209 i = [] := rfl
theorem zw8 (i : Nat) : G.cmd 210 i = [] := rfl
theorem qmq (i : Nat) : G.cmd 211 i = [] := rfl
theorem qoe (i : Nat) : G.cmd 212 i = [] := rfl
theorem qrf (i : Nat) : G.cmd 213 i = [] := rfl
theorem zjs (i : Nat) : G.cmd 214 i = [] := rfl
theorem qzj (i : Nat) : G.cmd 215 i = [] := rfl
theorem znc (i : Nat) : G.cmd 216 i = [] := rfl
theorem qi0 (i : Nat) : G.cmd 217 i = [] := rfl
theorem z04 (i : Nat) : G.cmd 218 i = [] := rfl
theorem z98 (i : Nat) : G.cmd 219 i = [] := rfl
theorem qys (i : Nat) : G.cmd 220 i = [] := rfl
theorem zfs (i : Nat) : G.cmd 221 i = [] := rfl
theorem zfk (i : Nat) : G.cmd 222 i = [] := rfl
theorem zep (i : Nat) : G.cmd 223 i = [] := rfl
theorem qx0 (i : Nat) : G.cmd 224 i = [] := rfl
theorem qg3 (i : Nat) : G.cmd 225 i = [] := rfl
theorem zx6 (i : Nat) : G.cmd 226 i = [] := rfl
theorem zg0 (i : Nat) : G.cmd 227 i = [] := rfl
theorem z9c (i : Nat) : G.cmd 228 i = [] := rfl
theorem qqm (i : Nat) : G.cmd 229 i = [] := rfl
theorem z1x (i : Nat) : G.cmd 230 i = [] := rfl
theorem qsl (i : Nat) : G.cmd 231 i = [] := rfl
theorem zwy (i : Nat) : G.cmd 232 i = [] := rfl
theorem zkf (i : Nat) : G.cmd 233 i = [] := rfl
theorem zh7 (i : Nat) : G.cmd 234 i = [] := rfl
theorem qts (i : Nat) : G.cmd 235 i = [] := rfl
theorem qjr (i : Nat) : G.cmd 236 i = [] := rfl
theorem qlr (i : Nat) : G.cmd 237 i = [] := rfl
theorem qym (i : Nat) : G.cmd 238 i = [] := rfl
theorem z07 (i : Nat) : G.cmd 239 i = [] := rfl
theorem z1h (i : Nat) : G.cmd 240 i = [] := rfl
theorem qoi (i : Nat) : G.cmd 241 i = [] := rfl
theorem zu3 (i : Nat) : G.cmd 242 i = [] := rfl
theorem z5q (i : Nat) : G.cmd 243 i = [] := rfl
theorem z1c (i : Nat) : G.cmd 244 i = [] := rfl
theorem qix (i : Nat) : G.cmd 245 i = [] := rfl
theorem zae (i : Nat) : G.cmd 246 i = [] := rfl
theorem zbv (i : Nat) : G.cmd 247 i = [] := rfl
theorem qv8 (i : Nat) : G.cmd 248 i = [] := rfl
theorem qm0 (i : Nat) : G.cmd 249 i = [] := rfl
theorem z6s (i : Nat) : G.cmd 250 i = [] := rfl
theorem qsf (i : Nat) : G.cmd 251 i = [] := rfl
theorem qpl (i : Nat) : G.cmd 252 i = [] := rfl
theorem qi2 (i : Nat) : G.cmd 253 i = [] := rfl
theorem zvo (i : Nat) : G.cmd 254 i = [] := rfl
theorem zs2 (i : Nat) : G.cmd 255 i = [] := rfl
theorem qf2 (i : Nat) : G.cmd 256 i = [] := rfl
theorem zb9 (i : Nat) : G.cmd 257 i = [] := rfl
theorem qzm (i : Nat) : G.cmd 258 i = [] := rfl
theorem zm6 (i : Nat) : G.cmd 259 i = [] := rfl
theorem zpy (i : Nat) : G.cmd 260 i = [] := rfl
theorem z6a (i : Nat) : G.cmd 261 i = [] := rfl
theorem qgb (i : Nat) : G.cmd 262 i = [] := rfl
theorem qt2 (i : Nat) : G.cmd 263 i = [] := rfl
theorem zw2 (i : Nat) : G.cmd 264 i = [] := rfl
theorem qqf (i : Nat) : G.cmd 265 i = [] := rfl
theorem qrb (i : Nat) : G.cmd 266 i = [] := rfl
theorem z2x (i : Nat) : G.cmd 267 i = [] := rfl
theorem qkw (i : Nat) : G.cmd 268 i = [] := rfl
theorem qex (i : Nat) : G.cmd 269 i = [] := rfl
theorem zbx (i : Nat) : G.cmd 270 i = [] := rfl
theorem znn (i : Nat) : G.cmd 271 i = [] := rfl
theorem qwn (i : Nat) : G.cmd 272 i = [] := rfl
theorem zs9 (i : Nat) : G.cmd 273 i = [] := rfl
theorem qtu (i : Nat) : G.cmd 274 i = [] := rfl
theorem qj7 (i : Nat) : G.cmd 275 i = [] := rfl
theorem zmy (i : Nat) : G.cmd 276 i = [] := rfl
theorem zeh (i : Nat) : G.cmd 277 i = [] := rfl
theorem zid (i : Nat) : G.cmd 278 i = [] := rfl
theorem qmx (i : Nat) : G.cmd 279 i = [] := rfl
theorem qkj (i : Nat) : G.cmd 280 i = [] := rfl
theorem qfr (i : Nat) : G.cmd 281 i = [] := rfl
theorem qq2 (i : Nat) : G.cmd 282 i = [] := rfl
theorem zic (i : Nat) : G.cmd 283 i = [] := rfl
theorem qug (i : Nat) : G.cmd 284 i = [] := rfl
theorem qj2 (i : Nat) : G.cmd 285 i = [] := rfl
theorem qmc (i : Nat) : G.cmd 286 i = [] := rfl
theorem zwp (i : Nat) : G.cmd 287 i = [] := rfl
theorem z3s (i : Nat) : G.cmd 288 i = [] := rfl
theorem z3b (i : Nat) : G.cmd 289 i = [] := rfl
theorem qg4 (i : Nat) : G.cmd 290 i = [] := rfl
theorem qiv (i : Nat) : G.cmd 291 i = [] := rfl
theorem zv5 (i : Nat) : G.cmd 292 i = [] := rfl
theorem zog (i : Nat) : G.cmd 293 i = [] := rfl
theorem qul (i : Nat) : G.cmd 294 i = [] := rfl
theorem zu9 (i : Nat) : G.cmd 295 i = [] := rfl
theorem qgi (i : Nat) : G.cmd 296 i = [] := rfl
theorem zsu (i : Nat) : G.cmd 297 i = [] := rfl
theorem zgi (i : Nat) : G.cmd 298 i = [] := rfl
theorem qtg (i : Nat) : G.cmd 299 i = [] := rfl
theorem z9k (i : Nat) : G.cmd 300 i = [] := rfl
theorem z3r (i : Nat) : G.cmd 301 i = [] := rfl
theorem ztj (i : Nat) : G.cmd 302 i = [] := rfl
theorem zfm (i : Nat) : G.cmd 303 i = [] := rfl
theorem zfo (i : Nat) : G.cmd 304 i = [] := rfl
theorem qw1 (i : Nat) : G.cmd 305 i = [] := rfl
theorem z5m (i : Nat) : G.cmd 306 i = [] := rfl
theorem zh9 (i : Nat) : G.cmd 307 i = [] := rfl
theorem qjh (i : Nat) : G.cmd 308 i = [] := rfl
theorem qih (i : Nat) : G.cmd 309 i = [] := rfl
theorem qwu (i : Nat) : G.cmd 310 i = [] := rfl
theorem zdp (i : Nat) : G.cmd 311 i = [] := rfl
theorem qo7 (i : Nat) : G.cmd 312 i = [] := rfl
theorem zmg (i : Nat) : G.cmd 313 i = [] := rfl
theorem qz5 (i : Nat) : G.cmd 314 i = [] := rfl
theorem zwd (i : Nat) : G.cmd 315 i = [] := rfl
theorem zs7 (i : Nat) : G.cmd 316 i = [] := rfl
theorem qmb (i : Nat) : G.cmd 317 i = [] := rfl
theorem z01 (i : Nat) : G.cmd 318 i = [] := rfl
theorem z0c (i : Nat) : G.cmd 319 i = [] := rfl
theorem zuv (i : Nat) : G.cmd 320 i = [] := rfl
theorem zfh (i : Nat) : G.cmd 321 i = [] := rfl
theorem z2e (i : Nat) : G.cmd 322 i = [] := rfl
theorem z7e (i : Nat) : G.cmd 323 i = [] := rfl
theorem zx1 (i : Nat) : G.cmd 324 i = [] := rfl
theorem qla (i : Nat) : G.cmd 325 i = [] := rfl
theorem zce (i : Nat) : G.cmd 326 i = [] := rfl
theorem zo3 (i : Nat) : G.cmd 327 i = [] := rfl
theorem zwv (i : Nat) : G.cmd 328 i = [] := rfl
theorem qs6 (i : Nat) : G.cmd 329 i = [] := rfl
theorem zne (i : Nat) : G.cmd 330 i = [] := rfl
theorem qxl (i : Nat) : G.cmd 331 i = [] := rfl
theorem znm (i : Nat) : G.cmd 332 i = [] := rfl
theorem zvm (i : Nat) : G.cmd 333 i = [] := rfl
theorem zgx (i : Nat) : G.cmd 334 i = [] := rfl
theorem qlk (i : Nat) : G.cmd 335 i = [] := rfl
theorem zgb (i : Nat) : G.cmd 336 i = [] := rfl
theorem qj3 (i : Nat) : G.cmd 337 i = [] := rfl
theorem qr6 (i : Nat) : G.cmd 338 i = [] := rfl
theorem qfx (i : Nat) : G.cmd 339 i = [] := rfl
theorem zo2 (i : Nat) : G.cmd 340 i = [] := rfl
theorem zlv (i : Nat) : G.cmd 341 i = [] := rfl
theorem zs8 (i : Nat) : G.cmd 342 i = [] := rfl
theorem zjb (i : Nat) : G.cmd 343 i = [] := rfl
theorem qy1 (i : Nat) : G.cmd 344 i = [] := rfl
theorem z7z (i : Nat) : G.cmd 345 i = [] := rfl
theorem qlu (i : Nat) : G.cmd 346 i = [] := rfl
theorem zll (i : Nat) : G.cmd 347 i = [] := rfl
theorem qwl (i : Nat) : G.cmd 348 i = [] := rfl
theorem qep (i : Nat) : G.cmd 349 i = [] := rfl
theorem zum (i : Nat) : G.cmd 350 i = [] := rfl
theorem qwb (i : Nat) : G.cmd 351 i = [] := rfl
theorem quh (i : Nat) : G.cmd 352 i = [] := rfl
theorem zwz (i : Nat) : G.cmd 353 i = [] := rfl
theorem qio (i : Nat) : G.cmd 354 i = [] := rfl
theorem zvc (i : Nat) : G.cmd 355 i = [] := rfl
theorem qs8 (i : Nat) : G.cmd 356 i = [] := rfl
theorem z2u (i : Nat) : G.cmd 357 i = [] := rfl
theorem qpz (i : Nat) : G.cmd 358 i = [] := rfl
theorem qp7 (i : Nat) : G.cmd 359 i = [] := rfl
theorem zqf (i : Nat) : G.cmd 360 i = [] := rfl
theorem zdy (i : Nat) : G.cmd 361 i = [] := rfl
theorem zr3 (i : Nat) : G.cmd 362 i = [] := rfl
theorem qzp (i : Nat) : G.cmd 363 i = [] := rfl
theorem ze2 (i : Nat) : G.cmd 364 i = [] := rfl
theorem zlk (i : Nat) : G.cmd 365 i = [] := rfl
theorem z7v (i : Nat) : G.cmd 366 i = [] := rfl
theorem qh9 (i : Nat) : G.cmd 367 i = [] := rfl
theorem znf (i : Nat) : G.cmd 368 i = [] := rfl
theorem z0u (i : Nat) : G.cmd 369 i = [] := rfl
theorem z8j (i : Nat) : G.cmd 370 i = [] := rfl
theorem qjs (i : Nat) : G.cmd 371 i = [] := rfl
theorem qof (i : Nat) : G.cmd 372 i = [] := rfl
theorem zkr (i : Nat) : G.cmd 373 i = [] := rfl
theorem zfr (i : Nat) : G.cmd 374 i = [] := rfl
theorem qwj (i : Nat) : G.cmd 375 i = [] := rfl
theorem zea (i : Nat) : G.cmd 376 i = [] := rfl
theorem qgf (i : Nat) : G.cmd 377 i = [] := rfl
theorem zn9 (i : Nat) : G.cmd 378 i = [] := rfl
theorem zwm (i : Nat) : G.cmd 379 i = [] := rfl
theorem zbg (i : Nat) : G.cmd 380 i = [] := rfl
theorem qfw (i : Nat) : G.cmd 381 i = [] := rfl
theorem zpd (i : Nat) : G.cmd 382 i = [] := rfl
theorem qf7 (i : Nat) : G.cmd 383 i = [] := rfl
theorem zky (i : Nat) : G.cmd 384 i = [] := rfl
theorem qsi (i : Nat) : G.cmd 385 i = [] := rfl
theorem qy8 (i : Nat) : G.cmd 386 i = [] := rfl
theorem qhh (i : Nat) : G.cmd 387 i = [] := rfl
theorem qgy (i : Nat) : G.cmd 388 i = [] := rfl
theorem ze6 (i : Nat) : G.cmd 389 i = [] := rfl
theorem z5s (i : Nat) : G.cmd 390 i = [] := rfl
theorem zj3 (i : Nat) : G.cmd 391 i = [] := rfl
theorem zro (i : Nat) : G.cmd 392 i = [] := rfl
theorem qsq (i : Nat) : G.cmd 393 i = [] := rfl
theorem qvq (i : Nat) : G.cmd 394 i = [] := rfl
theorem qw3 (i : Nat) : G.cmd 395 i = [] := rfl
theorem zdg (i : Nat) : G.cmd 396 i = [] := rfl
theorem zr1 (i : Nat) : G.cmd 397 i = [] := rfl
theorem qum (i : Nat) : G.cmd 398 i = [] := rfl
theorem zc2 (i : Nat) : G.cmd 399 i = [] := rfl
theorem zth (i : Nat) : G.cmd 400 i = [] := rfl
theorem zo1 (i : Nat) : G.cmd 401 i = [] := rfl
theorem zj2 (i : Nat) : G.cmd 402 i = [] := rfl
theorem ze1 (i : Nat) : G.cmd 403 i = [] := rfl
theorem zh4 (i : Nat) : G.cmd 404 i = [] := rfl
theorem qin (i : Nat) : G.cmd 405 i = [] := rfl
theorem zkg (i : Nat) : G.cmd 406 i = [] := rfl
theorem z0i (i : Nat) : G.cmd 407 i = [] := rfl
theorem z5z (i : Nat) : G.cmd 408 i = [] := rfl
theorem ztp (i : Nat) : G.cmd 409 i = [] := rfl
theorem zhe (i : Nat) : G.cmd 410 i = [] := rfl
theorem zvd (i : Nat) : G.cmd 411 i = [] := rfl
theorem z1d (i : Nat) : G.cmd 412 i = [] := rfl
theorem qyn (i : Nat) : G.cmd 413 i = [] := rfl
theorem z0x (i : Nat) : G.cmd 414 i = [] := rfl
theorem qgu (i : Nat) : G.cmd 415 i = [] := rfl
theorem qqw (i : Nat) : G.cmd 416 i = [] := rfl
theorem ztx (i : Nat) : G.cmd 417 i = [] := rfl
theorem zvy (i : Nat) : G.cmd 418 i = [] := rfl
theorem zjj (i : Nat) : G.cmd 419 i = [] := rfl
theorem ztz (i : Nat) : G.cmd 420 i = [] := rfl
theorem zj0 (i : Nat) : G.cmd 421 i = [] := rfl
theorem qig (i : Nat) : G.cmd 422 i = [] := rfl
theorem zt8 (i : Nat) : G.cmd 423 i = [] := rfl
theorem z8q (i : Nat) : G.cmd 424 i = [] := rfl
theorem zsz (i : Nat) : G.cmd 425 i = [] := rfl
theorem z8i (i : Nat) : G.cmd 426 i = [] := rfl
theorem qic (i : Nat) : G.cmd 427 i = [] := rfl
theorem z2k (i : Nat) : G.cmd 428 i = [] := rfl
theorem zt4 (i : Nat) : G.cmd 429 i = [] := rfl
theorem qu3 (i : Nat) : G.cmd 430 i = [] := rfl
theorem zot (i : Nat) : G.cmd 431 i = [] := rfl
theorem qoy (i : Nat) : G.cmd 432 i = [] := rfl
theorem z3k (i : Nat) : G.cmd 433 i = [] := rfl
theorem zte (i : Nat) : G.cmd 434 i = [] := rfl
theorem znw (i : Nat) : G.cmd 435 i = [] := rfl
theorem qyf (i : Nat) : G.cmd 436 i = [] := rfl
theorem zsq (i : Nat) : G.cmd 437 i = [] := rfl
theorem qrt (i : Nat) : G.cmd 438 i = [] := rfl
theorem zvh (i : Nat) : G.cmd 439 i = [] := rfl
theorem qez (i : Nat) : G.cmd 440 i = [] := rfl
theorem qpb (i : Nat) : G.cmd 441 i = [] := rfl
theorem zrv (i : Nat) : G.cmd 442 i = [] := rfl
theorem qoo (i : Nat) : G.cmd 443 i = [] := rfl
theorem qw6 (i : Nat) : G.cmd 444 i = [] := rfl
theorem z10 (i : Nat) : G.cmd 445 i = [] := rfl
theorem qo8 (i : Nat) : G.cmd 446 i = [] := rfl
theorem zbi (i : Nat) : G.cmd 447 i = [] := rfl
theorem zcw (i : Nat) : G.cmd 448 i = [] := rfl
theorem z6w (i : Nat) : G.cmd 449 i = [] := rfl
theorem qka (i : Nat) : G.cmd 450 i = [] := rfl
theorem zqj : G.spec 4 0 = ⟨[1,2,7],[6],[],[],[],0⟩ := rfl
theorem qz7 : G.spec 4 2 = ⟨[1,2,7,8],[1,2,7],[],[],[],0⟩ := rfl
theorem zmm : G.spec 6 0 = ⟨[1,6,15,16,17],[1,6],[6],[],[],0⟩ := rfl
theorem zh2 : G.spec 6 2 = ⟨[1,6,30,31,32],[1,4,5,6],[6],[],[],0⟩ := rfl
theorem zc5 : G.spec 7 0 = ⟨[0,1,6,7],[1,6],[],[],[],0⟩ := rfl
theorem zfp : G.spec 7 2 = ⟨[1,6,8],[1,4,5,6],[],[],[],0⟩ := rfl
theorem z5g : G.spec 8 0 = ⟨[0,1,5],[4],[],[],[],0⟩ := rfl
theorem zmz : G.spec 9 0 = ⟨[1,2,7],[6],[],[],[],0⟩ := rfl
theorem zmv : G.spec 14 1 = ⟨[4,5,6,82,83,84],[4,5,6],[],[],[],0⟩ := rfl
theorem qzd : G.spec 14 3 = ⟨[4,5,6,119,120,121],[4,5,6],[],[],[],0⟩ := rfl
theorem qoc : G.spec 15 0 = ⟨[0,3],[3],[],[],[],0⟩ := rfl
theorem zdi : G.spec 16 1 = ⟨[1,5,6],[1,2,3,5],[],[],[],0⟩ := rfl
theorem z7s : G.spec 16 3 = ⟨[1,5,7],[1,2,3,5],[],[],[],0⟩ := rfl
theorem qvb : G.spec 26 0 = ⟨[5,6,7],[2],[],[],[],0⟩ := rfl
theorem zql : G.spec 28 0 = ⟨[0,5,6,7],[2],[],[],[],0⟩ := rfl
theorem fz1 : G.frz 1 = false := rfl
theorem fz2 : G.frz 2 = false := rfl
theorem fz3 : G.frz 3 = false := rfl
theorem fz4 : G.frz 4 = false := rfl
theorem fz5 : G.frz 5 = false := rfl
theorem fz6 : G.frz 6 = false := rfl
theorem fz7 : G.frz 7 = false := rfl
theorem fz8 : G.frz 8 = false := rfl
theorem fz9 : G.frz 9 = false := rfl
theorem zg2 : G.frz 10 = false := rfl
theorem zm1 : G.frz 11 = false := rfl
theorem zpq : G.frz 12 = false := rfl
theorem zg8 : G.frz 13 = false := rfl
theorem z09 : G.frz 14 = false := rfl
theorem qq0 : G.frz 15 = false := rfl
theorem za3 : G.frz 16 = false := rfl
theorem zsw : G.frz 17 = false := rfl
theorem zl2 : G.frz 18 = false := rfl
theorem qm1 : G.frz 19 = false := rfl
theorem zmx : G.frz 20 = false := rfl
theorem qg5 : G.frz 21 = false := rfl
theorem zrp : G.frz 22 = false := rfl
theorem zwn : G.frz 23 = false := rfl
theorem zto : G.frz 24 = false := rfl
theorem zga : G.frz 25 = false := rfl
theorem z3a : G.frz 26 = false := rfl
theorem qxz : G.frz 27 = false := rfl
theorem qrj : G.frz 29 = false := rfl
theorem zx5 : G.frz 30 = false := rfl
theorem qqn : G.frz 31 = false := rfl
theorem qni : G.frz 32 = false := rfl
theorem qp2 : G.frz 33 = false := rfl
theorem z7a : G.frz 34 = false := rfl
theorem z5n : G.frz 35 = false := rfl
theorem qii : G.frz 36 = false := rfl
theorem zo0 : G.frz 37 = false := rfl
theorem zlm : G.frz 38 = false := rfl
theorem zwa : G.frz 39 = false := rfl
theorem z3g : G.frz 40 = false := rfl
theorem zg9 : G.frz 41 = false := rfl
theorem qzz : G.frz 43 = false := rfl
theorem qpt : G.frz 45 = false := rfl
theorem qek : G.frz 46 = false := rfl
theorem qyw : G.frz 47 = false := rfl
theorem zqa : G.frz 48 = false := rfl
theorem zko : G.frz 50 = false := rfl
theorem qyq : G.frz 51 = false := rfl
theorem zba : G.frz 52 = false := rfl
theorem zq5 : G.frz 54 = false := rfl
theorem zdr : G.frz 55 = false := rfl
theorem z0r : G.frz 56 = false := rfl
theorem qku : G.frz 57 = false := rfl
theorem zfz : G.frz 58 = false := rfl
theorem qwo : G.frz 59 = false := rfl
theorem qjw : G.frz 60 = false := rfl
theorem qki : G.frz 61 = false := rfl
theorem z7y : G.frz 62 = false := rfl
theorem z1n : G.frz 63 = false := rfl
theorem zdn : G.frz 64 = false := rfl
theorem zn7 : G.frz 65 = false := rfl
theorem qx8 : G.frz 66 = false := rfl
theorem zsr : G.frz 67 = false := rfl
theorem zje : G.frz 68 = false := rfl
theorem qr4 : G.frz 69 = false := rfl
theorem qmv : G.frz 70 = false := rfl
theorem zan : G.frz 71 = false := rfl
theorem qgg : G.frz 72 = false := rfl
theorem zny : G.frz 73 = false := rfl
theorem qr9 : G.frz 74 = false := rfl
theorem zso : G.frz 75 = false := rfl
theorem zvx : G.frz 76 = false := rfl
theorem zr7 : G.frz 77 = false := rfl
theorem qkv : G.frz 78 = false := rfl
theorem z2g : G.frz 79 = false := rfl
theorem qy5 : G.frz 80 = false := rfl
theorem zay : G.frz 81 = false := rfl
theorem zuf : G.frz 82 = false := rfl
theorem zis : G.frz 83 = false := rfl
theorem z2c : G.frz 85 = false := rfl
theorem zcy : G.frz 86 = false := rfl
theorem zks : G.frz 88 = false := rfl
theorem zex : G.frz 89 = false := rfl
theorem z4p : G.frz 91 = false := rfl
theorem qkx : G.frz 92 = false := rfl
theorem qlc : G.frz 93 = false := rfl
theorem zoy : G.frz 94 = false := rfl
theorem qzt : G.frz 95 = false := rfl
theorem zfc : G.frz 96 = false := rfl
theorem qie : G.frz 97 = false := rfl
theorem qyc : G.frz 98 = false := rfl
theorem zhp : G.frz 99 = false := rfl
theorem z05 : G.frz 101 = false := rfl
theorem qtw : G.frz 102 = false := rfl
theorem zfx : G.frz 103 = false := rfl
theorem zq2 : G.frz 104 = false := rfl
theorem qr8 : G.frz 106 = false := rfl
theorem zcv : G.frz 107 = false := rfl
theorem qib : G.frz 108 = false := rfl
theorem ziw : G.frz 109 = false := rfl
theorem zby : G.frz 110 = false := rfl
theorem qp4 : G.frz 111 = false := rfl
theorem ztt : G.frz 112 = false := rfl
theorem qzn : G.frz 113 = false := rfl
theorem qtk : G.frz 114 = false := rfl
theorem zv7 : G.frz 115 = false := rfl
theorem z2i : G.frz 116 = false := rfl
theorem zno : G.frz 117 = false := rfl
theorem zcg : G.frz 118 = false := rfl
theorem z5p : G.frz 119 = false := rfl
theorem z2f : G.frz 120 = false := rfl
theorem zng : G.frz 121 = false := rfl
theorem qlv : G.frz 122 = false := rfl
theorem qi8 : G.frz 123 = false := rfl
theorem zdo : G.frz 125 = false := rfl
theorem qhi : G.frz 126 = false := rfl
theorem znu : G.frz 127 = false := rfl
theorem qpm : G.frz 128 = false := rfl
theorem zgl : G.frz 129 = false := rfl
theorem zrb : G.frz 130 = false := rfl
theorem qev : G.frz 131 = false := rfl
theorem zof : G.frz 132 = false := rfl
theorem qwh : G.frz 133 = false := rfl
theorem qo3 : G.frz 134 = false := rfl
theorem qrd : G.frz 135 = false := rfl
theorem qmj : G.frz 137 = false := rfl
theorem z2n : G.frz 138 = false := rfl
theorem zw1 : G.frz 140 = false := rfl
theorem z1u : G.frz 141 = false := rfl
theorem qtz : G.frz 142 = false := rfl
theorem qwv : G.frz 143 = false := rfl
theorem zpa : G.frz 144 = false := rfl
theorem qzi : G.frz 145 = false := rfl
theorem qx7 : G.frz 146 = false := rfl
theorem zr2 : G.frz 148 = false := rfl
theorem zta : G.frz 149 = false := rfl
theorem qsb : G.frz 150 = false := rfl
theorem zj4 : G.frz 151 = false := rfl
theorem zgo : G.frz 153 = false := rfl
theorem qrw : G.frz 154 = false := rfl
theorem zmr : G.frz 155 = false := rfl
theorem qld : G.frz 156 = false := rfl
theorem qp6 : G.frz 157 = false := rfl
theorem z2l : G.frz 159 = false := rfl
theorem zbh : G.frz 160 = false := rfl
theorem zge : G.frz 161 = false := rfl
theorem zer : G.frz 162 = false := rfl
theorem qg6 : G.frz 163 = false := rfl
theorem zpn : G.frz 164 = false := rfl
theorem zio : G.frz 165 = false := rfl
theorem zdb : G.frz 166 = false := rfl
theorem zwb : G.frz 167 = false := rfl
theorem z9l : G.frz 168 = false := rfl
theorem qzu : G.frz 169 = false := rfl
theorem zah : G.frz 170 = false := rfl
theorem qf0 : G.frz 171 = false := rfl
theorem zit : G.frz 172 = false := rfl
theorem qwm : G.frz 173 = false := rfl
theorem zoc : G.frz 174 = false := rfl
theorem zau : G.frz 175 = false := rfl
theorem z8c : G.frz 176 = false := rfl
theorem qvh : G.frz 177 = false := rfl
theorem zcx : G.frz 178 = false := rfl
theorem qmk : G.frz 179 = false := rfl
theorem zu4 : G.frz 180 = false := rfl
theorem qsx : G.frz 182 = false := rfl
theorem zm3 : G.frz 183 = false := rfl
theorem ztb : G.frz 184 = false := rfl
theorem zrx : G.frz 185 = false := rfl
theorem zok : G.frz 186 = false := rfl
theorem z7i : G.frz 187 = false := rfl
theorem z0k : G.frz 188 = false := rfl
theorem za6 : G.frz 189 = false := rfl
theorem zk2 : G.frz 191 = false := rfl
theorem qgn : G.frz 192 = false := rfl
theorem qt9 : G.frz 193 = false := rfl
theorem zdc : G.frz 194 = false := rfl
theorem qn9 : G.frz 195 = false := rfl
theorem ql9 : G.frz 197 = false := rfl
theorem qsy : G.frz 198 = false := rfl
theorem zd0 : G.frz 199 = false := rfl
theorem qfn : G.frz 201 = false := rfl
theorem zq4 : G.frz 202 = false := rfl
theorem zhj : G.frz 204 = false := rfl
theorem qpn : G.frz 205 = false := rfl
theorem qj9 : G.frz 206 = false := rfl
theorem zjz : G.frz 207 = false := rfl
theorem z2q : G.frz 208 = false := rfl
theorem zi6 : G.frz 209 = false := rfl
theorem zx3 : G.frz 210 = false := rfl
theorem qga : G.frz 212 = false := rfl
theorem z8o : G.frz 213 = false := rfl
theorem ztg : G.frz 214 = false := rfl
theorem qlq : G.frz 215 = false := rfl
theorem zjd : G.frz 216 = false := rfl
theorem z3v : G.frz 217 = false := rfl
theorem z9z : G.frz 218 = false := rfl
theorem qha : G.frz 219 = false := rfl
theorem zde : G.frz 220 = false := rfl
theorem qo4 : G.frz 221 = false := rfl
theorem zhs : G.frz 222 = false := rfl
theorem qkd : G.frz 223 = false := rfl
theorem qox : G.frz 224 = false := rfl
theorem qhx : G.frz 225 = false := rfl
theorem qpa : G.frz 226 = false := rfl
theorem zse : G.frz 227 = false := rfl
theorem qw2 : G.frz 229 = false := rfl
theorem qpu : G.frz 230 = false := rfl
theorem qn1 : G.frz 232 = false := rfl
theorem z4t : G.frz 233 = false := rfl
theorem zeg : G.frz 234 = false := rfl
theorem z7x : G.frz 235 = false := rfl
theorem qi6 : G.frz 236 = false := rfl
theorem z3u : G.frz 237 = false := rfl
theorem zq6 : G.frz 238 = false := rfl
theorem z5u : G.frz 239 = false := rfl
theorem zpv : G.frz 240 = false := rfl
theorem z4k : G.frz 241 = false := rfl
theorem z0n : G.frz 242 = false := rfl
theorem z0y : G.frz 243 = false := rfl
theorem zp7 : G.frz 244 = false := rfl
theorem zvk : G.frz 245 = false := rfl
theorem qqy : G.frz 246 = false := rfl
theorem zol : G.frz 247 = false := rfl
theorem z9b : G.frz 248 = false := rfl
theorem zeq : G.frz 249 = false := rfl
theorem ze7 : G.frz 250 = false := rfl
theorem qi7 : G.frz 251 = false := rfl
theorem qir : G.frz 252 = false := rfl
theorem qww : G.frz 253 = false := rfl
theorem z06 : G.frz 254 = false := rfl
theorem qkb : G.frz 255 = false := rfl
theorem qif : G.frz 256 = false := rfl
theorem ql2 : G.frz 257 = false := rfl
theorem qoh : G.frz 258 = false := rfl
theorem zqy : G.frz 259 = false := rfl
theorem zx0 : G.frz 260 = false := rfl
theorem zvj : G.frz 261 = false := rfl
theorem quq : G.frz 263 = false := rfl
theorem zc3 : G.frz 264 = false := rfl
theorem zjv : G.frz 265 = false := rfl
theorem zk9 : G.frz 266 = false := rfl
theorem qsr : G.frz 267 = false := rfl
theorem z7p : G.frz 268 = false := rfl
theorem z6v : G.frz 269 = false := rfl
theorem zn0 : G.frz 270 = false := rfl
theorem qfz : G.frz 271 = false := rfl
theorem qzw : G.frz 273 = false := rfl
theorem zrm : G.frz 274 = false := rfl
theorem znv : G.frz 275 = false := rfl
theorem zaf : G.frz 276 = false := rfl
theorem qs2 : G.frz 277 = false := rfl
theorem qv0 : G.frz 279 = false := rfl
theorem qfl : G.frz 281 = false := rfl
theorem zmq : G.frz 282 = false := rfl
theorem qrp : G.frz 283 = false := rfl
theorem za7 : G.frz 284 = false := rfl
theorem z0z : G.frz 285 = false := rfl
theorem qx9 : G.frz 286 = false := rfl
theorem zku : G.frz 287 = false := rfl
theorem zf2 : G.frz 288 = false := rfl
theorem zpx : G.frz 289 = false := rfl
theorem z6f : G.frz 290 = false := rfl
theorem z8u : G.frz 291 = false := rfl
theorem zij : G.frz 292 = false := rfl
theorem zj6 : G.frz 293 = false := rfl
theorem zpe : G.frz 294 = false := rfl
theorem qkm : G.frz 296 = false := rfl
theorem zl7 : G.frz 297 = false := rfl
theorem z4a : G.frz 298 = false := rfl
theorem qhs : G.frz 299 = false := rfl
theorem qh7 : G.frz 300 = false := rfl
theorem z9e : G.frz 301 = false := rfl
theorem zm9 : G.frz 302 = false := rfl
theorem zmj : G.frz 303 = false := rfl
theorem zrh : G.frz 304 = false := rfl
theorem zsg : G.frz 305 = false := rfl
theorem zaj : G.frz 306 = false := rfl
theorem qtl : G.frz 307 = false := rfl
theorem qim : G.frz 308 = false := rfl
theorem qvj : G.frz 309 = false := rfl
theorem qno : G.frz 311 = false := rfl
theorem qho : G.frz 312 = false := rfl
theorem z88 : G.frz 313 = false := rfl
theorem qt3 : G.frz 314 = false := rfl
theorem qny : G.frz 315 = false := rfl
theorem qpo : G.frz 316 = false := rfl
theorem quu : G.frz 317 = false := rfl
theorem zeb : G.frz 318 = false := rfl
theorem zar : G.frz 319 = false := rfl
theorem quw : G.frz 320 = false := rfl
theorem qlt : G.frz 321 = false := rfl
theorem qpw : G.frz 322 = false := rfl
theorem zj9 : G.frz 323 = false := rfl
theorem qvk : G.frz 324 = false := rfl
theorem qtr : G.frz 325 = false := rfl
theorem z6q : G.frz 326 = false := rfl
theorem qyx : G.frz 327 = false := rfl
theorem qs0 : G.frz 328 = false := rfl
theorem qwq : G.frz 329 = false := rfl
theorem z6g : G.frz 330 = false := rfl
theorem qvo : G.frz 331 = false := rfl
theorem zsy : G.frz 332 = false := rfl
theorem zq0 : G.frz 333 = false := rfl
theorem zlg : G.frz 334 = false := rfl
theorem qj5 : G.frz 335 = false := rfl
theorem ql1 : G.frz 336 = false := rfl
theorem zda : G.frz 338 = false := rfl
theorem zqz : G.frz 339 = false := rfl
theorem zua : G.frz 340 = false := rfl
theorem zpb : G.frz 341 = false := rfl
theorem zgt : G.frz 342 = false := rfl
theorem qmu : G.frz 343 = false := rfl
theorem zi9 : G.frz 344 = false := rfl
theorem qjg : G.frz 345 = false := rfl
theorem qn7 : G.frz 346 = false := rfl
theorem z1r : G.frz 347 = false := rfl
theorem z1q : G.frz 348 = false := rfl
theorem qf4 : G.frz 349 = false := rfl
theorem zcj : G.frz 350 = false := rfl
theorem z5k : G.frz 351 = false := rfl
theorem ze8 : G.frz 352 = false := rfl
theorem zkz : G.frz 353 = false := rfl
theorem ztr : G.frz 354 = false := rfl
theorem qwc : G.frz 355 = false := rfl
theorem zvl : G.frz 356 = false := rfl
theorem qzb : G.frz 357 = false := rfl
theorem zr5 : G.frz 358 = false := rfl
theorem qnn : G.frz 359 = false := rfl
theorem z5d : G.frz 360 = false := rfl
theorem zsx : G.frz 361 = false := rfl
theorem qgj : G.frz 362 = false := rfl
theorem zq8 : G.frz 363 = false := rfl
theorem zur : G.frz 364 = false := rfl
theorem qzk : G.frz 365 = false := rfl
theorem qsn : G.frz 366 = false := rfl
theorem znp : G.frz 367 = false := rfl
theorem qgv : G.frz 368 = false := rfl
theorem znj : G.frz 369 = false := rfl
theorem zlh : G.frz 371 = false := rfl
theorem zhd : G.frz 372 = false := rfl
theorem zv8 : G.frz 373 = false := rfl
theorem qss : G.frz 374 = false := rfl
theorem qet : G.frz 376 = false := rfl
theorem zkt : G.frz 377 = false := rfl
theorem zo9 : G.frz 378 = false := rfl
theorem quc : G.frz 379 = false := rfl
theorem zrf : G.frz 380 = false := rfl
theorem z7u : G.frz 382 = false := rfl
theorem zfd : G.frz 383 = false := rfl
theorem zm0 : G.frz 384 = false := rfl
theorem z5x : G.frz 386 = false := rfl
theorem zr0 : G.frz 387 = false := rfl
theorem zc8 : G.frz 388 = false := rfl
theorem zra : G.frz 389 = false := rfl
theorem qmz : G.frz 390 = false := rfl
theorem zpz : G.frz 391 = false := rfl
theorem qsh : G.frz 392 = false := rfl
theorem qxm : G.frz 393 = false := rfl
theorem zal : G.frz 394 = false := rfl
theorem zry : G.frz 395 = false := rfl
theorem zpg : G.frz 396 = false := rfl
theorem z6y : G.frz 397 = false := rfl
theorem qyg : G.frz 398 = false := rfl
theorem z4o : G.frz 399 = false := rfl
theorem z2d : G.frz 400 = false := rfl
theorem qrr : G.frz 401 = false := rfl
theorem qrn : G.frz 402 = false := rfl
theorem zvr : G.frz 403 = false := rfl
theorem zhf : G.frz 405 = false := rfl
theorem qvm : G.frz 407 = false := rfl
theorem zbc : G.frz 408 = false := rfl
theorem zbf : G.frz 409 = false := rfl
theorem zla : G.frz 410 = false := rfl
theorem qvp : G.frz 411 = false := rfl
theorem zf5 : G.frz 412 = false := rfl
theorem qlb : G.frz 413 = false := rfl
theorem qrs : G.frz 414 = false := rfl
theorem zrj : G.frz 415 = false := rfl
theorem qpf : G.frz 416 = false := rfl
theorem qkc : G.frz 418 = false := rfl
theorem zfq : G.frz 419 = false := rfl
theorem quv : G.frz 421 = false := rfl
theorem zhh : G.frz 423 = false := rfl
theorem qn0 : G.frz 424 = false := rfl
theorem qwr : G.frz 425 = false := rfl
theorem qwd : G.frz 426 = false := rfl
theorem qmo : G.frz 427 = false := rfl
theorem qky : G.frz 428 = false := rfl
theorem qqr : G.frz 429 = false := rfl
theorem z8a : G.frz 430 = false := rfl
theorem qq6 : G.frz 432 = false := rfl
theorem z0o : G.frz 433 = false := rfl
theorem zpc : G.frz 434 = false := rfl
theorem zwg : G.frz 435 = false := rfl
theorem qqi : G.frz 436 = false := rfl
theorem z0j : G.frz 437 = false := rfl
theorem zlr : G.frz 438 = false := rfl
theorem zgf : G.frz 439 = false := rfl
theorem z0g : G.frz 440 = false := rfl
theorem zcd : G.frz 441 = false := rfl
theorem qhd : G.frz 442 = false := rfl
theorem zv3 : G.frz 443 = false := rfl
theorem qjo : G.frz 444 = false := rfl
theorem zus : G.frz 446 = false := rfl
theorem zpo : G.frz 447 = false := rfl
theorem zh3 : G.frz 448 = false := rfl
theorem z5b : G.frz 449 = false := rfl
theorem zd8 : G.frz 450 = false := rfl
theorem zaw : G.frz 451 = false := rfl
theorem zkb : G.frz 453 = false := rfl
theorem z1m : G.frz 455 = false := rfl
theorem qjp : G.frz 456 = false := rfl
theorem zov : G.frz 457 = false := rfl
theorem zpl : G.frz 458 = false := rfl
theorem z3t : G.frz 459 = false := rfl
theorem qhl : G.frz 461 = false := rfl
theorem z5j : G.frz 462 = false := rfl
theorem qqt : G.frz 463 = false := rfl
theorem znd : G.frz 464 = false := rfl
theorem zuw : G.frz 465 = false := rfl
theorem zev : G.frz 466 = false := rfl
theorem zmi : G.frz 467 = false := rfl
theorem zl1 : G.frz 468 = false := rfl
theorem qjq : G.frz 469 = false := rfl
theorem zsj : G.frz 470 = false := rfl
theorem zkx : G.frz 471 = false := rfl
theorem zgs : G.frz 472 = false := rfl
theorem z99 : G.frz 473 = false := rfl
theorem zni : G.frz 474 = false := rfl
theorem z8x : G.frz 475 = false := rfl
theorem qgq : G.frz 476 = false := rfl
theorem zk8 : G.frz 477 = false := rfl
theorem zhq : G.frz 479 = false := rfl
theorem z5f : G.frz 480 = false := rfl
theorem zwl : G.frz 481 = false := rfl
theorem z6m : G.frz 482 = false := rfl
theorem zlp : G.frz 483 = false := rfl
theorem qnw : G.frz 484 = false := rfl
theorem z3x : G.frz 485 = false := rfl
theorem qv9 : G.frz 486 = false := rfl
theorem qfb : G.frz 487 = false := rfl
theorem zcu : G.frz 488 = false := rfl
theorem zbe : G.frz 489 = false := rfl
theorem qye : G.frz 490 = false := rfl
theorem zhy : G.frz 492 = false := rfl
theorem zs5 : G.frz 493 = false := rfl
theorem qm4 : G.frz 494 = false := rfl
theorem z92 : G.frz 495 = false := rfl
theorem z1e : G.frz 496 = false := rfl
theorem zlu : G.frz 497 = false := rfl
theorem z2s : G.frz 498 = false := rfl
theorem zaq : G.frz 499 = false := rfl
theorem zgp : G.frz 500 = false := rfl
theorem zox : G.frz 501 = false := rfl
theorem z1g : G.frz 503 = false := rfl
theorem zgk : G.frz 504 = false := rfl
theorem qnz : G.frz 505 = false := rfl
theorem quf : G.frz 506 = false := rfl
theorem z7g : G.frz 507 = false := rfl
theorem z1j : G.frz 508 = false := rfl
theorem qis : G.frz 510 = false := rfl
theorem z6i : G.frz 511 = false := rfl
theorem zfw : G.frz 513 = false := rfl
theorem ziq : G.frz 514 = false := rfl
theorem qud : G.frz 515 = false := rfl
theorem zlw : G.frz 516 = false := rfl
theorem z4h : G.frz 517 = false := rfl
theorem zwj : G.frz 518 = false := rfl
theorem qza : G.frz 519 = false := rfl
theorem zca : G.frz 520 = false := rfl
theorem qpp : G.frz 521 = false := rfl
theorem z9a : G.frz 522 = false := rfl
theorem zb1 : G.frz 523 = false := rfl
theorem zhk : G.frz 524 = false := rfl
theorem qes : G.frz 525 = false := rfl
theorem zqo : G.frz 526 = false := rfl
theorem qrz : G.frz 527 = false := rfl
theorem z0w : G.frz 528 = false := rfl
theorem zqg : G.frz 529 = false := rfl
theorem z2h : G.frz 530 = false := rfl
theorem z9w : G.frz 531 = false := rfl
theorem zu8 : G.frz 532 = false := rfl
theorem zow : G.frz 533 = false := rfl
theorem mf1 : G.mrf 1 = false := rfl
theorem mf2 : G.mrf 2 = false := rfl
theorem mf3 : G.mrf 3 = false := rfl
theorem mf4 : G.mrf 4 = false := rfl
theorem mf5 : G.mrf 5 = false := rfl
theorem mf6 : G.mrf 6 = false := rfl
theorem mf7 : G.mrf 7 = false := rfl
theorem mf8 : G.mrf 8 = false := rfl
theorem mf9 : G.mrf 9 = false := rfl
theorem qry : G.mrf 10 = false := rfl
theorem zvp : G.mrf 11 = false := rfl
theorem qnh : G.mrf 12 = false := rfl
theorem za1 : G.mrf 13 = false := rfl
theorem qri : G.mrf 14 = false := rfl
theorem qpj : G.mrf 15 = false := rfl
theorem ql3 : G.mrf 16 = false := rfl
theorem zr4 : G.mrf 17 = false := rfl
theorem zbb : G.mrf 18 = false := rfl
theorem zcs : G.mrf 19 = false := rfl
theorem zil : G.mrf 20 = false := rfl
theorem zbd : G.mrf 21 = false := rfl
theorem qkk : G.mrf 22 = false := rfl
theorem zl0 : G.mrf 23 = false := rfl
theorem z4q : G.mrf 24 = false := rfl
theorem qto : G.mrf 25 = false := rfl
theorem zh8 : G.mrf 26 = false := rfl
theorem zkh : G.mrf 27 = false := rfl
theorem z3l : G.mrf 29 = false := rfl
theorem qxo : G.mrf 30 = false := rfl
theorem qyr : G.mrf 31 = false := rfl
theorem zk0 : G.mrf 32 = false := rfl
theorem z0l : G.mrf 33 = false := rfl
theorem qyt : G.mrf 34 = false := rfl
theorem zcq : G.mrf 35 = false := rfl
theorem zv4 : G.mrf 36 = false := rfl
theorem qjx : G.mrf 37 = false := rfl
theorem qng : G.mrf 38 = false := rfl
theorem zcm : G.mrf 39 = false := rfl
theorem qyi : G.mrf 40 = false := rfl
theorem zhz : G.mrf 41 = false := rfl
theorem qko : G.mrf 43 = false := rfl
theorem z8r : G.mrf 45 = false := rfl
theorem zmd : G.mrf 46 = false := rfl
theorem zkd : G.mrf 47 = false := rfl
theorem z2j : G.mrf 48 = false := rfl
theorem z11 : G.mrf 50 = false := rfl
theorem zgd : G.mrf 51 = false := rfl
theorem zaa : G.mrf 52 = false := rfl
theorem qv5 : G.mrf 54 = false := rfl
theorem z7r : G.mrf 55 = false := rfl
theorem zty : G.mrf 56 = false := rfl
theorem zs4 : G.mrf 57 = false := rfl
theorem z8g : G.mrf 58 = false := rfl
theorem qvy : G.mrf 59 = true := rfl
theorem qz3 : G.mrf 60 = false := rfl
theorem qkz : G.mrf 61 = false := rfl
theorem zkc : G.mrf 62 = false := rfl
theorem ziu : G.mrf 63 = false := rfl
theorem zch : G.mrf 64 = false := rfl
theorem zm4 : G.mrf 65 = false := rfl
theorem qgt : G.mrf 66 = false := rfl
theorem zru : G.mrf 67 = false := rfl
theorem zsf : G.mrf 68 = false := rfl
theorem zcc : G.mrf 69 = false := rfl
theorem zix : G.mrf 70 = false := rfl
theorem zmh : G.mrf 71 = false := rfl
theorem zpf : G.mrf 72 = false := rfl
theorem qhj : G.mrf 73 = false := rfl
theorem zp3 : G.mrf 74 = false := rfl
theorem zir : G.mrf 75 = false := rfl
theorem qiu : G.mrf 76 = false := rfl
theorem zef : G.mrf 77 = false := rfl
theorem qxr : G.mrf 78 = false := rfl
theorem qkf : G.mrf 79 = false := rfl
theorem zgh : G.mrf 80 = false := rfl
theorem z9f : G.mrf 81 = false := rfl
theorem z3q : G.mrf 82 = false := rfl
theorem zwu : G.mrf 83 = false := rfl
theorem ql4 : G.mrf 85 = false := rfl
theorem zc0 : G.mrf 86 = false := rfl
theorem zvz : G.mrf 88 = false := rfl
theorem qhn : G.mrf 89 = false := rfl
theorem qil : G.mrf 91 = false := rfl
theorem z2m : G.mrf 92 = false := rfl
theorem qva : G.mrf 93 = false := rfl
theorem z8p : G.mrf 94 = false := rfl
theorem z9v : G.mrf 95 = false := rfl
theorem z7m : G.mrf 96 = false := rfl
theorem zs6 : G.mrf 97 = false := rfl
theorem qo2 : G.mrf 98 = false := rfl
theorem qpv : G.mrf 99 = false := rfl
theorem zmt : G.mrf 101 = false := rfl
theorem qnp : G.mrf 102 = false := rfl
theorem zpj : G.mrf 103 = false := rfl
theorem zv1 : G.mrf 104 = false := rfl
theorem zft : G.mrf 106 = false := rfl
theorem zrd : G.mrf 107 = false := rfl
theorem qo1 : G.mrf 108 = false := rfl
theorem z5t : G.mrf 109 = false := rfl
theorem qob : G.mrf 110 = false := rfl
theorem zrs : G.mrf 111 = false := rfl
theorem qjj : G.mrf 112 = false := rfl
theorem z3j : G.mrf 113 = false := rfl
theorem zg5 : G.mrf 114 = false := rfl
theorem z4c : G.mrf 115 = false := rfl
theorem qel : G.mrf 116 = false := rfl
theorem qle : G.mrf 117 = false := rfl
theorem qgh : G.mrf 118 = false := rfl
theorem z0b : G.mrf 119 = false := rfl
theorem z6r : G.mrf 120 = false := rfl
theorem qp5 : G.mrf 121 = false := rfl
theorem qll : G.mrf 122 = false := rfl
theorem z3i : G.mrf 123 = false := rfl
theorem zif : G.mrf 125 = false := rfl
theorem zey : G.mrf 126 = false := rfl
theorem qeo : G.mrf 127 = false := rfl
theorem zts : G.mrf 128 = false := rfl
theorem zdj : G.mrf 129 = false := rfl
theorem qxp : G.mrf 130 = false := rfl
theorem z1w : G.mrf 131 = false := rfl
theorem zjf : G.mrf 132 = false := rfl
theorem zfb : G.mrf 133 = false := rfl
theorem zao : G.mrf 134 = false := rfl
theorem zad : G.mrf 135 = false := rfl
theorem qhg : G.mrf 137 = false := rfl
theorem qlm : G.mrf 138 = false := rfl
theorem qgz : G.mrf 140 = false := rfl
theorem zoe : G.mrf 141 = false := rfl
theorem znz : G.mrf 142 = false := rfl
theorem qg9 : G.mrf 143 = false := rfl
theorem qr0 : G.mrf 144 = false := rfl
theorem qv7 : G.mrf 145 = false := rfl
theorem qu4 : G.mrf 146 = false := rfl
theorem qq1 : G.mrf 148 = false := rfl
theorem znh : G.mrf 149 = false := rfl
theorem z3y : G.mrf 150 = false := rfl
theorem z19 : G.mrf 151 = false := rfl
theorem zez : G.mrf 153 = false := rfl
theorem qey : G.mrf 154 = false := rfl
theorem zjc : G.mrf 155 = false := rfl
theorem qqa : G.mrf 156 = false := rfl
theorem z9r : G.mrf 157 = false := rfl
theorem zw3 : G.mrf 159 = false := rfl
theorem qf8 : G.mrf 160 = false := rfl
theorem qi9 : G.mrf 161 = false := rfl
theorem zqs : G.mrf 162 = false := rfl
theorem qf9 : G.mrf 163 = false := rfl
theorem zqn : G.mrf 164 = false := rfl
theorem z4i : G.mrf 165 = false := rfl
theorem zrw : G.mrf 166 = false := rfl
theorem qzv : G.mrf 167 = false := rfl
theorem qh3 : G.mrf 168 = false := rfl
theorem qg7 : G.mrf 169 = false := rfl
theorem zqr : G.mrf 170 = false := rfl
theorem qoz : G.mrf 171 = false := rfl
theorem qon : G.mrf 172 = false := rfl
theorem z1z : G.mrf 173 = false := rfl
theorem z3f : G.mrf 174 = false := rfl
theorem zlj : G.mrf 175 = false := rfl
theorem zgy : G.mrf 176 = false := rfl
theorem qvz : G.mrf 177 = false := rfl
theorem zgq : G.mrf 178 = false := rfl
theorem zqx : G.mrf 179 = false := rfl
theorem zma : G.mrf 180 = false := rfl
theorem zmf : G.mrf 182 = false := rfl
theorem qm3 : G.mrf 183 = false := rfl
theorem zq9 : G.mrf 184 = false := rfl
theorem zab : G.mrf 185 = false := rfl
theorem zd6 : G.mrf 186 = false := rfl
theorem qti : G.mrf 187 = false := rfl
theorem ze9 : G.mrf 188 = false := rfl
theorem zff : G.mrf 189 = false := rfl
theorem qnq : G.mrf 191 = false := rfl
theorem zlf : G.mrf 192 = false := rfl
theorem ztv : G.mrf 193 = false := rfl
theorem zmw : G.mrf 194 = false := rfl
theorem zha : G.mrf 195 = false := rfl
theorem zt9 : G.mrf 197 = false := rfl
theorem qxw : G.mrf 198 = false := rfl
theorem z4v : G.mrf 199 = false := rfl
theorem qms : G.mrf 201 = false := rfl
theorem qt4 : G.mrf 202 = false := rfl
theorem qp3 : G.mrf 204 = false := rfl
theorem zp0 : G.mrf 205 = false := rfl
theorem ztu : G.mrf 206 = false := rfl
theorem z9h : G.mrf 207 = false := rfl
theorem zlo : G.mrf 208 = false := rfl
theorem qz9 : G.mrf 209 = false := rfl
theorem zm2 : G.mrf 210 = false := rfl
theorem zj7 : G.mrf 212 = false := rfl
theorem qqp : G.mrf 213 = false := rfl
theorem qvl : G.mrf 214 = false := rfl
theorem zf0 : G.mrf 215 = false := rfl
theorem qt1 : G.mrf 216 = false := rfl
theorem qzh : G.mrf 217 = false := rfl
theorem qln : G.mrf 218 = false := rfl
theorem zac : G.mrf 219 = false := rfl
theorem qtc : G.mrf 220 = false := rfl
theorem zwt : G.mrf 221 = false := rfl
theorem qya : G.mrf 222 = false := rfl
theorem qv1 : G.mrf 223 = false := rfl
theorem zf6 : G.mrf 224 = false := rfl
theorem qzy : G.mrf 225 = false := rfl
theorem qnk : G.mrf 226 = false := rfl
theorem qew : G.mrf 227 = false := rfl
theorem zam : G.mrf 229 = false := rfl
theorem z2v : G.mrf 230 = false := rfl
theorem zjn : G.mrf 232 = false := rfl
theorem zx2 : G.mrf 233 = false := rfl
theorem zjl : G.mrf 234 = false := rfl
theorem z5e : G.mrf 235 = false := rfl
theorem zuh : G.mrf 236 = false := rfl
theorem zfu : G.mrf 237 = false := rfl
theorem qwk : G.mrf 238 = false := rfl
theorem qst : G.mrf 239 = false := rfl
theorem qhw : G.mrf 240 = false := rfl
theorem z1a : G.mrf 241 = false := rfl
theorem qml : G.mrf 242 = false := rfl
theorem qr5 : G.mrf 243 = false := rfl
theorem qtd : G.mrf 244 = false := rfl
theorem zvq : G.mrf 245 = false := rfl
theorem zk7 : G.mrf 246 = false := rfl
theorem zcb : G.mrf 247 = false := rfl
theorem qyd : G.mrf 248 = false := rfl
theorem zt1 : G.mrf 249 = false := rfl
theorem z90 : G.mrf 250 = false := rfl
theorem z0t : G.mrf 251 = false := rfl
theorem zx4 : G.mrf 252 = false := rfl
theorem qnb : G.mrf 253 = false := rfl
theorem zcz : G.mrf 254 = false := rfl
theorem zi1 : G.mrf 255 = false := rfl
theorem zg4 : G.mrf 256 = false := rfl
theorem z5l : G.mrf 257 = false := rfl
theorem zd3 : G.mrf 258 = false := rfl
theorem qkr : G.mrf 259 = false := rfl
theorem qwi : G.mrf 260 = false := rfl
theorem ql5 : G.mrf 261 = false := rfl
theorem qj1 : G.mrf 263 = false := rfl
theorem qke : G.mrf 264 = false := rfl
theorem zps : G.mrf 265 = false := rfl
theorem qp0 : G.mrf 266 = false := rfl
theorem qr7 : G.mrf 267 = false := rfl
theorem zpi : G.mrf 268 = false := rfl
theorem z6h : G.mrf 269 = false := rfl
theorem zds : G.mrf 270 = false := rfl
theorem z5h : G.mrf 271 = false := rfl
theorem qqk : G.mrf 273 = false := rfl
theorem znq : G.mrf 274 = false := rfl
theorem qn3 : G.mrf 275 = false := rfl
theorem zwh : G.mrf 276 = false := rfl
theorem qh8 : G.mrf 277 = false := rfl
theorem z02 : G.mrf 279 = false := rfl
theorem qz1 : G.mrf 281 = false := rfl
theorem qik : G.mrf 282 = false := rfl
theorem qks : G.mrf 283 = false := rfl
theorem zin : G.mrf 284 = false := rfl
theorem znx : G.mrf 285 = false := rfl
theorem zdd : G.mrf 286 = false := rfl
theorem qnl : G.mrf 287 = false := rfl
theorem z6o : G.mrf 288 = false := rfl
theorem zop : G.mrf 289 = false := rfl
theorem qqq : G.mrf 290 = false := rfl
theorem ze3 : G.mrf 291 = false := rfl
theorem zen : G.mrf 292 = false := rfl
theorem qh0 : G.mrf 293 = false := rfl
theorem qm7 : G.mrf 294 = false := rfl
theorem z5w : G.mrf 296 = false := rfl
theorem zfi : G.mrf 297 = false := rfl
theorem zqc : G.mrf 298 = false := rfl
theorem zkp : G.mrf 299 = false := rfl
theorem zrk : G.mrf 300 = false := rfl
theorem zek : G.mrf 301 = false := rfl
theorem zp2 : G.mrf 302 = false := rfl
theorem z6u : G.mrf 303 = false := rfl
theorem qgr : G.mrf 304 = false := rfl
theorem zbz : G.mrf 305 = false := rfl
theorem zj5 : G.mrf 306 = false := rfl
theorem qk2 : G.mrf 307 = false := rfl
theorem z81 : G.mrf 308 = false := rfl
theorem zv6 : G.mrf 309 = false := rfl
theorem zut : G.mrf 311 = false := rfl
theorem zm5 : G.mrf 312 = false := rfl
theorem qor : G.mrf 313 = false := rfl
theorem zui : G.mrf 314 = false := rfl
theorem qfv : G.mrf 315 = false := rfl
theorem qq4 : G.mrf 316 = false := rfl
theorem zvi : G.mrf 317 = false := rfl
theorem qn8 : G.mrf 318 = false := rfl
theorem zn1 : G.mrf 319 = false := rfl
theorem zlt : G.mrf 320 = false := rfl
theorem z9t : G.mrf 321 = false := rfl
theorem z9x : G.mrf 322 = false := rfl
theorem qhc : G.mrf 323 = false := rfl
theorem qk0 : G.mrf 324 = false := rfl
theorem qjt : G.mrf 325 = false := rfl
theorem qy9 : G.mrf 326 = false := rfl
theorem zpr : G.mrf 327 = false := rfl
theorem qsw : G.mrf 328 = false := rfl
theorem zcn : G.mrf 329 = false := rfl
theorem ql7 : G.mrf 330 = false := rfl
theorem z1p : G.mrf 331 = false := rfl
theorem zpm : G.mrf 332 = false := rfl
theorem qxd : G.mrf 333 = false := rfl
theorem z8w : G.mrf 334 = false := rfl
theorem qw9 : G.mrf 335 = false := rfl
theorem qyj : G.mrf 336 = false := rfl
theorem zd4 : G.mrf 338 = false := rfl
theorem qft : G.mrf 339 = false := rfl
theorem qh4 : G.mrf 340 = false := rfl
theorem qnm : G.mrf 341 = false := rfl
theorem qzl : G.mrf 342 = false := rfl
theorem zik : G.mrf 343 = false := rfl
theorem zgc : G.mrf 344 = false := rfl
theorem zg7 : G.mrf 345 = false := rfl
theorem qy6 : G.mrf 346 = false := rfl
theorem zmc : G.mrf 347 = false := rfl
theorem qmf : G.mrf 348 = true := rfl
theorem qlh : G.mrf 349 = false := rfl
theorem qjn : G.mrf 350 = false := rfl
theorem z9j : G.mrf 351 = true := rfl
theorem qgs : G.mrf 352 = false := rfl
theorem z8s : G.mrf 353 = false := rfl
theorem zpw : G.mrf 354 = false := rfl
theorem qop : G.mrf 355 = false := rfl
theorem z7d : G.mrf 356 = false := rfl
theorem qso : G.mrf 357 = false := rfl
theorem qmr : G.mrf 358 = false := rfl
theorem zt0 : G.mrf 359 = false := rfl
theorem qfg : G.mrf 360 = false := rfl
theorem qxi : G.mrf 361 = false := rfl
theorem qpq : G.mrf 362 = false := rfl
theorem zc6 : G.mrf 363 = false := rfl
theorem qyp : G.mrf 364 = false := rfl
theorem z95 : G.mrf 365 = false := rfl
theorem zqi : G.mrf 366 = false := rfl
theorem qtn : G.mrf 367 = false := rfl
theorem qnr : G.mrf 368 = false := rfl
theorem zls : G.mrf 369 = false := rfl
theorem z2w : G.mrf 371 = false := rfl
theorem qx5 : G.mrf 372 = false := rfl
theorem z0s : G.mrf 373 = false := rfl
theorem zec : G.mrf 374 = false := rfl
theorem qun : G.mrf 376 = false := rfl
theorem qxq : G.mrf 377 = true := rfl
theorem qj8 : G.mrf 378 = false := rfl
theorem zm7 : G.mrf 379 = false := rfl
theorem zob : G.mrf 380 = false := rfl
theorem qq3 : G.mrf 382 = false := rfl
theorem qqs : G.mrf 383 = false := rfl
theorem qnf : G.mrf 384 = false := rfl
theorem zjh : G.mrf 386 = false := rfl
theorem qhr : G.mrf 387 = false := rfl
theorem zdf : G.mrf 388 = false := rfl
theorem ztk : G.mrf 389 = false := rfl
theorem z13 : G.mrf 390 = false := rfl
theorem zl6 : G.mrf 391 = false := rfl
theorem zjr : G.mrf 392 = false := rfl
theorem zbm : G.mrf 393 = false := rfl
theorem zfv : G.mrf 394 = false := rfl
theorem zjy : G.mrf 395 = false := rfl
theorem zjk : G.mrf 396 = false := rfl
theorem qxv : G.mrf 397 = false := rfl
theorem zvb : G.mrf 398 = false := rfl
theorem zn2 : G.mrf 399 = false := rfl
theorem qql : G.mrf 400 = false := rfl
theorem qg8 : G.mrf 401 = false := rfl
theorem qnv : G.mrf 402 = false := rfl
theorem z8v : G.mrf 403 = false := rfl
theorem z7c : G.mrf 405 = false := rfl
theorem zq1 : G.mrf 407 = false := rfl
theorem qls : G.mrf 408 = false := rfl
theorem qrl : G.mrf 409 = false := rfl
theorem z4b : G.mrf 410 = false := rfl
theorem z8d : G.mrf 411 = false := rfl
theorem qje : G.mrf 412 = false := rfl
theorem qvf : G.mrf 413 = false := rfl
theorem z0m : G.mrf 414 = false := rfl
theorem qfc : G.mrf 415 = false := rfl
theorem qqx : G.mrf 416 = false := rfl
theorem z6n : G.mrf 418 = false := rfl
theorem zjg : G.mrf 419 = false := rfl
theorem z18 : G.mrf 421 = false := rfl
theorem zrg : G.mrf 423 = false := rfl
theorem zf8 : G.mrf 424 = false := rfl
theorem qi3 : G.mrf 425 = false := rfl
theorem qia : G.mrf 426 = false := rfl
theorem qzf : G.mrf 427 = false := rfl
theorem qsa : G.mrf 428 = false := rfl
theorem z3w : G.mrf 429 = false := rfl
theorem qfi : G.mrf 430 = false := rfl
theorem qu8 : G.mrf 432 = false := rfl
theorem qoq : G.mrf 433 = false := rfl
theorem qte : G.mrf 434 = false := rfl
theorem zkj : G.mrf 435 = false := rfl
theorem z5v : G.mrf 436 = false := rfl
theorem zv0 : G.mrf 437 = false := rfl
theorem zww : G.mrf 438 = false := rfl
theorem qvx : G.mrf 439 = false := rfl
theorem zsm : G.mrf 440 = false := rfl
theorem zih : G.mrf 441 = false := rfl
theorem zb2 : G.mrf 442 = false := rfl
theorem qua : G.mrf 443 = false := rfl
theorem qij : G.mrf 444 = false := rfl
theorem qjv : G.mrf 446 = false := rfl
theorem qtj : G.mrf 447 = false := rfl
theorem zax : G.mrf 448 = false := rfl
theorem z4u : G.mrf 449 = false := rfl
theorem zt5 : G.mrf 450 = false := rfl
theorem qi1 : G.mrf 451 = false := rfl
theorem z8m : G.mrf 453 = false := rfl
theorem qjc : G.mrf 455 = false := rfl
theorem qyb : G.mrf 456 = false := rfl
theorem qk9 : G.mrf 457 = false := rfl
theorem zc1 : G.mrf 458 = false := rfl
theorem zgv : G.mrf 459 = false := rfl
theorem qn4 : G.mrf 461 = false := rfl
theorem zi8 : G.mrf 462 = false := rfl
theorem qja : G.mrf 463 = false := rfl
theorem qkg : G.mrf 464 = false := rfl
theorem qzq : G.mrf 465 = false := rfl
theorem z3c : G.mrf 466 = false := rfl
theorem zf1 : G.mrf 467 = false := rfl
theorem qhq : G.mrf 468 = false := rfl
theorem z7t : G.mrf 469 = false := rfl
theorem z3n : G.mrf 470 = false := rfl
theorem zh5 : G.mrf 471 = false := rfl
theorem ziz : G.mrf 472 = false := rfl
theorem zfa : G.mrf 473 = false := rfl
theorem zf9 : G.mrf 474 = false := rfl
theorem ze5 : G.mrf 475 = false := rfl
theorem z96 : G.mrf 476 = false := rfl
theorem qvr : G.mrf 477 = false := rfl
theorem qrg : G.mrf 479 = false := rfl
theorem zqt : G.mrf 480 = false := rfl
theorem qqo : G.mrf 481 = false := rfl
theorem zux : G.mrf 482 = false := rfl
theorem zck : G.mrf 483 = false := rfl
theorem zle : G.mrf 484 = false := rfl
theorem qqd : G.mrf 485 = false := rfl
theorem qme : G.mrf 486 = false := rfl
theorem zg6 : G.mrf 487 = false := rfl
theorem zu5 : G.mrf 488 = false := rfl
theorem z7n : G.mrf 489 = false := rfl
theorem zms : G.mrf 490 = false := rfl
theorem qwx : G.mrf 492 = false := rfl
theorem zhi : G.mrf 493 = false := rfl
theorem qv6 : G.mrf 494 = false := rfl
theorem ql6 : G.mrf 495 = false := rfl
theorem qx4 : G.mrf 496 = false := rfl
theorem qvi : G.mrf 497 = false := rfl
theorem zc9 : G.mrf 498 = false := rfl
theorem zlx : G.mrf 499 = false := rfl
theorem zbp : G.mrf 500 = false := rfl
theorem zrn : G.mrf 501 = false := rfl
theorem zl9 : G.mrf 503 = false := rfl
theorem qu6 : G.mrf 504 = false := rfl
theorem zji : G.mrf 505 = false := rfl
theorem zi4 : G.mrf 506 = false := rfl
theorem zld : G.mrf 507 = false := rfl
theorem qra : G.mrf 508 = false := rfl
theorem qrc : G.mrf 510 = false := rfl
theorem qrm : G.mrf 511 = false := rfl
theorem qzc : G.mrf 513 = false := rfl
theorem qup : G.mrf 514 = false := rfl
theorem ql8 : G.mrf 515 = false := rfl
theorem qk5 : G.mrf 516 = false := rfl
theorem qmg : G.mrf 517 = false := rfl
theorem ztc : G.mrf 518 = false := rfl
theorem zcr : G.mrf 519 = false := rfl
theorem qg2 : G.mrf 520 = false := rfl
theorem z4d : G.mrf 521 = false := rfl
theorem zrz : G.mrf 522 = false := rfl
theorem qge : G.mrf 523 = false := rfl
theorem qfu : G.mrf 524 = false := rfl
theorem z1b : G.mrf 525 = false := rfl
theorem zg1 : G.mrf 526 = false := rfl
theorem z6p : G.mrf 527 = false := rfl
theorem qji : G.mrf 528 = false := rfl
theorem qli : G.mrf 529 = false := rfl
theorem z97 : G.mrf 530 = false := rfl
theorem qw4 : G.mrf 531 = false := rfl
theorem z1f : G.mrf 532 = false := rfl
theorem qlj : G.mrf 533 = false := rfl
theorem ti3 : G.ti 3 = some ⟨1,8,.int .i64,[.int .i64 0],false,none⟩ := by kernel_rfl
theorem ti4 : G.ti 4 = some ⟨1,1,.bool,[.bool false],false,none⟩ := by kernel_rfl
theorem ti5 : G.ti 5 = some ⟨1,1,.int .u8,[.int .u8 0],false,none⟩ := by kernel_rfl
theorem ti9 : G.ti 9 = some ⟨1,16,.string,[.str []],false,none⟩ := by kernel_rfl
theorem z94 : G.ti 22 = some ⟨1,24,.slice 47,[.sl true 0 []],false,none⟩ := by kernel_rfl
theorem zbk : G.ti 23 = some ⟨1,24,.slice 36,[.sl true 0 []],false,none⟩ := by kernel_rfl
theorem zd9 : G.ti 26 = some ⟨1,24,.slice 5,[.sl true 0 []],false,none⟩ := by kernel_rfl
theorem qlf : G.ti 27 = some ⟨1,8,.int .i64,[.int .i64 0],false,none⟩ := by kernel_rfl
theorem z9d : G.ti 33 = some ⟨1,24,.slice 41,[.sl true 0 []],false,none⟩ := by kernel_rfl
theorem zp1 : G.ti 34 = some ⟨1,24,.slice 77,[.sl true 0 []],false,none⟩ := by kernel_rfl
theorem qsz : G.ti 36 = some ⟨7,104,.struct [(0,1,3),(1,1,9),(2,1,9),(3,1,3),(4,1,4),(5,1,33),(6,1,34)],[.int .i64 0,.str [],.str [],.int .i64 0,.bool false,.sl true 0 [],.sl true 0 []],true,none⟩ := by kernel_rfl
theorem qpe : G.ti 39 = some ⟨2,16,.struct [(0,1,3),(1,1,3)],[.int .i64 0,.int .i64 0],true,none⟩ := by kernel_rfl
theorem zpu : G.ti 41 = some ⟨3,32,.struct [(0,2,39),(2,1,9)],[.int .i64 0,.int .i64 0,.str []],true,none⟩ := by kernel_rfl
theorem qsj : G.ti 47 = some ⟨1,4,.int .u32,[.int .u32 0],false,none⟩ := by kernel_rfl
theorem zss : G.ti 51 = some ⟨1,24,.slice 9,[.sl true 0 []],false,none⟩ := by kernel_rfl
theorem qne : G.ti 77 = some ⟨2,16,.struct [(0,1,3),(1,1,3)],[.int .i64 0,.int .i64 0],true,none⟩ := by kernel_rfl
theorem qi4 : G.ti 118 = some ⟨1,24,.slice 3,[.sl true 0 []],false,none⟩ := by kernel_rfl
theorem fn3 : G.fn 3 = some ⟨Tryz.f3.ntmps,Tryz.f3.results.toList,Tryz.f3.body.get!⟩ := by kernel_rfl
theorem fn4 : G.fn 4 = some ⟨Tryz.f4.ntmps,Tryz.f4.results.toList,Tryz.f4.body.get!⟩ := by kernel_rfl
theorem fn6 : G.fn 6 = some ⟨Tryz.f6.ntmps,Tryz.f6.results.toList,Tryz.f6.body.get!⟩ := by kernel_rfl
theorem fn7 : G.fn 7 = some ⟨Tryz.f7.ntmps,Tryz.f7.results.toList,Tryz.f7.body.get!⟩ := by kernel_rfl
theorem fn8 : G.fn 8 = some ⟨Tryz.f8.ntmps,Tryz.f8.results.toList,Tryz.f8.body.get!⟩ := by kernel_rfl
theorem fn9 : G.fn 9 = some ⟨Tryz.f9.ntmps,Tryz.f9.results.toList,Tryz.f9.body.get!⟩ := by kernel_rfl
theorem zp8 : G.fn 13 = some ⟨Tryz.f13.ntmps,Tryz.f13.results.toList,Tryz.f13.body.get!⟩ := by kernel_rfl
theorem zw : G.fn 14 = some ⟨Tryz.f14.ntmps,Tryz.f14.results.toList,Tryz.f14.body.get!⟩ := by kernel_rfl
theorem q7x : G.fn 15 = some ⟨Tryz.f15.ntmps,Tryz.f15.results.toList,Tryz.f15.body.get!⟩ := by kernel_rfl
theorem zy : G.fn 16 = some ⟨Tryz.f16.ntmps,Tryz.f16.results.toList,Tryz.f16.body.get!⟩ := by kernel_rfl
theorem q52 : G.fn 26 = some ⟨Tryz.f26.ntmps,Tryz.f26.results.toList,Tryz.f26.body.get!⟩ := by kernel_rfl
theorem zk5 : G.fn 27 = some ⟨Tryz.f27.ntmps,Tryz.f27.results.toList,Tryz.f27.body.get!⟩ := by kernel_rfl
theorem q5h : G.fn 28 = some ⟨Tryz.f28.ntmps,Tryz.f28.results.toList,Tryz.f28.body.get!⟩ := by kernel_rfl
theorem qbo : G.fn 29 = some ⟨Tryz.f29.ntmps,Tryz.f29.results.toList,Tryz.f29.body.get!⟩ := by kernel_rfl
theorem ze0 : G.fn 30 = some ⟨Tryz.f30.ntmps,Tryz.f30.results.toList,Tryz.f30.body.get!⟩ := by kernel_rfl
theorem qaf : G.fn 31 = some ⟨Tryz.f31.ntmps,Tryz.f31.results.toList,Tryz.f31.body.get!⟩ := by kernel_rfl
theorem qtx : G.fn 32 = some ⟨Tryz.f32.ntmps,Tryz.f32.results.toList,Tryz.f32.body.get!⟩ := by kernel_rfl
theorem qaz : G.fn 33 = some ⟨Tryz.f33.ntmps,Tryz.f33.results.toList,Tryz.f33.body.get!⟩ := by kernel_rfl
theorem q3l : G.fn 55 = some ⟨Tryz.f55.ntmps,Tryz.f55.results.toList,Tryz.f55.body.get!⟩ := by kernel_rfl
end Go.Proofs.YtlapkkdodjhgpaaGreatDoor
