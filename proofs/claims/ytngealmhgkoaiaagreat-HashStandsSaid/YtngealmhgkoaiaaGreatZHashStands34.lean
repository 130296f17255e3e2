/- Walks: the rounds and the additions of a block, in the reference's sum. -/
import Derived.Test.YtngealmhgkoaiaaGreatZHashStands04
import Derived.Test.YtngealmhgkoaiaaGreatZHashStands31
import Derived.Test.YtngealmhgkoaiaaGreatZHashStands26
import Derived.Test.YtngealmhgkoaiaaGreatZHashStands15
import Derived.StillTailTactics
import Derived.Test.YtngealmhgkoaiaaGreatZHashStands25
import Derived.Test.YtngealmhgkoaiaaGreatZHashStands07
namespace Go.Proofs.YtngealmhgkoaiaaGreat
open Go.RowKit ShaM WireM
set_option linter.unusedVariables false
theorem beN8_len (x : Nat) : (beN 8 x).length = 8 := beN_len 8 x
theorem beN8_get (x : Nat) {i : Nat} (h : i < 8) : (beN 8 x)[i]? = some (x / 256 ^ (7 - i) % 256) := by
 obtain rfl | rfl | rfl | rfl | rfl | rfl | rfl | rfl : i = 0 ∨ i = 1 ∨ i = 2 ∨ i = 3 ∨ i = 4 ∨ i = 5 ∨ i = 6 ∨ i = 7 := by omega
 all_goals rfl
theorem beN8_take (x : Nat) {i : Nat} (h : i < 8) : (beN 8 x).take (i + 1) = (beN 8 x).take i ++ [x / 256 ^ (7 - i) % 256] := by
 rw [List.take_add_one, beN8_get x h]; rfl
theorem rdSl {w : World} {v : Value} {xs : List Value} (h : Rd w v xs) : ∃ a n c, v = .slice a n c := by
 obtain ⟨a, c, e, _⟩ := h
 exact ⟨_, _, _, e⟩
/-- the bytes, the one, so many noughts -/
def padJ (L : List Nat) (j : Nat) : List Nat := L ++ [128] ++ List.replicate j 0
theorem padJ_zero (L : List Nat) : padJ L 0 = L ++ [128] := by simp [padJ]
theorem padJ_succ (L : List Nat) (j : Nat) : padJ L (j + 1) = padJ L j ++ [0] := by rw [padJ, padJ, List.replicate_succ', List.append_assoc]; simp
theorem padJ_len (L : List Nat) (j : Nat) : (padJ L j).length = L.length + 1 + j := by simp [padJ]; omega
/-- and so many bytes of the length -/
def padI (L : List Nat) (Z i : Nat) : List Nat := padJ L Z ++ (beN 8 (8 * L.length)).take i
theorem padI_zero (L : List Nat) (Z : Nat) : padI L Z 0 = padJ L Z := by simp [padI]
theorem padI_succ (L : List Nat) (Z : Nat) {i : Nat} (h : i < 8) : padI L Z (i + 1) = padI L Z i ++ [8 * L.length / 256 ^ (7 - i) % 256] := by
 rw [padI, padI, beN8_take _ h, List.append_assoc]
theorem padI_len (L : List Nat) (Z : Nat) {i : Nat} (h : i ≤ 8) : (padI L Z i).length = L.length + 1 + Z + i := by
 rw [padI, List.length_append, padJ_len, List.length_take, beN8_len]; omega
theorem padI_end (L : List Nat) : padI L ((119 - L.length % 64) % 64) 8 = padL L := by
 rw [padI, padJ, padL, tailL, List.take_of_length_le (by rw [beN8_len]; omega)]
 simp
theorem turnZ (x n r : Nat) (z : Int) (hz : z = (n : Int)) (hx : x < 4294967296) (hn : n ≤ 32) (hr : r = rot x n) (w : World) :
  Calls Tryz.prog 233 #[.int .u64 (x : Nat), .int .i64 z] w fun e w' => e = .returned (.int .u64 (r : Nat)) ∧ w' = w := by rw [hz, hr]; exact turn_any x n w hx hn
theorem shiftZ (x n r : Nat) (z : Int) (hz : z = (n : Int)) (hx : x < 4294967296) (hn : n ≤ 32) (hr : r = x / 2 ^ n) (w : World) :
  Calls Tryz.prog 234 #[.int .u64 (x : Nat), .int .i64 z] w fun e w' => e = .returned (.int .u64 (r : Nat)) ∧ w' = w := by rw [hz, hr]; exact shift_any x n w hx hn
def xN (B : List Nat) (t : Nat) : Nat → Nat
 | 0 => 0
 | i + 1 => 256 * xN B t i + B.getD (4 * t + i) 0
theorem xN_lt {B : List Nat} (hB : ∀ x ∈ B, x < 256) (t : Nat) : ∀ i, xN B t i < 256 ^ i
 | 0 => by simp [xN]
 | i + 1 => by
  have h := xN_lt hB t i
  have g := getD_lt hB (by omega) (4 * t + i)
  rw [xN, Nat.pow_succ]
  generalize 256 ^ i = z at h ⊢
  omega
theorem xN_lt3 {B : List Nat} (hB : ∀ x ∈ B, x < 256) (t : Nat) {i : Nat} (hi : i < 4) : xN B t i < 16777216 :=
 Nat.lt_of_lt_of_le (xN_lt hB t i) (Nat.pow_le_pow_right (n := 256) (by decide) (Nat.le_of_lt_succ hi))
theorem xN_lt4 {B : List Nat} (hB : ∀ x ∈ B, x < 256) (t : Nat) : xN B t 4 < 4294967296 := xN_lt hB t 4
theorem pow2_31 {i : Nat} (hi : i < 32) : 2 ^ i ≤ 2147483648 := Nat.pow_le_pow_right (n := 2) (by decide) (Nat.le_of_lt_succ hi)
theorem pow2_32 {i : Nat} (hi : i ≤ 32) : 2 ^ i ≤ 4294967296 := Nat.pow_le_pow_right (n := 2) (by decide) hi
theorem xN_four (B l : List Nat) {t : Nat} (h : t < 16) : xN B t 4 = wNext B l t := by
 simp only [xN, wNext, if_pos h, Nat.add_zero]; omega
theorem qvs_set (L : List Nat) (i n : Nat) : (qvs L).set i (.int .u64 (n : Int)) = qvs (L.set i n) := by simp [qvs, List.map_set]
theorem Rd.setOther {w : World} {b off n c : Nat} {xs : List Value} (h : Rd w (.slice (some ⟨b, off, none⟩) n c) xs) (g i : Nat) (u : Value) (hne : b ≠ g) : Rd (w.setCell ⟨g, i, none⟩ u) (.slice (some ⟨b, off, none⟩) n c) xs :=
 h.onlyG (OnlyG.setCell i u) fun a n c e => by simp only [Value.slice.injEq, Option.some.injEq] at e; rw [← e.1]; exact hne
/-- what is put out of so many words -/
def outT (S : List Nat) (i : Nat) : List Nat := ((S.take i).map (beN 4)).flatten
theorem outT_len {S : List Nat} (h : S.length = 8) {i : Nat} (hi : i ≤ 8) : (outT S i).length = 4 * i := by
 have e : ∀ L : List Nat, ((L.map (beN 4)).flatten).length = 4 * L.length := by
  intro L
  induction L with
  | nil => rfl
  | cons a L ih => rw [List.map_cons, List.flatten_cons, List.length_append, ih, beN_len, List.length_cons]; omega
 rw [outT, e, List.length_take]; omega
theorem outT_succ {S : List Nat} (h : S.length = 8) {i x : Nat} (hi : i < 8) (hx : x = S.getD i 0) (hx32 : x < 4294967296) : outT S (i + 1) = outT S i ++ [x / 16777216, x / 65536 % 256, x / 256 % 256, x % 256] := by
 have e : S.take (i + 1) = S.take i ++ [x] := by
  rw [List.take_succ_eq_append_getElem (by omega), hx, List.getD_eq_getElem?_getD, List.getElem?_eq_getElem (by omega)]; rfl
 rw [outT, e, List.map_append, List.flatten_append]
 congr 1
 have e2 : beN 4 x = [x / 16777216 % 256, x / 65536 % 256, x / 256 % 256, x % 256] := by simp [beN]
 rw [show List.map (beN 4) [x] = [beN 4 x] from rfl, List.flatten_cons, List.flatten_nil, List.append_nil, e2, Nat.mod_eq_of_lt (show x / 16777216 < 256 by omega)]
theorem outT_end {S : List Nat} (h : S.length = 8) : outT S 8 = (S.map (beN 4)).flatten := by rw [outT, List.take_of_length_le (by omega)]
def sndC : Code → Code
 | .seq _ b => b
 | c => c
def fstC : Code → Code
 | .seq a _ => a
 | c => c
def inC : Code → Code
 | .block _ c => c
 | .loop c => c
 | c => c
theorem frame_fit {Q : Exit → Act → World → Prop} {w : World} (a : Act) (G : (Nat → Value) → Array Value) (h : ∀ f : Nat → Value, Q .normal ⟨G f, []⟩ w) (e : a = ⟨G fun k => a.tmps.toList.getD k undef, []⟩) : Q .normal a w := by
 rw [e]; exact h _
set_option maxRecDepth 100000 in
set_option maxHeartbeats 20000000 in
theorem rsum_rest (K : Act → World → Prop) (Q : Exit → Act → World → Prop) (sl0 sl1 sl3 sl4 sl5 sl6 sl8 sl9 sl10 sl11 sl12 sl13 sl15 sl16 sl17 sl18 sl19 sl20 sl21 sl22 sl23 sl24 sl25 sl26 sl27 sl28 sl29 sl30 sl31 sl32 sl33 sl34 sl35 sl36 sl37 sl38 sl39 sl40 sl41 sl42 sl43 sl44 sl45 sl46 sl47 sl48 sl49 sl50 sl51 sl52 sl53 sl54 sl55 sl56 sl57 sl58 sl59 sl60 sl61 sl62 sl63 sl64 sl65 sl66 sl67 sl68 sl69 sl70 sl71 sl72 sl73 sl74 sl75 sl76 sl77 sl78 sl79 sl80 sl81 sl82 sl83 sl84 sl85 sl86 sl87 sl88 sl89 sl90 sl91 sl92 sl93 sl94 sl95 sl96 sl97 sl98 sl99 sl100 sl101 sl102 sl103 sl104 sl105 sl106 sl107 sl108 sl109 sl110 sl111 sl112 sl113 sl114 sl115 sl116 sl117 sl118 sl119 sl120 sl121 sl122 sl123 sl124 sl125 sl126 sl127 sl128 sl129 sl130 sl131 sl132 sl133 sl134 sl135 sl136 sl137 sl138 sl139 sl140 sl141 sl142 sl143 sl144 sl145 sl146 sl147 sl148 sl149 sl150 sl151 sl152 sl153 sl154 sl155 sl156 sl157 sl158 sl159 sl160 sl161 sl162 sl163 sl164 sl165 sl166 sl167 sl168 sl169 sl170 sl171 sl172 sl173 sl174 sl175 sl176 sl177 sl178 sl179 sl180 sl181 sl182 sl183 sl184 sl185 sl186 sl187 sl188 sl189 sl190 sl191 sl192 sl193 sl194 sl195 sl196 sl197 sl198 sl199 sl200 sl201 sl202 sl203 sl204 sl205 sl206 sl207 sl208 sl209 sl210 sl211 sl212 sl213 sl214 sl215 sl216 sl217 sl218 sl219 sl220 sl221 sl222 sl223 sl224 sl225 sl226 sl227 sl228 sl229 sl230 sl231 sl232 sl233 sl234 sl235 sl236 sl237 sl238 sl239 sl240 sl241 sl242 sl243 sl244 sl245 sl246 sl247 sl248 sl249 sl250 sl251 sl252 sl253 sl254 sl255 sl256 sl257 sl258 sl259 sl260 sl261 sl262 sl263 sl264 sl265 sl266 sl267 sl268 sl269 sl270 sl271 sl272 sl273 sl274 sl275 sl276 sl277 sl278 sl279 sl280 sl281 sl282 sl283 sl284 sl285 sl286 sl287 sl288 sl289 sl290 sl291 sl292 sl293 sl294 sl295 sl296 sl297 sl298 sl299 sl300 sl301 sl302 sl303 sl304 sl305 sl306 sl307 sl308 sl309 sl310 sl311 sl312 sl313 sl314 sl315 sl316 sl317 sl318 sl319 sl320 sl321 sl322 sl323 sl324 sl325 sl326 sl327 sl328 sl329 sl330 sl331 sl332 sl333 sl334 sl335 sl336 sl337 sl338 sl339 sl340 sl341 sl342 sl343 sl344 sl345 sl346 sl347 sl348 sl349 sl350 sl351 : Value) (wt : World) (Bw BO hb b3 mb N p3 q3 c2 : Nat) (q1 a2 : Option Addr) (P S B : List Nat)
  (hK : ∀ a w, Code.wp Tryz.prog (sndC (sndC (sndC (inC (fstC (sndC (inC (inC (sndC (fstC (sndC (sndC (sndC (sndC (sndC (sndC (Tryz.f186.body.getD .skip))))))))))))))))) Q a w → K a w)
  (hot : Own wt BO 126 (.slice q1 64 q3) (qvs (wL B 64))) (hkr : Rd wt (.slice a2 64 c2) (qvs KL)) (hh0 : Own wt Bw 126 (.slice (some ⟨hb, 0, none⟩) 8 b3) (qvs S)) (hrb : Rd wt (.slice (some ⟨mb, 0, none⟩) N p3) (bvs P))
  (hbn : ∀ x ∈ B, x < 256) (hsl : ∀ x ∈ S, x < 4294967296) (hsn : S.length = 8) (hmh : mb ≠ hb) (hbl : Bw ≤ hb) (hBw : Bw ≤ wt.heap.size)
  (hq : ∀ (f : Nat → Value) (w' : World), Own w' Bw 126 (.slice (some ⟨hb, 0, none⟩) 8 b3) (qvs (stepN S B)) → Rd w' (.slice (some ⟨mb, 0, none⟩) N p3) (bvs P) → Below Bw wt w' → Q .normal ⟨#[sl0, sl1, .slice a2 64 c2, sl3, sl4, sl5, sl6, .slice (some ⟨hb, 0, none⟩) 8 b3, sl8, sl9, sl10, sl11, sl12, sl13, .slice q1 64 q3, sl15, sl16, sl17, sl18, sl19, f 20, f 21, f 22, f 23, f 24, f 25, f 26, f 27, f 28, sl29, sl30, sl31, sl32, sl33, sl34, sl35, sl36, sl37, sl38, sl39, sl40, sl41, sl42, sl43, sl44, sl45, sl46, sl47, sl48, sl49, sl50, sl51, sl52, sl53, sl54, sl55, sl56, sl57, sl58, sl59, sl60, sl61, sl62, sl63, sl64, sl65, sl66, sl67, sl68, sl69, sl70, sl71, sl72, sl73, sl74, sl75, sl76, sl77, sl78, sl79, sl80, sl81, sl82, sl83, sl84, sl85, sl86, sl87, sl88, sl89, sl90, sl91, sl92, sl93, sl94, sl95, sl96, sl97, sl98, sl99, sl100, sl101, sl102, sl103, sl104, sl105, sl106, sl107, sl108, sl109, sl110, sl111, sl112, sl113, sl114, sl115, sl116, sl117, sl118, sl119, sl120, sl121, sl122, sl123, sl124, sl125, sl126, sl127, sl128, sl129, sl130, sl131, sl132, sl133, sl134, sl135, sl136, sl137, sl138, sl139, sl140, sl141, sl142, sl143, sl144, sl145, sl146, sl147, sl148, sl149, sl150, sl151, sl152, sl153, sl154, sl155, sl156, sl157, sl158, sl159, sl160, sl161, f 162, f 163, f 164, f 165, f 166, f 167, f 168, f 169, f 170, f 171, f 172, f 173, f 174, f 175, f 176, f 177, f 178, f 179, f 180, f 181, f 182, f 183, f 184, f 185, f 186, f 187, f 188, f 189, f 190, f 191, f 192, f 193, f 194, f 195, f 196, f 197, f 198, f 199, f 200, f 201, f 202, f 203, f 204, f 205, f 206, f 207, f 208, f 209, f 210, f 211, f 212, f 213, f 214, f 215, f 216, f 217, f 218, f 219, f 220, f 221, f 222, f 223, f 224, f 225, f 226, f 227, f 228, f 229, f 230, f 231, f 232, f 233, f 234, f 235, f 236, f 237, f 238, f 239, f 240, f 241, f 242, f 243, f 244, f 245, f 246, f 247, f 248, f 249, f 250, f 251, f 252, f 253, f 254, f 255, f 256, f 257, f 258, f 259, f 260, f 261, f 262, f 263, f 264, f 265, f 266, f 267, f 268, f 269, f 270, f 271, f 272, f 273, f 274, f 275, f 276, f 277, f 278, f 279, f 280, f 281, f 282, f 283, f 284, f 285, f 286, f 287, f 288, f 289, f 290, f 291, f 292, f 293, f 294, f 295, f 296, f 297, f 298, f 299, f 300, f 301, f 302, f 303, f 304, f 305, f 306, f 307, f 308, f 309, f 310, f 311, f 312, f 313, f 314, f 315, f 316, f 317, sl318, sl319, sl320, sl321, sl322, sl323, sl324, sl325, sl326, sl327, sl328, sl329, sl330, sl331, sl332, sl333, sl334, sl335, sl336, sl337, sl338, sl339, sl340, sl341, sl342, sl343, sl344, sl345, sl346, sl347, sl348, sl349, sl350, sl351], []⟩ w') :
  Code.wp Tryz.prog (fstC (sndC (sndC (inC (fstC (sndC (inC (inC (sndC (fstC (sndC (sndC (sndC (sndC (sndC (sndC (Tryz.f186.body.getD .skip))))))))))))))))) (Exit.then K Q) ⟨#[sl0, sl1, .slice a2 64 c2, sl3, sl4, sl5, sl6, .slice (some ⟨hb, 0, none⟩) 8 b3, sl8, sl9, sl10, sl11, sl12, sl13, .slice q1 64 q3, sl15, sl16, sl17, sl18, sl19, sl20, sl21, sl22, sl23, sl24, sl25, sl26, sl27, sl28, sl29, sl30, sl31, sl32, sl33, sl34, sl35, sl36, sl37, sl38, sl39, sl40, sl41, sl42, sl43, sl44, sl45, sl46, sl47, sl48, sl49, sl50, sl51, sl52, sl53, sl54, sl55, sl56, sl57, sl58, sl59, sl60, sl61, sl62, sl63, sl64, sl65, sl66, sl67, sl68, sl69, sl70, sl71, sl72, sl73, sl74, sl75, sl76, sl77, sl78, sl79, sl80, sl81, sl82, sl83, sl84, sl85, sl86, sl87, sl88, sl89, sl90, sl91, sl92, sl93, sl94, sl95, sl96, sl97, sl98, sl99, sl100, sl101, sl102, sl103, sl104, sl105, sl106, sl107, sl108, sl109, sl110, sl111, sl112, sl113, sl114, sl115, sl116, sl117, sl118, sl119, sl120, sl121, sl122, sl123, sl124, sl125, sl126, sl127, sl128, sl129, sl130, sl131, sl132, sl133, sl134, sl135, sl136, sl137, sl138, sl139, sl140, sl141, sl142, sl143, sl144, sl145, sl146, sl147, sl148, sl149, sl150, sl151, sl152, sl153, sl154, sl155, sl156, sl157, sl158, sl159, sl160, sl161, sl162, sl163, sl164, sl165, sl166, sl167, sl168, sl169, sl170, sl171, sl172, sl173, sl174, sl175, sl176, sl177, sl178, sl179, sl180, sl181, sl182, sl183, sl184, sl185, sl186, sl187, sl188, sl189, sl190, sl191, sl192, sl193, sl194, sl195, sl196, sl197, sl198, sl199, sl200, sl201, sl202, sl203, sl204, sl205, sl206, sl207, sl208, sl209, sl210, sl211, sl212, sl213, sl214, sl215, sl216, sl217, sl218, sl219, sl220, sl221, sl222, sl223, sl224, sl225, sl226, sl227, sl228, sl229, sl230, sl231, sl232, sl233, sl234, sl235, sl236, sl237, sl238, sl239, sl240, sl241, sl242, sl243, sl244, sl245, sl246, sl247, sl248, sl249, sl250, sl251, sl252, sl253, sl254, sl255, sl256, sl257, sl258, sl259, sl260, sl261, sl262, sl263, sl264, sl265, sl266, sl267, sl268, sl269, sl270, sl271, sl272, sl273, sl274, sl275, sl276, sl277, sl278, sl279, sl280, sl281, sl282, sl283, sl284, sl285, sl286, sl287, sl288, sl289, sl290, sl291, sl292, sl293, sl294, sl295, sl296, sl297, sl298, sl299, sl300, sl301, sl302, sl303, sl304, sl305, sl306, sl307, sl308, sl309, sl310, sl311, sl312, sl313, sl314, sl315, sl316, sl317, sl318, sl319, sl320, sl321, sl322, sl323, sl324, sl325, sl326, sl327, sl328, sl329, sl330, sl331, sl332, sl333, sl334, sl335, sl336, sl337, sl338, sl339, sl340, sl341, sl342, sl343, sl344, sl345, sl346, sl347, sl348, sl349, sl350, sl351], []⟩ wt := by
 have HKK0 := Lib.hid hK
 have HOT := Lib.hid hot
 have HKR := Lib.hid hkr
 have HH0 := Lib.hid hh0
 have HRB := Lib.hid hrb
 have HBN := Lib.hid hbn
 have HSL := Lib.hid hsl
 have HSN := Lib.hid hsn
 have HQ9 := Lib.hid hq
 clear hK hot hkr hh0 hrb hbn hsl hsn hq
 conv => arg 2; whnf
 obtain ⟨W, hW⟩ : ∃ W, W = wL B 64 := ⟨_, rfl⟩
 have hwn := wL_len B 64
 have hwl := wL_lt HBN.out 64
 rw [← hW] at HOT hwn hwl
 have HWW := Lib.hid hW
 have HWN := Lib.hid hwn
 have HWL := Lib.hid hwl
 have HQ0 := Lib.hid (show Own (wt.alloc (.cells #[] 126)) wt.heap.size 126 (.slice (some ⟨wt.heap.size, 0, none⟩) 0 0) [] from Own.lit0 rfl (Nat.le_refl _))
 have HHR := Lib.hid (HH0.out.rd.alloc (.cells #[] 126))
 clear hW hwn hwl
 go_wp2_with (first | (at_builtin; refine wpList_app rfl (.tmp 162) (.tmp 163) 192 rfl wt.heap.size 126 _ 8 qvsE _ _ rfl HQ0.out _ (qvs S) rfl HHR.out (qvs_one _) ?i2 ?i3 ?_))
 case i2 => rw [HSN.out]; omega
 rintro vv wv hown - hbv
 have HOV := Lib.hid (show Own wv wt.heap.size 126 vv (qvs (rndsN W S 0)) from hown)
 have HBV := Lib.hid (((Below.refl wt.heap.size wt).alloc (Nat.le_refl _) (.cells #[] 126)).trans hbv)
 clear hown hbv HQ0 HHR
 obtain ⟨v1, v2, v3, rfl⟩ := slOf HOV.out
 go_wp2_with fail
 refine HKK0.out _ _ ?_
 conv => arg 2; whnf
 go_wp2_with fail
 go_loopg [20, 21] 64 (fun q vv tv wr => ∃ t : Nat, t + q = 64 ∧ tv = .int .i64 (t : Nat) ∧ Own wr wt.heap.size 126 vv (qvs (rndsN W S t)) ∧ Below wt.heap.size wt wr)
 case atStart => exact ⟨0, rfl, rfl, HOV.out, HBV.out⟩
 case round =>
  obtain ⟨t, ht, rfl, hown, hbt⟩ := hrel
  have HT2 := Lib.hid ht
  have HOT2 := Lib.hid hown
  have HBT2 := Lib.hid hbt
  obtain ⟨u1, u2, u3, rfl⟩ := slOf hown
  obtain ⟨wv2, rfl⟩ : ∃ wv2 : World, wv2 = wr := ⟨_, rfl⟩
  obtain ⟨g6, rfl⟩ : ∃ g6, g6 = gk := ⟨_, rfl⟩
  obtain ⟨V, hV⟩ : ∃ V, V = rndsN W S t := ⟨_, rfl⟩
  have hvo := rndsN_ok (W := W) HSN.out HSL.out t
  rw [← hV] at hvo hown
  have HV := Lib.hid hV
  have HRW := Lib.hid (HOT.out.rd.below hbt (Nat.le_refl _))
  have HRK := Lib.hid (HKR.out.below hbt (Nat.le_refl _))
  obtain rfl : u2 = 8 := by
   obtain ⟨_, _, e, _⟩ := hown.rd
   simp only [Value.slice.injEq, qvs_len, hvo.1] at e
   exact e.2.1
  obtain ⟨gv, hu1, hgv⟩ : ∃ g, u1 = some ⟨g, 0, none⟩ ∧ wt.heap.size ≤ g := by
   rcases hown.2 with ⟨e, e0⟩ | ⟨g, cp, cur, e, hb, _⟩
   ·simp only [Value.slice.injEq] at e; omega
   ·simp only [Value.slice.injEq] at e; exact ⟨g, e.1, hb⟩
  subst hu1
  by_cases hlt : t < 64
  ·have hltd : decide ((t : Int) < 64) = true := by rw [decide_eq_true_iff]; omega
   have XC := fun (j : Nat) (hj : j < 8) => (hown.at).1 j _ (qvs_get (L := V) (i := j) (by rw [hvo.1]; exact hj))
   have XL := fun (i : Nat) => getD_lt32 hvo.2 i
   have ck := HRK.out.at3 (qvs_get (L := KL) (i := t) (by rw [KL_len]; exact hlt))
   have cw := HRW.out.at3 (qvs_get (L := W) (i := t) (by rw [HWN.out]; exact hlt))
   have hkl := getD_lt32 KL_lt t
   have hwl := getD_lt32 HWL.out t
   obtain ⟨kb, ko, rfl, hkb, ck⟩ := ck
   obtain ⟨ob, oo, rfl, hob, cw⟩ := cw
   have x0 := XC 0 (by omega)
   have xv0 := XL 0
   obtain ⟨v0, e0⟩ : ∃ v, v = V.getD 0 0 := ⟨_, rfl⟩
   rw [← e0] at x0 xv0
   have x1 := XC 1 (by omega)
   have xv1 := XL 1
   obtain ⟨v1, e1⟩ : ∃ v, v = V.getD 1 0 := ⟨_, rfl⟩
   rw [← e1] at x1 xv1
   have x2 := XC 2 (by omega)
   have xv2 := XL 2
   obtain ⟨v2, e2⟩ : ∃ v, v = V.getD 2 0 := ⟨_, rfl⟩
   rw [← e2] at x2 xv2
   have x3 := XC 3 (by omega)
   have xv3 := XL 3
   obtain ⟨v3, e3⟩ : ∃ v, v = V.getD 3 0 := ⟨_, rfl⟩
   rw [← e3] at x3 xv3
   have x4 := XC 4 (by omega)
   have xv4 := XL 4
   obtain ⟨v4, e4⟩ : ∃ v, v = V.getD 4 0 := ⟨_, rfl⟩
   rw [← e4] at x4 xv4
   have x5 := XC 5 (by omega)
   have xv5 := XL 5
   obtain ⟨v5, e5⟩ : ∃ v, v = V.getD 5 0 := ⟨_, rfl⟩
   rw [← e5] at x5 xv5
   have x6 := XC 6 (by omega)
   have xv6 := XL 6
   obtain ⟨v6, e6⟩ : ∃ v, v = V.getD 6 0 := ⟨_, rfl⟩
   rw [← e6] at x6 xv6
   have x7 := XC 7 (by omega)
   have xv7 := XL 7
   obtain ⟨v7, e7⟩ : ∃ v, v = V.getD 7 0 := ⟨_, rfl⟩
   rw [← e7] at x7 xv7
   obtain ⟨kk, ekk⟩ : ∃ v, v = KL.getD t 0 := ⟨_, rfl⟩
   obtain ⟨ww, eww⟩ : ∃ v, v = W.getD t 0 := ⟨_, rfl⟩
   rw [← ekk] at ck hkl
   rw [← eww] at cw hwl
   have HVL := Lib.hid (show V = [v0, v1, v2, v3, v4, v5, v6, v7] from by
    refine ext_getD (by rw [hvo.1]; rfl) fun j hj => ?_
    rw [hvo.1] at hj
    rcases (show j = 0 ∨ j = 1 ∨ j = 2 ∨ j = 3 ∨ j = 4 ∨ j = 5 ∨ j = 6 ∨ j = 7 by omega) with rfl | rfl | rfl | rfl | rfl | rfl | rfl | rfl
    ·exact e0.symm
    ·exact e1.symm
    ·exact e2.symm
    ·exact e3.symm
    ·exact e4.symm
    ·exact e5.symm
    ·exact e6.symm
    ·exact e7.symm)
   have HEK := Lib.hid ekk
   have HEW := Lib.hid eww
   clear e0 e1 e2 e3 e4 e5 e6 e7 ekk eww XC XL hvo hV hown hbt ht
   go_wp2_with fail
   go_loopg [22, 23, 24, 25] 32 (fun q cv mv uv iv wr => ∃ i ch ma un : Nat, i + q = 32 ∧ un = 2 ^ i ∧ ch = chN v4 v5 v6 % 2 ^ i ∧ ma = majN v0 v1 v2 % 2 ^ i ∧ cv = .int .u64 (ch : Nat) ∧ mv = .int .u64 (ma : Nat) ∧ uv = .int .u64 (un : Nat) ∧ iv = .int .i64 (i : Nat) ∧ ∃ md, wr = wv2.drewN md)
   case atStart => exact ⟨0, 0, 0, 1, rfl, rfl, (Nat.mod_one _).symm, (Nat.mod_one _).symm, rfl, rfl, rfl, rfl, 0, rfl⟩
   case round =>
    obtain ⟨i, ch, ma, un, hi, hun, hch, hma, rfl, rfl, rfl, rfl, md, rfl⟩ := hrel
    have HI := Lib.hid hi
    have HUN := Lib.hid hun
    have HCH := Lib.hid hch
    have HMA := Lib.hid hma
    have un0 : 0 < un := by rw [hun]; exact Nat.pow_pos (by omega)
    have un1 : un ≤ 4294967296 := by rw [hun]; exact pow2_32 (by omega)
    have chl : ch < un := by rw [hch, ← hun]; exact Nat.mod_lt _ un0
    have mal : ma < un := by rw [hma, ← hun]; exact Nat.mod_lt _ un0
    by_cases hi32 : i < 32
    ·have hid : decide ((i : Int) < 32) = true := by rw [decide_eq_true_iff]; omega
     have un2 : un ≤ 2147483648 := by rw [hun]; exact pow2_31 hi32
     have unz : ¬ un = 0 := by omega
     have unz' : ¬ (un : Int) = 0 := by omega
     obtain ⟨d0, hd0⟩ : ∃ d, d = v0 / un := ⟨_, rfl⟩
     have dq0 : (v0 : Int) / (un : Int) = (d0 : Int) := by rw [hd0, Int.natCast_ediv]
     have dl0 : d0 < 4294967296 := Nat.lt_of_le_of_lt (by rw [hd0]; exact Nat.div_le_self _ _) xv0
     obtain ⟨b0, hbb0⟩ : ∃ b, b = d0 % 2 := ⟨_, rfl⟩
     have bq0 : (d0 : Int) % 2 = (b0 : Int) := by omega
     have bl0 : b0 < 2 := by omega
     have HD0 := Lib.hid (show b0 = v0 / 2 ^ i % 2 by rw [hbb0, hd0, hun])
     obtain ⟨d1, hd1⟩ : ∃ d, d = v1 / un := ⟨_, rfl⟩
     have dq1 : (v1 : Int) / (un : Int) = (d1 : Int) := by rw [hd1, Int.natCast_ediv]
     have dl1 : d1 < 4294967296 := Nat.lt_of_le_of_lt (by rw [hd1]; exact Nat.div_le_self _ _) xv1
     obtain ⟨b1, hbb1⟩ : ∃ b, b = d1 % 2 := ⟨_, rfl⟩
     have bq1 : (d1 : Int) % 2 = (b1 : Int) := by omega
     have bl1 : b1 < 2 := by omega
     have HD1 := Lib.hid (show b1 = v1 / 2 ^ i % 2 by rw [hbb1, hd1, hun])
     obtain ⟨d2, hd2⟩ : ∃ d, d = v2 / un := ⟨_, rfl⟩
     have dq2 : (v2 : Int) / (un : Int) = (d2 : Int) := by rw [hd2, Int.natCast_ediv]
     have dl2 : d2 < 4294967296 := Nat.lt_of_le_of_lt (by rw [hd2]; exact Nat.div_le_self _ _) xv2
     obtain ⟨b2, hbb2⟩ : ∃ b, b = d2 % 2 := ⟨_, rfl⟩
     have bq2 : (d2 : Int) % 2 = (b2 : Int) := by omega
     have bl2 : b2 < 2 := by omega
     have HD2 := Lib.hid (show b2 = v2 / 2 ^ i % 2 by rw [hbb2, hd2, hun])
     obtain ⟨d4, hd4⟩ : ∃ d, d = v4 / un := ⟨_, rfl⟩
     have dq4 : (v4 : Int) / (un : Int) = (d4 : Int) := by rw [hd4, Int.natCast_ediv]
     have dl4 : d4 < 4294967296 := Nat.lt_of_le_of_lt (by rw [hd4]; exact Nat.div_le_self _ _) xv4
     obtain ⟨b4, hbb4⟩ : ∃ b, b = d4 % 2 := ⟨_, rfl⟩
     have bq4 : (d4 : Int) % 2 = (b4 : Int) := by omega
     have bl4 : b4 < 2 := by omega
     have HD4 := Lib.hid (show b4 = v4 / 2 ^ i % 2 by rw [hbb4, hd4, hun])
     obtain ⟨d5, hd5⟩ : ∃ d, d = v5 / un := ⟨_, rfl⟩
     have dq5 : (v5 : Int) / (un : Int) = (d5 : Int) := by rw [hd5, Int.natCast_ediv]
     have dl5 : d5 < 4294967296 := Nat.lt_of_le_of_lt (by rw [hd5]; exact Nat.div_le_self _ _) xv5
     obtain ⟨b5, hbb5⟩ : ∃ b, b = d5 % 2 := ⟨_, rfl⟩
     have bq5 : (d5 : Int) % 2 = (b5 : Int) := by omega
     have bl5 : b5 < 2 := by omega
     have HD5 := Lib.hid (show b5 = v5 / 2 ^ i % 2 by rw [hbb5, hd5, hun])
     obtain ⟨d6, hd6⟩ : ∃ d, d = v6 / un := ⟨_, rfl⟩
     have dq6 : (v6 : Int) / (un : Int) = (d6 : Int) := by rw [hd6, Int.natCast_ediv]
     have dl6 : d6 < 4294967296 := Nat.lt_of_le_of_lt (by rw [hd6]; exact Nat.div_le_self _ _) xv6
     obtain ⟨b6, hbb6⟩ : ∃ b, b = d6 % 2 := ⟨_, rfl⟩
     have bq6 : (d6 : Int) % 2 = (b6 : Int) := by omega
     have bl6 : b6 < 2 := by omega
     have HD6 := Lib.hid (show b6 = v6 / 2 ^ i % 2 by rw [hbb6, hd6, hun])
     obtain ⟨p5, hp5⟩ : ∃ p, p = b5 * un := ⟨_, rfl⟩
     obtain ⟨p6, hp6⟩ : ∃ p, p = b6 * un := ⟨_, rfl⟩
     have pq5 : (b5 : Int) * (un : Int) = (p5 : Int) := by rw [hp5, Int.natCast_mul]
     have pq6 : (b6 : Int) * (un : Int) = (p6 : Int) := by rw [hp6, Int.natCast_mul]
     have pl5 : p5 ≤ 2147483648 := by rw [hp5]; rcases (show b5 = 0 ∨ b5 = 1 by omega) with h | h <;> rw [h] <;> omega
     have pl6 : p6 ≤ 2147483648 := by rw [hp6]; rcases (show b6 = 0 ∨ b6 = 1 by omega) with h | h <;> rw [h] <;> omega
     have HP5 := Lib.hid hp5
     have HP6 := Lib.hid hp6
     clear hi hun hch hma hp5 hp6 hd0 hd1 hd2 hd4 hd5 hd6 hbb0 hbb1 hbb2 hbb4 hbb5 hbb6
     rcases Nat.decEq b4 1 with hb4 | hb4 <;> rcases Nat.decLe 2 (b0 + b1 + b2) with hm | hm
     ·have hb4d : ((b4 : Int) == 1) = false := by simp; omega
      have hmd : decide (((b0 : Int) + (b1 : Int) + (b2 : Int)) ≥ 2) = false := by rw [decide_eq_false_iff_not]; omega
      have hmd' : decide (2 ≤ ((b0 : Int) + (b1 : Int) + (b2 : Int))) = false := by rw [decide_eq_false_iff_not]; omega
      go_wp2_with fail
      go_quiet (fail)
      go_wp2_with fail
      go_roundg (gk - 1)
      case measure => have := HI.out; omega
      case rel =>
       refine ⟨i + 1, ch + p6, ma, 2 * un, by have := HI.out; omega, by rw [HUN.out, Nat.pow_succ, Nat.mul_comm], ?_, ?_, by go_num, by go_num, by go_num, by go_num, md + nq, rfl⟩
       ·rw [mod_succ, chN_bit xv4 hi32, ← HD4.out, ← HD5.out, ← HD6.out, if_neg hb4, ← HCH.out, ← HUN.out, ← HP6.out]
       ·rw [mod_succ, majN_bit, ← HD0.out, ← HD1.out, ← HD2.out, if_neg hm, ← HMA.out, ← HUN.out]; omega
     ·have hb4d : ((b4 : Int) == 1) = false := by simp; omega
      have hmd : decide (((b0 : Int) + (b1 : Int) + (b2 : Int)) ≥ 2) = true := by rw [decide_eq_true_iff]; omega
      have hmd' : decide (2 ≤ ((b0 : Int) + (b1 : Int) + (b2 : Int))) = true := by rw [decide_eq_true_iff]; omega
      go_wp2_with fail
      go_quiet (fail)
      go_wp2_with fail
      go_roundg (gk - 1)
      case measure => have := HI.out; omega
      case rel =>
       refine ⟨i + 1, ch + p6, ma + un, 2 * un, by have := HI.out; omega, by rw [HUN.out, Nat.pow_succ, Nat.mul_comm], ?_, ?_, by go_num, by go_num, by go_num, by go_num, md + nq, rfl⟩
       ·rw [mod_succ, chN_bit xv4 hi32, ← HD4.out, ← HD5.out, ← HD6.out, if_neg hb4, ← HCH.out, ← HUN.out, ← HP6.out]
       ·rw [mod_succ, majN_bit, ← HD0.out, ← HD1.out, ← HD2.out, if_pos hm, ← HMA.out, ← HUN.out]; rw [Nat.one_mul]
     ·have hb4d : ((b4 : Int) == 1) = true := by simp; omega
      have hmd : decide (((b0 : Int) + (b1 : Int) + (b2 : Int)) ≥ 2) = false := by rw [decide_eq_false_iff_not]; omega
      have hmd' : decide (2 ≤ ((b0 : Int) + (b1 : Int) + (b2 : Int))) = false := by rw [decide_eq_false_iff_not]; omega
      go_wp2_with fail
      go_quiet (fail)
      go_wp2_with fail
      go_roundg (gk - 1)
      case measure => have := HI.out; omega
      case rel =>
       refine ⟨i + 1, ch + p5, ma, 2 * un, by have := HI.out; omega, by rw [HUN.out, Nat.pow_succ, Nat.mul_comm], ?_, ?_, by go_num, by go_num, by go_num, by go_num, md + nq, rfl⟩
       ·rw [mod_succ, chN_bit xv4 hi32, ← HD4.out, ← HD5.out, ← HD6.out, if_pos hb4, ← HCH.out, ← HUN.out, ← HP5.out]
       ·rw [mod_succ, majN_bit, ← HD0.out, ← HD1.out, ← HD2.out, if_neg hm, ← HMA.out, ← HUN.out]; omega
     ·have hb4d : ((b4 : Int) == 1) = true := by simp; omega
      have hmd : decide (((b0 : Int) + (b1 : Int) + (b2 : Int)) ≥ 2) = true := by rw [decide_eq_true_iff]; omega
      have hmd' : decide (2 ≤ ((b0 : Int) + (b1 : Int) + (b2 : Int))) = true := by rw [decide_eq_true_iff]; omega
      go_wp2_with fail
      go_quiet (fail)
      go_wp2_with fail
      go_roundg (gk - 1)
      case measure => have := HI.out; omega
      case rel =>
       refine ⟨i + 1, ch + p5, ma + un, 2 * un, by have := HI.out; omega, by rw [HUN.out, Nat.pow_succ, Nat.mul_comm], ?_, ?_, by go_num, by go_num, by go_num, by go_num, md + nq, rfl⟩
       ·rw [mod_succ, chN_bit xv4 hi32, ← HD4.out, ← HD5.out, ← HD6.out, if_pos hb4, ← HCH.out, ← HUN.out, ← HP5.out]
       ·rw [mod_succ, majN_bit, ← HD0.out, ← HD1.out, ← HD2.out, if_pos hm, ← HMA.out, ← HUN.out]; rw [Nat.one_mul]
    ·obtain rfl : i = 32 := by omega
     have hch32 : ch = chN v4 v5 v6 := by rw [hch]; exact mod_full (chN_lt xv4)
     have hma32 : ma = majN v0 v1 v2 := by rw [hma]; exact mod_full (majN_lt xv0 xv1)
     have hcl : ch < 4294967296 := by rw [hch32]; exact chN_lt xv4
     have hml : ma < 4294967296 := by rw [hma32]; exact majN_lt xv0 xv1
     have HCE := Lib.hid hch32
     have HME := Lib.hid hma32
     clear hi hun hch hma hch32 hma32 hi32 chl mal un0 un1 HI HUN HCH HMA
     obtain ⟨r1, hr1⟩ : ∃ r, r = rot v4 6 := ⟨_, rfl⟩
     obtain ⟨r2, hr2⟩ : ∃ r, r = rot v4 11 := ⟨_, rfl⟩
     obtain ⟨r3, hr3⟩ : ∃ r, r = rot v4 25 := ⟨_, rfl⟩
     obtain ⟨r4, hr4⟩ : ∃ r, r = rot v0 2 := ⟨_, rfl⟩
     obtain ⟨r5, hr5⟩ : ∃ r, r = rot v0 13 := ⟨_, rfl⟩
     obtain ⟨r6, hr6⟩ : ∃ r, r = rot v0 22 := ⟨_, rfl⟩
     have R1 := Lib.hid (fun W => turnZ v4 6 r1 6 rfl xv4 (by omega) hr1 W)
     have R2 := Lib.hid (fun W => turnZ v4 11 r2 11 rfl xv4 (by omega) hr2 W)
     have R3 := Lib.hid (fun W => turnZ v4 25 r3 25 rfl xv4 (by omega) hr3 W)
     have R4 := Lib.hid (fun W => turnZ v0 2 r4 2 rfl xv0 (by omega) hr4 W)
     have R5 := Lib.hid (fun W => turnZ v0 13 r5 13 rfl xv0 (by omega) hr5 W)
     have R6 := Lib.hid (fun W => turnZ v0 22 r6 22 rfl xv0 (by omega) hr6 W)
     have y1 : r1 < 4294967296 := by rw [hr1]; exact rot_lt xv4 (by omega)
     have y2 : r2 < 4294967296 := by rw [hr2]; exact rot_lt xv4 (by omega)
     have y3 : r3 < 4294967296 := by rw [hr3]; exact rot_lt xv4 (by omega)
     have y4 : r4 < 4294967296 := by rw [hr4]; exact rot_lt xv0 (by omega)
     have y5 : r5 < 4294967296 := by rw [hr5]; exact rot_lt xv0 (by omega)
     have y6 : r6 < 4294967296 := by rw [hr6]; exact rot_lt xv0 (by omega)
     have X1 := u64_xor_nat r1 r2 (by omega) (by omega)
     have X2 := u64_xor_nat (r1 ^^^ r2) r3 (by have := xor_lt32 y1 y2; omega) (by omega)
     have X3 := u64_xor_nat r4 r5 (by omega) (by omega)
     have X4 := u64_xor_nat (r4 ^^^ r5) r6 (by have := xor_lt32 y4 y5; omega) (by omega)
     obtain ⟨z1, hz1⟩ : ∃ z, z = r1 ^^^ r2 := ⟨_, rfl⟩
     obtain ⟨z3, hz3⟩ : ∃ z, z = r4 ^^^ r5 := ⟨_, rfl⟩
     rw [← hz1] at X1 X2
     rw [← hz3] at X3 X4
     obtain ⟨sg, hsg⟩ : ∃ z, z = z1 ^^^ r3 := ⟨_, rfl⟩
     obtain ⟨s0, hs0⟩ : ∃ z, z = z3 ^^^ r6 := ⟨_, rfl⟩
     rw [← hsg] at X2
     rw [← hs0] at X4
     have HSG := Lib.hid (show sg = S1N v4 by rw [hsg, hz1, hr1, hr2, hr3]; rfl)
     have HS0 := Lib.hid (show s0 = S0N v0 by rw [hs0, hz3, hr4, hr5, hr6]; rfl)
     have sgl : sg < 4294967296 := by rw [HSG.out]; exact S1N_lt xv4
     have s0l : s0 < 4294967296 := by rw [HS0.out]; exact S0N_lt xv0
     clear hr1 hr2 hr3 hr4 hr5 hr6 hz1 hz3 hsg hs0
     go_wp2_with fail
     go_quiet ((go_at_call 233; first | with_reducible exact quiet2 (R1.out _) | with_reducible exact quiet2 (R2.out _) | with_reducible exact quiet2 (R3.out _)))
     obtain ⟨na, rfl⟩ : ∃ na, na = nq := ⟨_, rfl⟩
     go_wp2_with fail
     go_quiet ((go_at_call 233; first | with_reducible exact quiet2 (R4.out _) | with_reducible exact quiet2 (R5.out _) | with_reducible exact quiet2 (R6.out _)))
     obtain ⟨nd, rfl⟩ : ∃ nd, nd = nq := ⟨_, rfl⟩
     go_wp2_with fail
     obtain ⟨t1, ht1⟩ : ∃ z : Nat, z = v7 + sg + ch + kk + ww := ⟨_, rfl⟩
     obtain ⟨t2, ht2⟩ : ∃ z : Nat, z = s0 + ma := ⟨_, rfl⟩
     have e1 : (v7 : Int) + (sg : Int) + (ch : Int) + (kk : Int) + (ww : Int) = (t1 : Int) := by omega
     have e2 : (s0 : Int) + (ma : Int) = (t2 : Int) := by omega
     have t1l : t1 < 21474836480 := by omega
     have t2l : t2 < 8589934592 := by omega
     simp only [e1, e2]
     obtain ⟨wz, hwz⟩ : ∃ X, X = ((wv2.drewN md).drewN na).drewN nd := ⟨_, rfl⟩
     rw [← hwz]
     have HBZ := Lib.hid (show Below wt.heap.size wt wz by rw [hwz]; exact below_drewN' (below_drewN' (below_drewN' HBT2.out _) _) _)
     have hgl : gv < wz.heap.size := by rw [hwz]; exact World.block_lt_of_cell? wv2 ⟨gv, 0, none⟩ x0
     have k0 : wz.cell? ⟨gv, 0, none⟩ = some (.int .u64 (v0 : Int)) := by rw [hwz]; exact x0
     have k1 : wz.cell? ⟨gv, 1, none⟩ = some (.int .u64 (v1 : Int)) := by rw [hwz]; exact x1
     have k2 : wz.cell? ⟨gv, 2, none⟩ = some (.int .u64 (v2 : Int)) := by rw [hwz]; exact x2
     have k3 : wz.cell? ⟨gv, 3, none⟩ = some (.int .u64 (v3 : Int)) := by rw [hwz]; exact x3
     have k4 : wz.cell? ⟨gv, 4, none⟩ = some (.int .u64 (v4 : Int)) := by rw [hwz]; exact x4
     have k5 : wz.cell? ⟨gv, 5, none⟩ = some (.int .u64 (v5 : Int)) := by rw [hwz]; exact x5
     have k6 : wz.cell? ⟨gv, 6, none⟩ = some (.int .u64 (v6 : Int)) := by rw [hwz]; exact x6
     obtain ⟨o1, ho1⟩ : ∃ z : Nat, z = (t1 + t2) % 4294967296 := ⟨_, rfl⟩
     obtain ⟨o5, ho5⟩ : ∃ z : Nat, z = (v3 + t1) % 4294967296 := ⟨_, rfl⟩
     have HV1 := Lib.hid (show [o1, v0, v1, v2, o5, v4, v5, v6] = rndsN W S (t + 1) by
      rw [rndsN, ← HV.out, HVL.out]
      unfold rnd
      simp only [List.getD_cons_zero, List.getD_cons_succ]
      rw [← HSG.out, ← HS0.out, ← HCE.out, ← HME.out, ← HEK.out, ← HEW.out, ← ht1, ← ht2, ← ho1, ← ho5])
     have o1l : o1 < 4294967296 := by omega
     have o5l : o5 < 4294967296 := by omega
     have HO1 := Lib.hid ho1
     have HO5 := Lib.hid ho5
     clear x0 x1 x2 x3 x4 x5 x6 x7 hwz ht1 ht2 ck cw e1 e2 ho1 ho5
     refine wp_region_once [fun v _ => v = .int .u64 (t1 : Nat), fun v _ => v = .int .u64 (t2 : Nat), fun v _ => v = .int .u64 ((t1 : Int) + (t2 : Int)), fun v _ => v = .int .u64 (o1 : Nat), fun v _ => v = .slice (some ⟨gv, 0, none⟩) 8 u3, fun v _ => v = .pointer (some ⟨gv, 0, none⟩), fun v _ => v = .int .u64 (v0 : Nat), fun v _ => v = .slice (some ⟨gv, 0, none⟩) 8 u3, fun v _ => v = .pointer (some ⟨gv, 1, none⟩), fun v _ => v = .int .u64 (v1 : Nat), fun v _ => v = .slice (some ⟨gv, 0, none⟩) 8 u3, fun v _ => v = .pointer (some ⟨gv, 2, none⟩), fun v _ => v = .int .u64 (v2 : Nat), fun v _ => v = .slice (some ⟨gv, 0, none⟩) 8 u3, fun v _ => v = .pointer (some ⟨gv, 3, none⟩), fun v _ => v = .int .u64 (v3 : Nat), fun v _ => v = .int .u64 (t1 : Nat), fun v _ => v = .int .u64 ((v3 : Int) + (t1 : Int)), fun v _ => v = .int .u64 (o5 : Nat), fun v _ => v = .slice (some ⟨gv, 0, none⟩) 8 u3, fun v _ => v = .pointer (some ⟨gv, 4, none⟩), fun v _ => v = .int .u64 (v4 : Nat), fun v _ => v = .slice (some ⟨gv, 0, none⟩) 8 u3, fun v _ => v = .pointer (some ⟨gv, 5, none⟩), fun v _ => v = .int .u64 (v5 : Nat), fun v _ => v = .slice (some ⟨gv, 0, none⟩) 8 u3, fun v _ => v = .pointer (some ⟨gv, 6, none⟩), fun v _ => v = .int .u64 (v6 : Nat), fun v w' => Own w' wz.heap.size 126 v [.int .u64 (o1 : Nat), .int .u64 (v0 : Nat), .int .u64 (v1 : Nat), .int .u64 (v2 : Nat), .int .u64 (o5 : Nat), .int .u64 (v4 : Nat), .int .u64 (v5 : Nat), .int .u64 (v6 : Nat)], fun v w' => Own w' wz.heap.size 126 v [.int .u64 (o1 : Nat), .int .u64 (v0 : Nat), .int .u64 (v1 : Nat), .int .u64 (v2 : Nat), .int .u64 (o5 : Nat), .int .u64 (v4 : Nat), .int .u64 (v5 : Nat), .int .u64 (v6 : Nat)]]
      (by kernel_rfl) ?_ (by kernel_rfl) (by kernel_rfl) ?_ ?_
     ·exact keeps_cons (fun _ _ _ h _ => h) (keeps_cons (fun _ _ _ h _ => h) (keeps_cons (fun _ _ _ h _ => h) (keeps_cons (fun _ _ _ h _ => h) (keeps_cons (fun _ _ _ h _ => h) (keeps_cons (fun _ _ _ h _ => h) (keeps_cons (fun _ _ _ h _ => h) (keeps_cons (fun _ _ _ h _ => h) (keeps_cons (fun _ _ _ h _ => h) (keeps_cons (fun _ _ _ h _ => h) (keeps_cons (fun _ _ _ h _ => h) (keeps_cons (fun _ _ _ h _ => h) (keeps_cons (fun _ _ _ h _ => h) (keeps_cons (fun _ _ _ h _ => h) (keeps_cons (fun _ _ _ h _ => h) (keeps_cons (fun _ _ _ h _ => h) (keeps_cons (fun _ _ _ h _ => h) (keeps_cons (fun _ _ _ h _ => h) (keeps_cons (fun _ _ _ h _ => h) (keeps_cons (fun _ _ _ h _ => h) (keeps_cons (fun _ _ _ h _ => h) (keeps_cons (fun _ _ _ h _ => h) (keeps_cons (fun _ _ _ h _ => h) (keeps_cons (fun _ _ _ h _ => h) (keeps_cons (fun _ _ _ h _ => h) (keeps_cons (fun _ _ _ h _ => h) (keeps_cons (fun _ _ _ h _ => h) (keeps_cons (fun _ _ _ h _ => h) (keeps_cons (fun v w1 w2 h hb => Own.below h hb (Nat.le_refl _)) (keeps_cons (fun v w1 w2 h hb => Own.below h hb (Nat.le_refl _)) (keeps_nil))))))))))))))))))))))))))))))
     ·refine .cons (owed_go rfl ?_) (.cons (owed_go rfl ?_) (.cons (owed_go rfl ?_) (.cons (owed_go rfl ?_) (.cons (owed_go rfl ?_) (.cons (owed_go rfl ?_) (.cons (owed_go rfl ?_) (.cons (owed_go rfl ?_) (.cons (owed_go rfl ?_) (.cons (owed_go rfl ?_) (.cons (owed_go rfl ?_) (.cons (owed_go rfl ?_) (.cons (owed_go rfl ?_) (.cons (owed_go rfl ?_) (.cons (owed_go rfl ?_) (.cons (owed_go rfl ?_) (.cons (owed_go rfl ?_) (.cons (owed_go rfl ?_) (.cons (owed_go rfl ?_) (.cons (owed_go rfl ?_) (.cons (owed_go rfl ?_) (.cons (owed_go rfl ?_) (.cons (owed_go rfl ?_) (.cons (owed_go rfl ?_) (.cons (owed_go rfl ?_) (.cons (owed_go rfl ?_) (.cons (owed_go rfl ?_) (.cons (owed_go rfl ?_) (.cons (owed_go rfl ?_) (.cons (owed_go rfl ?_) (.nil))))))))))))))))))))))))))))))
      ·intro a wx hbx ho hf K hK
       have e0 : a.tmps[26]?.getD undef = .int .u64 (t1 : Nat) := ho 26 (by kernel_rfl)
       go_simp
       exact hK _ _ rfl (Below.refl _ _)
      ·intro a wx hbx ho hf K hK
       have e0 : a.tmps[27]?.getD undef = .int .u64 (t2 : Nat) := ho 27 (by kernel_rfl)
       go_simp
       exact hK _ _ rfl (Below.refl _ _)
      ·intro a wx hbx ho hf K hK
       have e0 : a.tmps[272]?.getD undef = .int .u64 (t1 : Nat) := hf.1
       have e1 : a.tmps[273]?.getD undef = .int .u64 (t2 : Nat) := hf.2.1
       have gw1 : IntKind.u64.wrap (((t1 : Int) + (t2 : Int))) = ((t1 : Int) + (t2 : Int)) := by rw [IntKind.wrap_u64]; omega
       have gw2 : (t1 : Int) + (t2 : Int) = ((t1 : Int) + (t2 : Int)) := by omega
       have gw3 : IntKind.u64.wrap ((t1 : Int) + (t2 : Int)) = ((t1 : Int) + (t2 : Int)) := by rw [gw2]; exact gw1
       go_simp
       exact hK _ _ rfl (Below.refl _ _)
      ·intro a wx hbx ho hf K hK
       have e0 : a.tmps[274]?.getD undef = .int .u64 ((t1 : Int) + (t2 : Int)) := hf.1
       have gw0 : ((t1 : Int) + (t2 : Int)) % 4294967296 = (o1 : Int) := by have := HO1.out; omega
       have gw1 : IntKind.u64.wrap ((o1 : Int)) = (o1 : Int) := by rw [IntKind.wrap_u64]; omega
       have gw2 : ((t1 : Int) + (t2 : Int)) % 4294967296 = (o1 : Int) := by omega
       have gw3 : IntKind.u64.wrap (((t1 : Int) + (t2 : Int)) % 4294967296) = (o1 : Int) := by rw [gw2]; exact gw1
       have gw4 : Int.tmod (((t1 : Int) + (t2 : Int))) 4294967296 = (o1 : Int) := by rw [Int.tmod_eq_emod_of_nonneg (by omega)]; omega
       have gw5 : IntKind.u64.wrap (Int.tmod (((t1 : Int) + (t2 : Int))) 4294967296) = (o1 : Int) := by rw [gw4]; exact gw1
       go_simp
       exact hK _ _ rfl (Below.refl _ _)
      ·intro a wx hbx ho hf K hK
       have e0 : a.tmps[20]?.getD undef = .slice (some ⟨gv, 0, none⟩) 8 u3 := ho 20 (by kernel_rfl)
       go_simp
       exact hK _ _ rfl (Below.refl _ _)
      ·intro a wx hbx ho hf K hK
       have e0 : a.tmps[276]?.getD undef = .slice (some ⟨gv, 0, none⟩) 8 u3 := hf.1
       go_simp
       exact hK _ _ rfl (Below.refl _ _)
      ·intro a wx hbx ho hf K hK
       have e0 : a.tmps[277]?.getD undef = .pointer (some ⟨gv, 0, none⟩) := hf.1
       have d1 := (hbx.cell (p := ⟨gv, 0, none⟩) hgl).trans k0
       go_simp
       exact hK _ _ rfl (Below.refl _ _)
      ·intro a wx hbx ho hf K hK
       have e0 : a.tmps[20]?.getD undef = .slice (some ⟨gv, 0, none⟩) 8 u3 := ho 20 (by kernel_rfl)
       go_simp
       exact hK _ _ rfl (Below.refl _ _)
      ·intro a wx hbx ho hf K hK
       have e0 : a.tmps[279]?.getD undef = .slice (some ⟨gv, 0, none⟩) 8 u3 := hf.1
       go_simp
       exact hK _ _ rfl (Below.refl _ _)
      ·intro a wx hbx ho hf K hK
       have e0 : a.tmps[280]?.getD undef = .pointer (some ⟨gv, 1, none⟩) := hf.1
       have d1 := (hbx.cell (p := ⟨gv, 1, none⟩) hgl).trans k1
       go_simp
       exact hK _ _ rfl (Below.refl _ _)
      ·intro a wx hbx ho hf K hK
       have e0 : a.tmps[20]?.getD undef = .slice (some ⟨gv, 0, none⟩) 8 u3 := ho 20 (by kernel_rfl)
       go_simp
       exact hK _ _ rfl (Below.refl _ _)
      ·intro a wx hbx ho hf K hK
       have e0 : a.tmps[282]?.getD undef = .slice (some ⟨gv, 0, none⟩) 8 u3 := hf.1
       go_simp
       exact hK _ _ rfl (Below.refl _ _)
      ·intro a wx hbx ho hf K hK
       have e0 : a.tmps[283]?.getD undef = .pointer (some ⟨gv, 2, none⟩) := hf.1
       have d1 := (hbx.cell (p := ⟨gv, 2, none⟩) hgl).trans k2
       go_simp
       exact hK _ _ rfl (Below.refl _ _)
      ·intro a wx hbx ho hf K hK
       have e0 : a.tmps[20]?.getD undef = .slice (some ⟨gv, 0, none⟩) 8 u3 := ho 20 (by kernel_rfl)
       go_simp
       exact hK _ _ rfl (Below.refl _ _)
      ·intro a wx hbx ho hf K hK
       have e0 : a.tmps[285]?.getD undef = .slice (some ⟨gv, 0, none⟩) 8 u3 := hf.1
       go_simp
       exact hK _ _ rfl (Below.refl _ _)
      ·intro a wx hbx ho hf K hK
       have e0 : a.tmps[286]?.getD undef = .pointer (some ⟨gv, 3, none⟩) := hf.1
       have d1 := (hbx.cell (p := ⟨gv, 3, none⟩) hgl).trans k3
       go_simp
       exact hK _ _ rfl (Below.refl _ _)
      ·intro a wx hbx ho hf K hK
       have e0 : a.tmps[26]?.getD undef = .int .u64 (t1 : Nat) := ho 26 (by kernel_rfl)
       go_simp
       exact hK _ _ rfl (Below.refl _ _)
      ·intro a wx hbx ho hf K hK
       have e0 : a.tmps[287]?.getD undef = .int .u64 (v3 : Nat) := hf.1
       have e1 : a.tmps[288]?.getD undef = .int .u64 (t1 : Nat) := hf.2.1
       have gw1 : IntKind.u64.wrap (((v3 : Int) + (t1 : Int))) = ((v3 : Int) + (t1 : Int)) := by rw [IntKind.wrap_u64]; omega
       have gw2 : (v3 : Int) + (t1 : Int) = ((v3 : Int) + (t1 : Int)) := by omega
       have gw3 : IntKind.u64.wrap ((v3 : Int) + (t1 : Int)) = ((v3 : Int) + (t1 : Int)) := by rw [gw2]; exact gw1
       go_simp
       exact hK _ _ rfl (Below.refl _ _)
      ·intro a wx hbx ho hf K hK
       have e0 : a.tmps[289]?.getD undef = .int .u64 ((v3 : Int) + (t1 : Int)) := hf.1
       have gw0 : ((v3 : Int) + (t1 : Int)) % 4294967296 = (o5 : Int) := by have := HO5.out; omega
       have gw1 : IntKind.u64.wrap ((o5 : Int)) = (o5 : Int) := by rw [IntKind.wrap_u64]; omega
       have gw2 : ((v3 : Int) + (t1 : Int)) % 4294967296 = (o5 : Int) := by omega
       have gw3 : IntKind.u64.wrap (((v3 : Int) + (t1 : Int)) % 4294967296) = (o5 : Int) := by rw [gw2]; exact gw1
       have gw4 : Int.tmod (((v3 : Int) + (t1 : Int))) 4294967296 = (o5 : Int) := by rw [Int.tmod_eq_emod_of_nonneg (by omega)]; omega
       have gw5 : IntKind.u64.wrap (Int.tmod (((v3 : Int) + (t1 : Int))) 4294967296) = (o5 : Int) := by rw [gw4]; exact gw1
       go_simp
       exact hK _ _ rfl (Below.refl _ _)
      ·intro a wx hbx ho hf K hK
       have e0 : a.tmps[20]?.getD undef = .slice (some ⟨gv, 0, none⟩) 8 u3 := ho 20 (by kernel_rfl)
       go_simp
       exact hK _ _ rfl (Below.refl _ _)
      ·intro a wx hbx ho hf K hK
       have e0 : a.tmps[291]?.getD undef = .slice (some ⟨gv, 0, none⟩) 8 u3 := hf.1
       go_simp
       exact hK _ _ rfl (Below.refl _ _)
      ·intro a wx hbx ho hf K hK
       have e0 : a.tmps[292]?.getD undef = .pointer (some ⟨gv, 4, none⟩) := hf.1
       have d1 := (hbx.cell (p := ⟨gv, 4, none⟩) hgl).trans k4
       go_simp
       exact hK _ _ rfl (Below.refl _ _)
      ·intro a wx hbx ho hf K hK
       have e0 : a.tmps[20]?.getD undef = .slice (some ⟨gv, 0, none⟩) 8 u3 := ho 20 (by kernel_rfl)
       go_simp
       exact hK _ _ rfl (Below.refl _ _)
      ·intro a wx hbx ho hf K hK
       have e0 : a.tmps[294]?.getD undef = .slice (some ⟨gv, 0, none⟩) 8 u3 := hf.1
       go_simp
       exact hK _ _ rfl (Below.refl _ _)
      ·intro a wx hbx ho hf K hK
       have e0 : a.tmps[295]?.getD undef = .pointer (some ⟨gv, 5, none⟩) := hf.1
       have d1 := (hbx.cell (p := ⟨gv, 5, none⟩) hgl).trans k5
       go_simp
       exact hK _ _ rfl (Below.refl _ _)
      ·intro a wx hbx ho hf K hK
       have e0 : a.tmps[20]?.getD undef = .slice (some ⟨gv, 0, none⟩) 8 u3 := ho 20 (by kernel_rfl)
       go_simp
       exact hK _ _ rfl (Below.refl _ _)
      ·intro a wx hbx ho hf K hK
       have e0 : a.tmps[297]?.getD undef = .slice (some ⟨gv, 0, none⟩) 8 u3 := hf.1
       go_simp
       exact hK _ _ rfl (Below.refl _ _)
      ·intro a wx hbx ho hf K hK
       have e0 : a.tmps[298]?.getD undef = .pointer (some ⟨gv, 6, none⟩) := hf.1
       have d1 := (hbx.cell (p := ⟨gv, 6, none⟩) hgl).trans k6
       go_simp
       exact hK _ _ rfl (Below.refl _ _)
      ·intro a wx hbx ho hf K hK
       have e0 : a.tmps[275]?.getD undef = .int .u64 (o1 : Nat) := hf.1
       have e1 : a.tmps[278]?.getD undef = .int .u64 (v0 : Nat) := hf.2.1
       have e2 : a.tmps[281]?.getD undef = .int .u64 (v1 : Nat) := hf.2.2.1
       have e3 : a.tmps[284]?.getD undef = .int .u64 (v2 : Nat) := hf.2.2.2.1
       have e4 : a.tmps[290]?.getD undef = .int .u64 (o5 : Nat) := hf.2.2.2.2.1
       have e5 : a.tmps[293]?.getD undef = .int .u64 (v4 : Nat) := hf.2.2.2.2.2.1
       have e6 : a.tmps[296]?.getD undef = .int .u64 (v5 : Nat) := hf.2.2.2.2.2.2.1
       have e7 : a.tmps[299]?.getD undef = .int .u64 (v6 : Nat) := hf.2.2.2.2.2.2.2.1
       go_simp
       exact hK _ _ (Own.full (B := wz.heap.size) (cs := #[.int .u64 (o1 : Nat), .int .u64 (v0 : Nat), .int .u64 (v1 : Nat), .int .u64 (v2 : Nat), .int .u64 (o5 : Nat), .int .u64 (v4 : Nat), .int .u64 (v5 : Nat), .int .u64 (v6 : Nat)]) rfl hbx.size (by unfold maxLen; simp) rfl) ((Below.refl _ _).alloc (Nat.le_refl _) _)
      ·intro a wx hbx ho hf K hK
       have o0 : (fun v w' => Own w' wz.heap.size 126 v [.int .u64 (o1 : Nat), .int .u64 (v0 : Nat), .int .u64 (v1 : Nat), .int .u64 (v2 : Nat), .int .u64 (o5 : Nat), .int .u64 (v4 : Nat), .int .u64 (v5 : Nat), .int .u64 (v6 : Nat)]) (a.tmps[300]?.getD undef) wx := hf.1
       obtain ⟨v0, hv0⟩ : ∃ v, v = a.tmps[300]?.getD undef := ⟨_, rfl⟩
       rw [← hv0] at o0
       have e0 := hv0.symm
       clear hv0
       go_simp
       exact hK _ _ o0 (Below.refl _ _)
     ·rintro f w9 hb9 hfin
      have S9 : Own w9 wz.heap.size 126 (f 20) [.int .u64 (o1 : Nat), .int .u64 (v0 : Nat), .int .u64 (v1 : Nat), .int .u64 (v2 : Nat), .int .u64 (o5 : Nat), .int .u64 (v4 : Nat), .int .u64 (v5 : Nat), .int .u64 (v6 : Nat)] := hfin.2.2.2.2.2.2.2.2.2.2.2.2.2.2.2.2.2.2.2.2.2.2.2.2.2.2.2.2.2.1
      clear hfin
      simp only [frameOf, dstsOf, zipF, List.filterMap_cons, List.filterMap_nil, List.contains_cons, List.contains_nil, Nat.reduceBEq, Nat.reduceAdd, Bool.or_false, Bool.or_true, cond_true, cond_false]
      obtain ⟨u, hu⟩ : ∃ u, u = f 20 := ⟨_, rfl⟩
      rw [← hu] at S9 ⊢
      have HO9 := Lib.hid (show Own w9 wt.heap.size 126 u (qvs (rndsN W S (t + 1))) by rw [← HV1.out]; exact S9.mono HBZ.out.size)
      have HB9 := Lib.hid (HBZ.out.trans (hb9.mono HBZ.out.size))
      clear S9 hu hb9
      go_wp2_with fail
      go_roundg (g6 - 1)
      case measure => have := HT2.out; omega
      case rel => exact ⟨t + 1, by have := HT2.out; omega, by go_num, HO9.out, HB9.out⟩
  ·obtain rfl : t = 64 := by omega
   have HV0 := Lib.hid hown
   have HVN := Lib.hid hvo
   have c0 := (HH0.out.at).1 0 _ (qvs_get (L := S) (i := 0) (by rw [HSN.out]; omega))
   have hhl : hb < wt.heap.size := World.block_lt_of_cell? wt ⟨hb, 0, none⟩ c0
   have hgh : gv ≠ hb := by omega
   have HO0 := Lib.hid (show Own wv2 Bw 126 (.slice (some ⟨hb, 0, none⟩) 8 b3) (qvs (addP S V 0)) by rw [addP_zero V HSN.out]; exact HH0.out.below hbt (Nat.le_refl _))
   have HR0 := Lib.hid (HRB.out.below hbt (Nat.le_refl _))
   have HW0 := Lib.hid (hbt.mono hBw)
   have HFE := Lib.hid (show addP S V 8 = stepN S B by rw [HV.out, HWW.out, addP_all])
   clear ht hlt hown hvo hbt c0 HRW HRK hV hhl
   go_wp2_with fail
   go_loopg [28] 8 (fun q iv wr => ∃ i : Nat, i + q = 8 ∧ iv = .int .i64 (i : Nat) ∧ Own wr Bw 126 (.slice (some ⟨hb, 0, none⟩) 8 b3) (qvs (addP S V i)) ∧ Own wr wt.heap.size 126 (.slice (some ⟨gv, 0, none⟩) 8 u3) (qvs V) ∧ Rd wr (.slice (some ⟨mb, 0, none⟩) N p3) (bvs P) ∧ Below Bw wt wr)
   case atStart => exact ⟨0, rfl, rfl, HO0.out, HV0.out, HR0.out, HW0.out⟩
   case round =>
    obtain ⟨i, hi, rfl, hoi, hvi, hri, hbi⟩ := hrel
    have HI := Lib.hid hi
    have HOI := Lib.hid hoi
    have HVI := Lib.hid hvi
    have HRI := Lib.hid hri
    have HBI := Lib.hid hbi
    by_cases hlt : i < 8
    ·have hltd : decide ((i : Int) < 8) = true := by rw [decide_eq_true_iff]; omega
     have xs := getD_lt32 HSL.out i
     have xv := getD_lt32 HVN.out.2 i
     have k1 := (hoi.at).1 i _ (qvs_get (by rw [addP_len]; exact hlt))
     have kf := (hoi.at).2 i
     have hhl : hb < wr.heap.size := World.block_lt_of_cell? wr ⟨hb, i, none⟩ k1
     have k2 := (hvi.at).1 i _ (qvs_get (by rw [HVN.out.1]; exact hlt))
     have hgl : gv < wr.heap.size := World.block_lt_of_cell? wr ⟨gv, i, none⟩ k2
     have hi8 : (i : Int) < 8 := by omega
     have hBwr : Bw ≤ wr.heap.size := by omega
     rw [addP_get _ _ _ hlt, if_neg (Nat.lt_irrefl i)] at k1
     have hst := addP_step S V hlt
     obtain ⟨s, hs⟩ : ∃ s, s = S.getD i 0 := ⟨_, rfl⟩
     obtain ⟨y, hy⟩ : ∃ y, y = V.getD i 0 := ⟨_, rfl⟩
     rw [← hs] at k1 xs hst
     rw [← hy] at k2 xv hst
     obtain ⟨o, ho⟩ : ∃ o, o = (s + y) % 4294967296 := ⟨_, rfl⟩
     have e1 : ((s : Int) + (y : Int)) % 4294967296 = (o : Int) := by omega
     have hol : o < 4294967296 := by omega
     rw [← ho] at hst
     have HST := Lib.hid hst
     clear hi hoi hvi hri hbi hs hy ho hst
     go_wp2_with fail
     refine wp_region_rel [fun v _ => v = .slice (some ⟨hb, 0, none⟩) 8 b3, fun v _ => v = .int .i64 (i : Nat), fun v _ => v = .slice (some ⟨hb, 0, none⟩) 8 b3, fun v _ => v = .int .i64 (i : Nat), fun v _ => v = .pointer (some ⟨hb, i, none⟩), fun v _ => v = .int .u64 (s : Nat), fun v _ => v = .slice (some ⟨gv, 0, none⟩) 8 u3, fun v _ => v = .int .i64 (i : Nat), fun v _ => v = .pointer (some ⟨gv, i, none⟩), fun v _ => v = .int .u64 (y : Nat), fun v _ => v = .int .u64 ((s : Int) + (y : Int)), fun v _ => v = .int .u64 (o : Nat), fun v _ => v = .pointer (some ⟨hb, i, none⟩), fun v w' => Own w' Bw 126 (.slice (some ⟨hb, 0, none⟩) 8 b3) (qvs (addP S V (i + 1))) ∧ Own w' wt.heap.size 126 (.slice (some ⟨gv, 0, none⟩) 8 u3) (qvs V) ∧ Rd w' (.slice (some ⟨mb, 0, none⟩) N p3) (bvs P) ∧ Below Bw wt w']
      [true, true, true, true, true, true, true, true, true, true, true, true, true, true] (fun X => OnlyG hb wr X) (fun X Y => OnlyG hb X Y) (some 13) (by kernel_rfl) ?_ ((OnlyG.of_below (Below.refl _ _) (Nat.le_of_lt hhl)).drewN 1) (fun X Y hx h => OnlyG.of_below h (Nat.le_trans (Nat.le_of_lt hhl) hx.2.1)) (fun X Y hx hs => hx.trans hs) (by kernel_rfl) (by kernel_rfl) ?_ ?_
     ·exact keepsR_s (fun _ _ _ h _ _ => h) (keepsR_s (fun _ _ _ h _ _ => h) (keepsR_s (fun _ _ _ h _ _ => h) (keepsR_s (fun _ _ _ h _ _ => h) (keepsR_s (fun _ _ _ h _ _ => h) (keepsR_s (fun _ _ _ h _ _ => h) (keepsR_s (fun _ _ _ h _ _ => h) (keepsR_s (fun _ _ _ h _ _ => h) (keepsR_s (fun _ _ _ h _ _ => h) (keepsR_s (fun _ _ _ h _ _ => h) (keepsR_s (fun _ _ _ h _ _ => h) (keepsR_s (fun _ _ _ h _ _ => h) (keepsR_s (fun _ _ _ h _ _ => h) (keepsR_q (fun v x y h _ hs => ⟨h.1.below hs (Nat.le_refl _), h.2.1.below hs (Nat.le_refl _), h.2.2.1.below hs (Nat.le_refl _), h.2.2.2.trans (hs.mono (Nat.le_trans hBw h.2.2.2.size))⟩) (keepsR_nil))))))))))))))
     ·refine .cons (owed7_go ?_) (.cons (owed7_go ?_) (.cons (owed7_go ?_) (.cons (owed7_go ?_) (.cons (owed7_go ?_) (.cons (owed7_go ?_) (.cons (owed7_go ?_) (.cons (owed7_go ?_) (.cons (owed7_go ?_) (.cons (owed7_go ?_) (.cons (owed7_go ?_) (.cons (owed7_go ?_) (.cons (owed7_go ?_) (.cons (owed7_go ?_) (.nil))))))))))))))
      ·intro a wx hbx hq ho hf
       have hbx : OnlyG hb wr wx := hbx
       have hbq : Below wr.heap.size wr wx := hq (by kernel_rfl)
       clear hq
       refine ⟨rfl, ?_⟩
       intro K hK
       have e0 : a.tmps[7]?.getD undef = .slice (some ⟨hb, 0, none⟩) 8 b3 := ho 7 (by kernel_rfl)
       go_simp
       exact hK _ _ rfl (stepR_no rfl (Below.refl _ _))
      ·intro a wx hbx hq ho hf
       have hbx : OnlyG hb wr wx := hbx
       have hbq : Below wr.heap.size wr wx := hq (by kernel_rfl)
       clear hq
       refine ⟨rfl, ?_⟩
       intro K hK
       have e0 : a.tmps[28]?.getD undef = .int .i64 (i : Nat) := ho 28 (by kernel_rfl)
       go_simp
       exact hK _ _ rfl (stepR_no rfl (Below.refl _ _))
      ·intro a wx hbx hq ho hf
       have hbx : OnlyG hb wr wx := hbx
       have hbq : Below wr.heap.size wr wx := hq (by kernel_rfl)
       clear hq
       refine ⟨rfl, ?_⟩
       intro K hK
       have e0 : a.tmps[7]?.getD undef = .slice (some ⟨hb, 0, none⟩) 8 b3 := ho 7 (by kernel_rfl)
       go_simp
       exact hK _ _ rfl (stepR_no rfl (Below.refl _ _))
      ·intro a wx hbx hq ho hf
       have hbx : OnlyG hb wr wx := hbx
       have hbq : Below wr.heap.size wr wx := hq (by kernel_rfl)
       clear hq
       refine ⟨rfl, ?_⟩
       intro K hK
       have e0 : a.tmps[28]?.getD undef = .int .i64 (i : Nat) := ho 28 (by kernel_rfl)
       go_simp
       exact hK _ _ rfl (stepR_no rfl (Below.refl _ _))
      ·intro a wx hbx hq ho hf
       have hbx : OnlyG hb wr wx := hbx
       have hbq : Below wr.heap.size wr wx := hq (by kernel_rfl)
       clear hq
       refine ⟨rfl, ?_⟩
       intro K hK
       have e0 : a.tmps[307]?.getD undef = .slice (some ⟨hb, 0, none⟩) 8 b3 := hf.1
       have e1 : a.tmps[308]?.getD undef = .int .i64 (i : Nat) := hf.2.1
       go_simp
       exact hK _ _ rfl (stepR_no rfl (Below.refl _ _))
      ·intro a wx hbx hq ho hf
       have hbx : OnlyG hb wr wx := hbx
       have hbq : Below wr.heap.size wr wx := hq (by kernel_rfl)
       clear hq
       refine ⟨rfl, ?_⟩
       intro K hK
       have e0 : a.tmps[309]?.getD undef = .pointer (some ⟨hb, i, none⟩) := hf.1
       have d1 := (hbq.cell (p := ⟨hb, i, none⟩) hhl).trans k1
       go_simp
       exact hK _ _ rfl (stepR_no rfl (Below.refl _ _))
      ·intro a wx hbx hq ho hf
       have hbx : OnlyG hb wr wx := hbx
       have hbq : Below wr.heap.size wr wx := hq (by kernel_rfl)
       clear hq
       refine ⟨rfl, ?_⟩
       intro K hK
       have e0 : a.tmps[20]?.getD undef = .slice (some ⟨gv, 0, none⟩) 8 u3 := ho 20 (by kernel_rfl)
       go_simp
       exact hK _ _ rfl (stepR_no rfl (Below.refl _ _))
      ·intro a wx hbx hq ho hf
       have hbx : OnlyG hb wr wx := hbx
       have hbq : Below wr.heap.size wr wx := hq (by kernel_rfl)
       clear hq
       refine ⟨rfl, ?_⟩
       intro K hK
       have e0 : a.tmps[28]?.getD undef = .int .i64 (i : Nat) := ho 28 (by kernel_rfl)
       go_simp
       exact hK _ _ rfl (stepR_no rfl (Below.refl _ _))
      ·intro a wx hbx hq ho hf
       have hbx : OnlyG hb wr wx := hbx
       have hbq : Below wr.heap.size wr wx := hq (by kernel_rfl)
       clear hq
       refine ⟨rfl, ?_⟩
       intro K hK
       have e0 : a.tmps[311]?.getD undef = .slice (some ⟨gv, 0, none⟩) 8 u3 := hf.1
       have e1 : a.tmps[312]?.getD undef = .int .i64 (i : Nat) := hf.2.1
       go_simp
       exact hK _ _ rfl (stepR_no rfl (Below.refl _ _))
      ·intro a wx hbx hq ho hf
       have hbx : OnlyG hb wr wx := hbx
       have hbq : Below wr.heap.size wr wx := hq (by kernel_rfl)
       clear hq
       refine ⟨rfl, ?_⟩
       intro K hK
       have e0 : a.tmps[313]?.getD undef = .pointer (some ⟨gv, i, none⟩) := hf.1
       have d1 := (hbq.cell (p := ⟨gv, i, none⟩) hgl).trans k2
       go_simp
       exact hK _ _ rfl (stepR_no rfl (Below.refl _ _))
      ·intro a wx hbx hq ho hf
       have hbx : OnlyG hb wr wx := hbx
       have hbq : Below wr.heap.size wr wx := hq (by kernel_rfl)
       clear hq
       refine ⟨rfl, ?_⟩
       intro K hK
       have e0 : a.tmps[310]?.getD undef = .int .u64 (s : Nat) := hf.1
       have e1 : a.tmps[314]?.getD undef = .int .u64 (y : Nat) := hf.2.1
       have gw1 : IntKind.u64.wrap (((s : Int) + (y : Int))) = ((s : Int) + (y : Int)) := by rw [IntKind.wrap_u64]; omega
       have gw2 : (s : Int) + (y : Int) = ((s : Int) + (y : Int)) := by omega
       have gw3 : IntKind.u64.wrap ((s : Int) + (y : Int)) = ((s : Int) + (y : Int)) := by rw [gw2]; exact gw1
       go_simp
       exact hK _ _ rfl (stepR_no rfl (Below.refl _ _))
      ·intro a wx hbx hq ho hf
       have hbx : OnlyG hb wr wx := hbx
       have hbq : Below wr.heap.size wr wx := hq (by kernel_rfl)
       clear hq
       refine ⟨rfl, ?_⟩
       intro K hK
       have e0 : a.tmps[315]?.getD undef = .int .u64 ((s : Int) + (y : Int)) := hf.1
       have gw0 : ((s : Int) + (y : Int)) % 4294967296 = (o : Int) := e1
       have gw1 : IntKind.u64.wrap ((o : Int)) = (o : Int) := by rw [IntKind.wrap_u64]; omega
       have gw2 : ((s : Int) + (y : Int)) % 4294967296 = (o : Int) := by omega
       have gw3 : IntKind.u64.wrap (((s : Int) + (y : Int)) % 4294967296) = (o : Int) := by rw [gw2]; exact gw1
       have gw4 : Int.tmod (((s : Int) + (y : Int))) 4294967296 = (o : Int) := by rw [Int.tmod_eq_emod_of_nonneg (by omega)]; omega
       have gw5 : IntKind.u64.wrap (Int.tmod (((s : Int) + (y : Int))) 4294967296) = (o : Int) := by rw [gw4]; exact gw1
       go_simp
       exact hK _ _ rfl (stepR_no rfl (Below.refl _ _))
      ·intro a wx hbx hq ho hf
       have hbx : OnlyG hb wr wx := hbx
       have hbq : Below wr.heap.size wr wx := hq (by kernel_rfl)
       clear hq
       refine ⟨rfl, ?_⟩
       intro K hK
       have e0 : a.tmps[305]?.getD undef = .slice (some ⟨hb, 0, none⟩) 8 b3 := hf.1
       have e1 : a.tmps[306]?.getD undef = .int .i64 (i : Nat) := hf.2.1
       go_simp
       exact hK _ _ rfl (stepR_no rfl (Below.refl _ _))
      ·intro a wx hbx hq ho hf
       have hbx : OnlyG hb wr wx := hbx
       have hbq : Below wr.heap.size wr wx := hq (by kernel_rfl)
       clear hq
       refine ⟨rfl, ?_⟩
       intro K hK
       have e0 : a.tmps[317]?.getD undef = .pointer (some ⟨hb, i, none⟩) := hf.1
       have e1 : a.tmps[316]?.getD undef = .int .u64 (o : Nat) := hf.2.1
       have d1 := (hbq.cell (p := ⟨hb, i, none⟩) hhl).trans k1
       have d2 := (hbq.frozen (p := ⟨hb, i, none⟩) hhl).trans kf
       have q1 := (HOI.out.below hbq (Nat.le_refl _)).set i (.int .u64 (o : Int))
       rw [qvs_set, HST.out] at q1
       have q2 := (HVI.out.below hbq (Nat.le_refl _)).setOther (a := ⟨hb, i, none⟩) (show (Value.slice (some ⟨gv, 0, none⟩) 8 u3).ownBlock ≠ some hb from fun e => hgh (by simpa [Value.ownBlock] using e)) (.int .u64 (o : Int))
       have q3 := (HRI.out.below hbq (Nat.le_refl _)).setOther hb i (.int .u64 (o : Int)) hmh
       have q4 := (HBI.out.trans (hbq.mono hBwr)).setCell (p := ⟨hb, i, none⟩) hbl (.int .u64 (o : Int))
       go_simp
       exact hK undef _ ⟨q1, q2, q3, q4⟩ (stepR_yes rfl (OnlyG.setCell i _))
     ·rintro f w9 hb9 hfin
      have hb9 : OnlyG hb wr w9 := hb9
      have S317 : Own w9 Bw 126 (.slice (some ⟨hb, 0, none⟩) 8 b3) (qvs (addP S V (i + 1))) ∧ Own w9 wt.heap.size 126 (.slice (some ⟨gv, 0, none⟩) 8 u3) (qvs V) ∧ Rd w9 (.slice (some ⟨mb, 0, none⟩) N p3) (bvs P) ∧ Below Bw wt w9 := hfin.2.2.2.2.2.2.2.2.2.2.2.2.2.1
      clear hfin
      simp only [frameOf, dstsOf, zipF, List.filterMap_cons, List.filterMap_nil, List.contains_cons, List.contains_nil, Nat.reduceBEq, Nat.reduceAdd, Bool.or_false, Bool.or_true, cond_true, cond_false]
      clear hb9
      have HS9 := Lib.hid S317
      clear S317
      go_wp2_with fail
      go_roundg (gk - 1)
      case measure => have := HI.out; omega
      case rel => exact ⟨i + 1, by have := HI.out; omega, by go_num, HS9.out.1, HS9.out.2.1, HS9.out.2.2.1, HS9.out.2.2.2⟩
    ·obtain rfl : i = 8 := by omega
     have hltd : decide (((8 : Nat) : Int) < 8) = false := by decide
     clear hi hoi hvi hri hbi hlt
     go_wp2_with fail
     rw [HFE.out] at HOI
     refine frame_fit _ (fun f => #[sl0, sl1, .slice a2 64 c2, sl3, sl4, sl5, sl6, .slice (some ⟨hb, 0, none⟩) 8 b3, sl8, sl9, sl10, sl11, sl12, sl13, .slice q1 64 q3, sl15, sl16, sl17, sl18, sl19, f 20, f 21, f 22, f 23, f 24, f 25, f 26, f 27, f 28, sl29, sl30, sl31, sl32, sl33, sl34, sl35, sl36, sl37, sl38, sl39, sl40, sl41, sl42, sl43, sl44, sl45, sl46, sl47, sl48, sl49, sl50, sl51, sl52, sl53, sl54, sl55, sl56, sl57, sl58, sl59, sl60, sl61, sl62, sl63, sl64, sl65, sl66, sl67, sl68, sl69, sl70, sl71, sl72, sl73, sl74, sl75, sl76, sl77, sl78, sl79, sl80, sl81, sl82, sl83, sl84, sl85, sl86, sl87, sl88, sl89, sl90, sl91, sl92, sl93, sl94, sl95, sl96, sl97, sl98, sl99, sl100, sl101, sl102, sl103, sl104, sl105, sl106, sl107, sl108, sl109, sl110, sl111, sl112, sl113, sl114, sl115, sl116, sl117, sl118, sl119, sl120, sl121, sl122, sl123, sl124, sl125, sl126, sl127, sl128, sl129, sl130, sl131, sl132, sl133, sl134, sl135, sl136, sl137, sl138, sl139, sl140, sl141, sl142, sl143, sl144, sl145, sl146, sl147, sl148, sl149, sl150, sl151, sl152, sl153, sl154, sl155, sl156, sl157, sl158, sl159, sl160, sl161, f 162, f 163, f 164, f 165, f 166, f 167, f 168, f 169, f 170, f 171, f 172, f 173, f 174, f 175, f 176, f 177, f 178, f 179, f 180, f 181, f 182, f 183, f 184, f 185, f 186, f 187, f 188, f 189, f 190, f 191, f 192, f 193, f 194, f 195, f 196, f 197, f 198, f 199, f 200, f 201, f 202, f 203, f 204, f 205, f 206, f 207, f 208, f 209, f 210, f 211, f 212, f 213, f 214, f 215, f 216, f 217, f 218, f 219, f 220, f 221, f 222, f 223, f 224, f 225, f 226, f 227, f 228, f 229, f 230, f 231, f 232, f 233, f 234, f 235, f 236, f 237, f 238, f 239, f 240, f 241, f 242, f 243, f 244, f 245, f 246, f 247, f 248, f 249, f 250, f 251, f 252, f 253, f 254, f 255, f 256, f 257, f 258, f 259, f 260, f 261, f 262, f 263, f 264, f 265, f 266, f 267, f 268, f 269, f 270, f 271, f 272, f 273, f 274, f 275, f 276, f 277, f 278, f 279, f 280, f 281, f 282, f 283, f 284, f 285, f 286, f 287, f 288, f 289, f 290, f 291, f 292, f 293, f 294, f 295, f 296, f 297, f 298, f 299, f 300, f 301, f 302, f 303, f 304, f 305, f 306, f 307, f 308, f 309, f 310, f 311, f 312, f 313, f 314, f 315, f 316, f 317, sl318, sl319, sl320, sl321, sl322, sl323, sl324, sl325, sl326, sl327, sl328, sl329, sl330, sl331, sl332, sl333, sl334, sl335, sl336, sl337, sl338, sl339, sl340, sl341, sl342, sl343, sl344, sl345, sl346, sl347, sl348, sl349, sl350, sl351]) (fun f => HQ9.out f _ HOI.out HRI.out HBI.out) rfl
end Go.Proofs.YtngealmhgkoaiaaGreat
