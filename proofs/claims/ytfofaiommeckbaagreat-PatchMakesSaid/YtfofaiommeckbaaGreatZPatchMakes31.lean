/- Walks: the rounds and the additions of a block, in the reference's sum. -/
import Derived.Test.YtfofaiommeckbaaGreatZPatchMakesB
import Derived.Test.YtfofaiommeckbaaGreatZPatchMakes23
import Derived.StillTailTactics
open List renaming replicate → bW, append_assoc → bQ, length_append → aG, length_take → eC, take_of_length_le → bM, flatten_cons → fZ, filterMap_cons → cS, filterMap_nil → cT, contains_cons → cU, contains_nil → cV
open Nat renaming pow_succ → aN, pow_le_pow_right → aY, le_of_lt_succ → gA, mod_one → gC, mod_lt → aL, lt_of_le_of_lt → gD, div_le_self → gE, mul_comm → aT, one_mul → bC, le_of_lt → fT, le_trans → fU
open Int renaming natCast_ediv → gF, natCast_mul → gG, tmod → eV, tmod_eq_emod_of_nonneg → eW
set_option linter.unusedVariables false
set_option maxRecDepth 100000
set_option maxHeartbeats 40000000
namespace Go.Proofs.YtfofaiommeckbaaGreat
open Go.RowKit ShaM WireM
theorem Vx (x:Nat):(beN 8 x).length=8:=beN_len 8 x
theorem Zdc (x:Nat) {i:Nat}(h:i<8):(beN 8 x)[i]? =some (x/256^(7-i)%256):=by
 obtain rfl|rfl|rfl|rfl|rfl|rfl|rfl|rfl:i=0∨i=1∨i=2∨i=3∨i=4∨i=5∨i=6∨i=7:=by omega
 all_goals rfl
theorem Za1 (x:Nat) {i:Nat}(h:i<8):(beN 8 x).take (i+1)=(beN 8 x).take i++[x/256^(7-i)%256]:=by
 rw[List.take_add_one,Zdc x h];rfl
theorem Zg7 {w:World} {v:Value} {xs:List Value}(h:Rd w v xs):∃a n c,v=.slice a n c:=by
 obtain⟨a,c,e,_⟩:=h;exact⟨_,_,_,e⟩
def Xy (L:List Nat)(j:Nat):List Nat:=L++[128]++bW j 0
theorem Za2 (L:List Nat):Xy L 0=L++[128]:=by simp[Xy]
theorem Za3 (L:List Nat)(j:Nat):Xy L (j+1)=Xy L j++[0]:=by rw[Xy,Xy,List.replicate_succ',bQ];simp
theorem Ps (L:List Nat)(j:Nat):(Xy L j).length=L.length+1+j:=by simp[Xy];omega
def Xm (L:List Nat)(Z i:Nat):List Nat:=Xy L Z++(beN 8 (8*L.length)).take i
theorem Za4 (L:List Nat)(Z:Nat):Xm L Z 0=Xy L Z:=by simp[Xm]
theorem Za5 (L:List Nat)(Z:Nat) {i:Nat}(h:i<8):Xm L Z (i+1)=Xm L Z i++[8*L.length/256^(7-i)%256]:=by
 rw[Xm,Xm,Za1 _ h,bQ]
theorem Vy (L:List Nat)(Z:Nat) {i:Nat}(h:i≤8):(Xm L Z i).length=L.length+1+Z+i:=by
 rw[Xm,aG,Ps,eC,Vx];omega
theorem Zdd (L:List Nat):Xm L ((119-L.length%64)%64) 8=padL L:=by
 rw[Xm,Xy,padL,tailL,bM (by rw[Vx];omega)];simp
theorem Nb (x n r:Nat)(z:Int)(hz:z=(n:Int))(hx:x<4294967296)(hn:n≤32)(hr:r=rot x n)(w:World):
  Calls Tryz.prog 195 #[.int .u64 (x:Nat),.int .i64 z] w fun e w'=>e=.returned (.int .u64 (r:Nat))∧w'=w:=by rw[hz,hr];exact Zb0 x n w hx hn
theorem Zed (x n r:Nat)(z:Int)(hz:z=(n:Int))(hx:x<4294967296)(hn:n≤32)(hr:r=x/2^n)(w:World):
  Calls Tryz.prog 196 #[.int .u64 (x:Nat),.int .i64 z] w fun e w'=>e=.returned (.int .u64 (r:Nat))∧w'=w:=by rw[hz,hr];exact Ye x n w hx hn
def xN (B:List Nat)(t:Nat):Nat→Nat
 |0=>0
 |i+1=>256*xN B t i+B.getD (4*t+i) 0
theorem Zfi {B:List Nat}(hB:∀x∈B,x<256)(t:Nat):∀i,xN B t i<256^i
 |0=>by simp[xN]
 |i+1=>by
  have h:=Zfi hB t i;have g:=Oi hB (by omega) (4*t+i);rw[xN,aN];generalize 256^i=z at h⊢;omega
theorem Zgi {B:List Nat}(hB:∀x∈B,x<256)(t:Nat) {i:Nat}(hi:i<4):xN B t i<16777216:=
 Nat.lt_of_lt_of_le (Zfi hB t i) (aY (n:=256) (by decide) (gA hi))
theorem Zgj {B:List Nat}(hB:∀x∈B,x<256)(t:Nat):xN B t 4<4294967296:=Zfi hB t 4
theorem Zfj {i:Nat}(hi:i<32):2^i≤2147483648:=aY (n:=2) (by decide) (gA hi)
theorem Zfk {i:Nat}(hi:i≤32):2^i≤4294967296:=aY (n:=2) (by decide) hi
theorem Zfl (B l:List Nat) {t:Nat}(h:t<16):xN B t 4=wNext B l t:=by
 simp only[xN,wNext,if_pos h,Nat.add_zero];omega
theorem Zfm (L:List Nat)(i n:Nat):(qvs L).set i (.int .u64 (n:Int))=qvs (L.set i n):=by simp[qvs,List.map_set]
theorem Rd.setOther {w:World} {b off n c:Nat} {xs:List Value}(h:Rd w (.slice (some ⟨b,off,none⟩) n c) xs)(g i:Nat)(u:Value)(hne:b≠g):Rd (w.setCell ⟨g,i,none⟩ u) (.slice (some ⟨b,off,none⟩) n c) xs:=
 h.onlyG (OnlyG.setCell i u) fun a n c e=>by simp only[Value.slice.injEq,Option.some.injEq]at e;rw[←e.1];exact hne
def Vz (S:List Nat)(i:Nat):List Nat:=((S.take i).map (beN 4)).flatten
theorem Zde {S:List Nat}(h:S.length=8) {i:Nat}(hi:i≤8):(Vz S i).length=4*i:=by
 have e:∀L:List Nat,((L.map (beN 4)).flatten).length=4*L.length:=by
  intro L
  induction L with
  |nil=>rfl
  |cons a L ih=>rw[List.map_cons,fZ,aG,ih,beN_len,List.length_cons];omega
 rw[Vz,e,eC];omega
theorem Za6 {S:List Nat}(h:S.length=8) {i x:Nat}(hi:i<8)(hx:x=S.getD i 0)(hx32:x<4294967296):Vz S (i+1)=Vz S i++[x/16777216,x/65536%256,x/256%256,x%256]:=by
 have e:S.take (i+1)=S.take i++[x]:=by
  rw[List.take_succ_eq_append_getElem (by omega),hx,List.getD_eq_getElem?_getD,List.getElem?_eq_getElem (by omega)];rfl
 rw[Vz,e,List.map_append,List.flatten_append]
 congr 1
 have e2:beN 4 x=[x/16777216%256,x/65536%256,x/256%256,x%256]:=(by simp[beN]);rw[show List.map (beN 4) [x]=[beN 4 x]from rfl,fZ,List.flatten_nil,List.append_nil,e2,Nat.mod_eq_of_lt (show x/16777216<256 by omega)]
theorem Zdf {S:List Nat}(h:S.length=8):Vz S 8=(S.map (beN 4)).flatten:=by rw[Vz,bM (by omega)]
def Nc:Code→Code
 | .seq _ b=>b
 |c=>c
def Zgk:Code→Code
 | .seq a _=>a
 |c=>c
def inC:Code→Code
 | .block _ c=>c
 | .loop c=>c
 |c=>c
theorem Za7 {Q:Exit→Act→World→Prop} {w:World}(a:Act)(G:(Nat→Value)→Array Value)(h:∀f:Nat→Value,Q .normal ⟨G f,[]⟩ w)(e:a=⟨G fun k=>a.tmps.toList.getD k undef,[]⟩):Q .normal a w:=by
 rw[e];exact h _
theorem Za8 (K:Act→World→Prop) (Q:Exit→Act→World→Prop) (sl0 sl1 sl3 sl4 sl5 sl6 sl8 sl9 sl10 sl11 sl12 sl13 sl15 sl16 sl17 sl18 sl19 sl20 sl21 sl22 sl23 sl24 sl25 sl26 sl27 sl28 sl29 sl30 sl31 sl32 sl33 sl34 sl35 sl36 sl37 sl38 sl39 sl40 sl41 sl42 sl43 sl44 sl45 sl46 sl47 sl48 sl49 sl50 sl51 sl52 sl53 sl54 sl55 sl56 sl57 sl58 sl59 sl60 sl61 sl62 sl63 sl64 sl65 sl66 sl67 sl68 sl69 sl70 sl71 sl72 sl73 sl74 sl75 sl76 sl77 sl78 sl79 sl80 sl81 sl82 sl83 sl84 sl85 sl86 sl87 sl88 sl89 sl90 sl91 sl92 sl93 sl94 sl95 sl96 sl97 sl98 sl99 sl100 sl101 sl102 sl103 sl104 sl105 sl106 sl107 sl108 sl109 sl110 sl111 sl112 sl113 sl114 sl115 sl116 sl117 sl118 sl119 sl120 sl121 sl122 sl123 sl124 sl125 sl126 sl127 sl128 sl129 sl130 sl131 sl132 sl133 sl134 sl135 sl136 sl137 sl138 sl139 sl140 sl141 sl142 sl143 sl144 sl145 sl146 sl147 sl148 sl149 sl150 sl151 sl152 sl153 sl154 sl155 sl156 sl157 sl158 sl159 sl160 sl161 sl162 sl163 sl164 sl165 sl166 sl167 sl168 sl169 sl170 sl171 sl172 sl173 sl174 sl175 sl176 sl177 sl178 sl179 sl180 sl181 sl182 sl183 sl184 sl185 sl186 sl187 sl188 sl189 sl190 sl191 sl192 sl193 sl194 sl195 sl196 sl197 sl198 sl199 sl200 sl201 sl202 sl203 sl204 sl205 sl206 sl207 sl208 sl209 sl210 sl211 sl212 sl213 sl214 sl215 sl216 sl217 sl218 sl219 sl220 sl221 sl222 sl223 sl224 sl225 sl226 sl227 sl228 sl229 sl230 sl231 sl232 sl233 sl234 sl235 sl236 sl237 sl238 sl239 sl240 sl241 sl242 sl243 sl244 sl245 sl246 sl247 sl248 sl249 sl250 sl251 sl252 sl253 sl254 sl255 sl256 sl257 sl258 sl259 sl260 sl261 sl262 sl263 sl264 sl265 sl266 sl267 sl268 sl269 sl270 sl271 sl272 sl273 sl274 sl275 sl276 sl277 sl278 sl279 sl280 sl281 sl282 sl283 sl284 sl285 sl286 sl287 sl288 sl289 sl290 sl291 sl292 sl293 sl294 sl295 sl296 sl297 sl298 sl299 sl300 sl301 sl302 sl303 sl304 sl305 sl306 sl307 sl308 sl309 sl310 sl311 sl312 sl313 sl314 sl315 sl316 sl317 sl318 sl319 sl320 sl321 sl322 sl323 sl324 sl325 sl326 sl327 sl328 sl329 sl330 sl331 sl332 sl333 sl334 sl335 sl336 sl337 sl338 sl339 sl340 sl341 sl342 sl343 sl344 sl345 sl346 sl347 sl348 sl349 sl350 sl351:Value) (wt:World) (Bw BO hb b3 mb N p3 q3 c2:Nat) (q1 a2:Option Addr) (P S B:List Nat)
  (hK:∀a w,Code.wp Tryz.prog (Nc (Nc (Nc (inC (Zgk (Nc (inC (inC (Nc (Zgk (Nc (Nc (Nc (Nc (Nc (Nc (Tryz.f144.body.getD .skip))))))))))))))))) Q a w→K a w)
  (hot:Own wt BO 92 (.slice q1 64 q3) (qvs (wL B 64))) (hkr:Rd wt (.slice a2 64 c2) (qvs KL)) (hh0:Own wt Bw 92 (.slice (some ⟨hb,0,none⟩) 8 b3) (qvs S)) (hrb:Rd wt (.slice (some ⟨mb,0,none⟩) N p3) (bvs P))
  (hbn:∀x∈B,x<256) (hsl:∀x∈S,x<4294967296) (hsn:S.length=8) (hmh:mb≠hb) (hbl:Bw≤hb) (hBw:Bw≤wt.heap.size)
  (hq:∀(f:Nat→Value) (w':World),Own w' Bw 92 (.slice (some ⟨hb,0,none⟩) 8 b3) (qvs (stepN S B))→Rd w' (.slice (some ⟨mb,0,none⟩) N p3) (bvs P)→Below Bw wt w'→Q .normal ⟨#[sl0,sl1,.slice a2 64 c2,sl3,sl4,sl5,sl6,.slice (some ⟨hb,0,none⟩) 8 b3,sl8,sl9,sl10,sl11,sl12,sl13,.slice q1 64 q3,sl15,sl16,sl17,sl18,sl19,f 20,f 21,f 22,f 23,f 24,f 25,f 26,f 27,f 28,sl29,sl30,sl31,sl32,sl33,sl34,sl35,sl36,sl37,sl38,sl39,sl40,sl41,sl42,sl43,sl44,sl45,sl46,sl47,sl48,sl49,sl50,sl51,sl52,sl53,sl54,sl55,sl56,sl57,sl58,sl59,sl60,sl61,sl62,sl63,sl64,sl65,sl66,sl67,sl68,sl69,sl70,sl71,sl72,sl73,sl74,sl75,sl76,sl77,sl78,sl79,sl80,sl81,sl82,sl83,sl84,sl85,sl86,sl87,sl88,sl89,sl90,sl91,sl92,sl93,sl94,sl95,sl96,sl97,sl98,sl99,sl100,sl101,sl102,sl103,sl104,sl105,sl106,sl107,sl108,sl109,sl110,sl111,sl112,sl113,sl114,sl115,sl116,sl117,sl118,sl119,sl120,sl121,sl122,sl123,sl124,sl125,sl126,sl127,sl128,sl129,sl130,sl131,sl132,sl133,sl134,sl135,sl136,sl137,sl138,sl139,sl140,sl141,sl142,sl143,sl144,sl145,sl146,sl147,sl148,sl149,sl150,sl151,sl152,sl153,sl154,sl155,sl156,sl157,sl158,sl159,sl160,sl161,f 162,f 163,f 164,f 165,f 166,f 167,f 168,f 169,f 170,f 171,f 172,f 173,f 174,f 175,f 176,f 177,f 178,f 179,f 180,f 181,f 182,f 183,f 184,f 185,f 186,f 187,f 188,f 189,f 190,f 191,f 192,f 193,f 194,f 195,f 196,f 197,f 198,f 199,f 200,f 201,f 202,f 203,f 204,f 205,f 206,f 207,f 208,f 209,f 210,f 211,f 212,f 213,f 214,f 215,f 216,f 217,f 218,f 219,f 220,f 221,f 222,f 223,f 224,f 225,f 226,f 227,f 228,f 229,f 230,f 231,f 232,f 233,f 234,f 235,f 236,f 237,f 238,f 239,f 240,f 241,f 242,f 243,f 244,f 245,f 246,f 247,f 248,f 249,f 250,f 251,f 252,f 253,f 254,f 255,f 256,f 257,f 258,f 259,f 260,f 261,f 262,f 263,f 264,f 265,f 266,f 267,f 268,f 269,f 270,f 271,f 272,f 273,f 274,f 275,f 276,f 277,f 278,f 279,f 280,f 281,f 282,f 283,f 284,f 285,f 286,f 287,f 288,f 289,f 290,f 291,f 292,f 293,f 294,f 295,f 296,f 297,f 298,f 299,f 300,f 301,f 302,f 303,f 304,f 305,f 306,f 307,f 308,f 309,f 310,f 311,f 312,f 313,f 314,f 315,f 316,f 317,sl318,sl319,sl320,sl321,sl322,sl323,sl324,sl325,sl326,sl327,sl328,sl329,sl330,sl331,sl332,sl333,sl334,sl335,sl336,sl337,sl338,sl339,sl340,sl341,sl342,sl343,sl344,sl345,sl346,sl347,sl348,sl349,sl350,sl351],[]⟩ w'):
  Code.wp Tryz.prog (Zgk (Nc (Nc (inC (Zgk (Nc (inC (inC (Nc (Zgk (Nc (Nc (Nc (Nc (Nc (Nc (Tryz.f144.body.getD .skip))))))))))))))))) (Exit.then K Q) ⟨#[sl0,sl1,.slice a2 64 c2,sl3,sl4,sl5,sl6,.slice (some ⟨hb,0,none⟩) 8 b3,sl8,sl9,sl10,sl11,sl12,sl13,.slice q1 64 q3,sl15,sl16,sl17,sl18,sl19,sl20,sl21,sl22,sl23,sl24,sl25,sl26,sl27,sl28,sl29,sl30,sl31,sl32,sl33,sl34,sl35,sl36,sl37,sl38,sl39,sl40,sl41,sl42,sl43,sl44,sl45,sl46,sl47,sl48,sl49,sl50,sl51,sl52,sl53,sl54,sl55,sl56,sl57,sl58,sl59,sl60,sl61,sl62,sl63,sl64,sl65,sl66,sl67,sl68,sl69,sl70,sl71,sl72,sl73,sl74,sl75,sl76,sl77,sl78,sl79,sl80,sl81,sl82,sl83,sl84,sl85,sl86,sl87,sl88,sl89,sl90,sl91,sl92,sl93,sl94,sl95,sl96,sl97,sl98,sl99,sl100,sl101,sl102,sl103,sl104,sl105,sl106,sl107,sl108,sl109,sl110,sl111,sl112,sl113,sl114,sl115,sl116,sl117,sl118,sl119,sl120,sl121,sl122,sl123,sl124,sl125,sl126,sl127,sl128,sl129,sl130,sl131,sl132,sl133,sl134,sl135,sl136,sl137,sl138,sl139,sl140,sl141,sl142,sl143,sl144,sl145,sl146,sl147,sl148,sl149,sl150,sl151,sl152,sl153,sl154,sl155,sl156,sl157,sl158,sl159,sl160,sl161,sl162,sl163,sl164,sl165,sl166,sl167,sl168,sl169,sl170,sl171,sl172,sl173,sl174,sl175,sl176,sl177,sl178,sl179,sl180,sl181,sl182,sl183,sl184,sl185,sl186,sl187,sl188,sl189,sl190,sl191,sl192,sl193,sl194,sl195,sl196,sl197,sl198,sl199,sl200,sl201,sl202,sl203,sl204,sl205,sl206,sl207,sl208,sl209,sl210,sl211,sl212,sl213,sl214,sl215,sl216,sl217,sl218,sl219,sl220,sl221,sl222,sl223,sl224,sl225,sl226,sl227,sl228,sl229,sl230,sl231,sl232,sl233,sl234,sl235,sl236,sl237,sl238,sl239,sl240,sl241,sl242,sl243,sl244,sl245,sl246,sl247,sl248,sl249,sl250,sl251,sl252,sl253,sl254,sl255,sl256,sl257,sl258,sl259,sl260,sl261,sl262,sl263,sl264,sl265,sl266,sl267,sl268,sl269,sl270,sl271,sl272,sl273,sl274,sl275,sl276,sl277,sl278,sl279,sl280,sl281,sl282,sl283,sl284,sl285,sl286,sl287,sl288,sl289,sl290,sl291,sl292,sl293,sl294,sl295,sl296,sl297,sl298,sl299,sl300,sl301,sl302,sl303,sl304,sl305,sl306,sl307,sl308,sl309,sl310,sl311,sl312,sl313,sl314,sl315,sl316,sl317,sl318,sl319,sl320,sl321,sl322,sl323,sl324,sl325,sl326,sl327,sl328,sl329,sl330,sl331,sl332,sl333,sl334,sl335,sl336,sl337,sl338,sl339,sl340,sl341,sl342,sl343,sl344,sl345,sl346,sl347,sl348,sl349,sl350,sl351],[]⟩ wt:=by
 have HKK0:=Hd hK;have HOT:=Hd hot;have HKR:=Hd hkr;have HH0:=Hd hh0;have HRB:=Hd hrb;have HBN:=Hd hbn;have HSL:=Hd hsl;have HSN:=Hd hsn;have HQ9:=Hd hq;clear hK hot hkr hh0 hrb hbn hsl hsn hq
 conv=>arg 2;whnf
 obtain⟨W,hW⟩:=eX (wL B 64);have hwn:=wL_len B 64;have hwl:=wL_lt HBN.out 64;rw[←hW]at HOT hwn hwl;have HWW:=Hd hW;have HWN:=Hd hwn;have HWL:=Hd hwl;have HQ0:=Hd (show Own (wt.alloc (.cells #[] 92)) wt.heap.size 92 (.slice (some ⟨wt.heap.size,0,none⟩) 0 0) []from Own.lit0 rfl lR);have HHR:=Hd (HH0.out.rd.alloc (.cells #[] 92));clear hW hwn hwl;go_wp2_with (first|(at_builtin;refine Am rfl (.tmp 162) (.tmp 163) 181 rfl wt.heap.size 92 _ 8 Zgs _ _ rfl HQ0.out _ (qvs S) rfl HHR.out (Sj _) ?i2 ?i3 ?_));case i2=>rw[HSN.out];omega
 rintro vv wv hown-hbv;have HOV:=Hd (show Own wv wt.heap.size 92 vv (qvs (rndsN W S 0))from hown);have HBV:=Hd (((Below.refl wt.heap.size wt).alloc lR (.cells #[] 92)).trans hbv);clear hown hbv HQ0 HHR;obtain⟨v1,v2,v3,rfl⟩:=Dp HOV.out;go_wp2_with fail;refine HKK0.out _ _ ?_
 conv=>arg 2;whnf
 go_wp2_with fail
 go_loopg [20,21] 64 (fun q vv tv wr=>∃t:Nat,t+q=64∧tv=.int .i64 (t:Nat)∧Own wr wt.heap.size 92 vv (qvs (rndsN W S t))∧Below wt.heap.size wt wr)
 case atStart=>exact⟨0,rfl,rfl,HOV.out,HBV.out⟩
 case round=>
  obtain⟨t,ht,rfl,hown,hbt⟩:=hrel;have HT2:=Hd ht;have HOT2:=Hd hown;have HBT2:=Hd hbt;obtain⟨u1,u2,u3,rfl⟩:=Dp hown;obtain⟨wv2,rfl⟩:∃wv2:World,wv2=wr:=⟨_,rfl⟩;obtain⟨g6,rfl⟩:=eX gk;obtain⟨V,hV⟩:=eX (rndsN W S t);have hvo:=rndsN_ok (W:=W) HSN.out HSL.out t;rw[←hV]at hvo hown;have HV:=Hd hV;have HRW:=Hd (HOT.out.rd.below hbt lR);have HRK:=Hd (HKR.out.below hbt lR);obtain rfl:u2=8:=by
   obtain⟨_,_,e,_⟩:=hown.rd;simp only[Value.slice.injEq,qvs_len,hvo.1]at e;exact e.2.1
  obtain⟨gv,hu1,hgv⟩:∃g,u1=some ⟨g,0,none⟩∧wt.heap.size≤g:=by
   rcases hown.2 with⟨e,e0⟩|⟨g,cp,cur,e,hb,_⟩
   ·simp only[Value.slice.injEq]at e;omega
   ·simp only[Value.slice.injEq]at e;exact⟨g,e.1,hb⟩
  subst hu1
  by_cases hlt:t<64
  ·have hltd:decide ((t:Int)<64)=true:=(by rw[decide_eq_true_iff];omega);have XC:=fun(j:Nat) (hj:j<8)=>(hown.at).1 j _ (Gp (L:=V) (i:=j) (by rw[hvo.1];exact hj));have XL:=fun(i:Nat)=>getD_lt32 hvo.2 i;have ck:=HRK.out.at3 (Gp (L:=KL) (i:=t) (by rw[KL_len];exact hlt));have cw:=HRW.out.at3 (Gp (L:=W) (i:=t) (by rw[HWN.out];exact hlt));have hkl:=getD_lt32 KL_lt t;have hwl:=getD_lt32 HWL.out t;obtain⟨kb,ko,rfl,hkb,ck⟩:=ck;obtain⟨ob,oo,rfl,hob,cw⟩:=cw;have x0:=XC 0 (by omega);have xv0:=XL 0;obtain⟨v0,e0⟩:=eX (V.getD 0 0);rw[←e0]at x0 xv0;have x1:=XC 1 (by omega);have xv1:=XL 1;obtain⟨v1,e1⟩:=eX (V.getD 1 0);rw[←e1]at x1 xv1;have x2:=XC 2 (by omega);have xv2:=XL 2;obtain⟨v2,e2⟩:=eX (V.getD 2 0);rw[←e2]at x2 xv2;have x3:=XC 3 (by omega);have xv3:=XL 3;obtain⟨v3,e3⟩:=eX (V.getD 3 0);rw[←e3]at x3 xv3;have x4:=XC 4 (by omega);have xv4:=XL 4;obtain⟨v4,e4⟩:=eX (V.getD 4 0);rw[←e4]at x4 xv4;have x5:=XC 5 (by omega);have xv5:=XL 5;obtain⟨v5,e5⟩:=eX (V.getD 5 0);rw[←e5]at x5 xv5;have x6:=XC 6 (by omega);have xv6:=XL 6;obtain⟨v6,e6⟩:=eX (V.getD 6 0);rw[←e6]at x6 xv6;have x7:=XC 7 (by omega);have xv7:=XL 7;obtain⟨v7,e7⟩:=eX (V.getD 7 0);rw[←e7]at x7 xv7;obtain⟨kk,ekk⟩:=eX (KL.getD t 0);obtain⟨ww,eww⟩:=eX (W.getD t 0);rw[←ekk]at ck hkl;rw[←eww]at cw hwl;have HVL:=Hd (show V=[v0,v1,v2,v3,v4,v5,v6,v7]from by
    refine Oy (by rw[hvo.1];rfl) fun j hj=> ?_;rw[hvo.1]at hj;rcases(show j=0∨j=1∨j=2∨j=3∨j=4∨j=5∨j=6∨j=7 by omega)with rfl|rfl|rfl|rfl|rfl|rfl|rfl|rfl
    ·exact e0.symm
    ·exact e1.symm
    ·exact e2.symm
    ·exact e3.symm
    ·exact e4.symm
    ·exact e5.symm
    ·exact e6.symm
    ·exact e7.symm)
   have HEK:=Hd ekk;have HEW:=Hd eww;clear e0 e1 e2 e3 e4 e5 e6 e7 ekk eww XC XL hvo hV hown hbt ht;go_wp2_with fail
   go_loopg [22,23,24,25] 32 (fun q cv mv uv iv wr=>∃i ch ma un:Nat,i+q=32∧un=2^i∧ch=chN v4 v5 v6%2^i∧ma=majN v0 v1 v2%2^i∧cv=.int .u64 (ch:Nat)∧mv=.int .u64 (ma:Nat)∧uv=.int .u64 (un:Nat)∧iv=.int .i64 (i:Nat)∧∃md,wr=wv2.drewN md)
   case atStart=>exact⟨0,0,0,1,rfl,rfl,(gC _).symm,(gC _).symm,rfl,rfl,rfl,rfl,0,rfl⟩
   case round=>
    obtain⟨i,ch,ma,un,hi,hun,hch,hma,rfl,rfl,rfl,rfl,md,rfl⟩:=hrel;have HI:=Hd hi;have HUN:=Hd hun;have HCH:=Hd hch;have HMA:=Hd hma;have un0:0<un:=(by rw[hun];exact Nat.pow_pos (by omega));have un1:un≤4294967296:=(by rw[hun];exact Zfk (by omega));have chl:ch<un:=(by rw[hch,←hun];exact aL _ un0);have mal:ma<un:=by rw[hma,←hun];exact aL _ un0
    by_cases hi32:i<32
    ·have hid:decide ((i:Int)<32)=true:=(by rw[decide_eq_true_iff];omega);have un2:un≤2147483648:=(by rw[hun];exact Zfj hi32);have unz:¬un=0:=(by omega);have unz':¬(un:Int)=0:=(by omega);obtain⟨d0,hd0⟩:=eX (v0/un);have dq0:(v0:Int)/(un:Int)=(d0:Int):=(by rw[hd0,gF]);have dl0:d0<4294967296:=gD (by rw[hd0];exact gE _ _) xv0;obtain⟨b0,hbb0⟩:=eX (d0%2);have bq0:(d0:Int)%2=(b0:Int):=(by omega);have bl0:b0<2:=(by omega);have HD0:=Hd (show b0=v0/2^i%2 by rw[hbb0,hd0,hun]);obtain⟨d1,hd1⟩:=eX (v1/un);have dq1:(v1:Int)/(un:Int)=(d1:Int):=(by rw[hd1,gF]);have dl1:d1<4294967296:=gD (by rw[hd1];exact gE _ _) xv1;obtain⟨b1,hbb1⟩:=eX (d1%2);have bq1:(d1:Int)%2=(b1:Int):=(by omega);have bl1:b1<2:=(by omega);have HD1:=Hd (show b1=v1/2^i%2 by rw[hbb1,hd1,hun]);obtain⟨d2,hd2⟩:=eX (v2/un);have dq2:(v2:Int)/(un:Int)=(d2:Int):=(by rw[hd2,gF]);have dl2:d2<4294967296:=gD (by rw[hd2];exact gE _ _) xv2;obtain⟨b2,hbb2⟩:=eX (d2%2);have bq2:(d2:Int)%2=(b2:Int):=(by omega);have bl2:b2<2:=(by omega);have HD2:=Hd (show b2=v2/2^i%2 by rw[hbb2,hd2,hun]);obtain⟨d4,hd4⟩:=eX (v4/un);have dq4:(v4:Int)/(un:Int)=(d4:Int):=(by rw[hd4,gF]);have dl4:d4<4294967296:=gD (by rw[hd4];exact gE _ _) xv4;obtain⟨b4,hbb4⟩:=eX (d4%2);have bq4:(d4:Int)%2=(b4:Int):=(by omega);have bl4:b4<2:=(by omega);have HD4:=Hd (show b4=v4/2^i%2 by rw[hbb4,hd4,hun]);obtain⟨d5,hd5⟩:=eX (v5/un);have dq5:(v5:Int)/(un:Int)=(d5:Int):=(by rw[hd5,gF]);have dl5:d5<4294967296:=gD (by rw[hd5];exact gE _ _) xv5;obtain⟨b5,hbb5⟩:=eX (d5%2);have bq5:(d5:Int)%2=(b5:Int):=(by omega);have bl5:b5<2:=(by omega);have HD5:=Hd (show b5=v5/2^i%2 by rw[hbb5,hd5,hun]);obtain⟨d6,hd6⟩:=eX (v6/un);have dq6:(v6:Int)/(un:Int)=(d6:Int):=(by rw[hd6,gF]);have dl6:d6<4294967296:=gD (by rw[hd6];exact gE _ _) xv6;obtain⟨b6,hbb6⟩:=eX (d6%2);have bq6:(d6:Int)%2=(b6:Int):=(by omega);have bl6:b6<2:=(by omega);have HD6:=Hd (show b6=v6/2^i%2 by rw[hbb6,hd6,hun]);obtain⟨p5,hp5⟩:=eX (b5*un);obtain⟨p6,hp6⟩:=eX (b6*un);have pq5:(b5:Int)*(un:Int)=(p5:Int):=(by rw[hp5,gG]);have pq6:(b6:Int)*(un:Int)=(p6:Int):=(by rw[hp6,gG]);have pl5:p5≤2147483648:=by rw[hp5];rcases(show b5=0∨b5=1 by omega)with h|h<;>rw[h]<;>omega
     have pl6:p6≤2147483648:=by rw[hp6];rcases(show b6=0∨b6=1 by omega)with h|h<;>rw[h]<;>omega
     have HP5:=Hd hp5;have HP6:=Hd hp6;clear hi hun hch hma hp5 hp6 hd0 hd1 hd2 hd4 hd5 hd6 hbb0 hbb1 hbb2 hbb4 hbb5 hbb6;rcases Nat.decEq b4 1 with hb4|hb4<;>rcases Nat.decLe 2 (b0+b1+b2)with hm|hm
     ·have hb4d:((b4:Int)==1)=false:=(by simp;omega);have hmd:decide (((b0:Int)+(b1:Int)+(b2:Int))≥2)=false:=(by rw[decide_eq_false_iff_not];omega);have hmd':decide (2≤((b0:Int)+(b1:Int)+(b2:Int)))=false:=(by rw[decide_eq_false_iff_not];omega);go_wp2_with fail
      go_quiet (fail)
      go_wp2_with fail;go_roundg (gk-1);case measure=>have:=HI.out;omega
      case rel=>
       refine⟨i+1,ch+p6,ma,2*un,by have:=HI.out;omega,by rw[HUN.out,aN,aT],?_,?_,by go_num,by go_num,by go_num,by go_num,md+nq,rfl⟩
       ·rw[mod_succ,chN_bit xv4 hi32,←HD4.out,←HD5.out,←HD6.out,if_neg hb4,←HCH.out,←HUN.out,←HP6.out]
       ·rw[mod_succ,majN_bit,←HD0.out,←HD1.out,←HD2.out,if_neg hm,←HMA.out,←HUN.out];omega
     ·have hb4d:((b4:Int)==1)=false:=(by simp;omega);have hmd:decide (((b0:Int)+(b1:Int)+(b2:Int))≥2)=true:=(by rw[decide_eq_true_iff];omega);have hmd':decide (2≤((b0:Int)+(b1:Int)+(b2:Int)))=true:=(by rw[decide_eq_true_iff];omega);go_wp2_with fail
      go_quiet (fail)
      go_wp2_with fail;go_roundg (gk-1);case measure=>have:=HI.out;omega
      case rel=>
       refine⟨i+1,ch+p6,ma+un,2*un,by have:=HI.out;omega,by rw[HUN.out,aN,aT],?_,?_,by go_num,by go_num,by go_num,by go_num,md+nq,rfl⟩
       ·rw[mod_succ,chN_bit xv4 hi32,←HD4.out,←HD5.out,←HD6.out,if_neg hb4,←HCH.out,←HUN.out,←HP6.out]
       ·rw[mod_succ,majN_bit,←HD0.out,←HD1.out,←HD2.out,if_pos hm,←HMA.out,←HUN.out];rw[bC]
     ·have hb4d:((b4:Int)==1)=true:=(by simp;omega);have hmd:decide (((b0:Int)+(b1:Int)+(b2:Int))≥2)=false:=(by rw[decide_eq_false_iff_not];omega);have hmd':decide (2≤((b0:Int)+(b1:Int)+(b2:Int)))=false:=(by rw[decide_eq_false_iff_not];omega);go_wp2_with fail
      go_quiet (fail)
      go_wp2_with fail;go_roundg (gk-1);case measure=>have:=HI.out;omega
      case rel=>
       refine⟨i+1,ch+p5,ma,2*un,by have:=HI.out;omega,by rw[HUN.out,aN,aT],?_,?_,by go_num,by go_num,by go_num,by go_num,md+nq,rfl⟩
       ·rw[mod_succ,chN_bit xv4 hi32,←HD4.out,←HD5.out,←HD6.out,if_pos hb4,←HCH.out,←HUN.out,←HP5.out]
       ·rw[mod_succ,majN_bit,←HD0.out,←HD1.out,←HD2.out,if_neg hm,←HMA.out,←HUN.out];omega
     ·have hb4d:((b4:Int)==1)=true:=(by simp;omega);have hmd:decide (((b0:Int)+(b1:Int)+(b2:Int))≥2)=true:=(by rw[decide_eq_true_iff];omega);have hmd':decide (2≤((b0:Int)+(b1:Int)+(b2:Int)))=true:=(by rw[decide_eq_true_iff];omega);go_wp2_with fail
      go_quiet (fail)
      go_wp2_with fail;go_roundg (gk-1);case measure=>have:=HI.out;omega
      case rel=>
       refine⟨i+1,ch+p5,ma+un,2*un,by have:=HI.out;omega,by rw[HUN.out,aN,aT],?_,?_,by go_num,by go_num,by go_num,by go_num,md+nq,rfl⟩
       ·rw[mod_succ,chN_bit xv4 hi32,←HD4.out,←HD5.out,←HD6.out,if_pos hb4,←HCH.out,←HUN.out,←HP5.out]
       ·rw[mod_succ,majN_bit,←HD0.out,←HD1.out,←HD2.out,if_pos hm,←HMA.out,←HUN.out];rw[bC]
    ·obtain rfl:i=32:=(by omega);have hch32:ch=chN v4 v5 v6:=(by rw[hch];exact mod_full (chN_lt xv4));have hma32:ma=majN v0 v1 v2:=(by rw[hma];exact mod_full (majN_lt xv0 xv1));have hcl:ch<4294967296:=(by rw[hch32];exact chN_lt xv4);have hml:ma<4294967296:=(by rw[hma32];exact majN_lt xv0 xv1);have HCE:=Hd hch32;have HME:=Hd hma32;clear hi hun hch hma hch32 hma32 hi32 chl mal un0 un1 HI HUN HCH HMA;obtain⟨r1,hr1⟩:=eX (rot v4 6);obtain⟨r2,hr2⟩:=eX (rot v4 11);obtain⟨r3,hr3⟩:=eX (rot v4 25);obtain⟨r4,hr4⟩:=eX (rot v0 2);obtain⟨r5,hr5⟩:=eX (rot v0 13);obtain⟨r6,hr6⟩:=eX (rot v0 22);have R1:=Hd (fun W=>Nb v4 6 r1 6 rfl xv4 (by omega) hr1 W);have R2:=Hd (fun W=>Nb v4 11 r2 11 rfl xv4 (by omega) hr2 W);have R3:=Hd (fun W=>Nb v4 25 r3 25 rfl xv4 (by omega) hr3 W);have R4:=Hd (fun W=>Nb v0 2 r4 2 rfl xv0 (by omega) hr4 W);have R5:=Hd (fun W=>Nb v0 13 r5 13 rfl xv0 (by omega) hr5 W);have R6:=Hd (fun W=>Nb v0 22 r6 22 rfl xv0 (by omega) hr6 W);have y1:r1<4294967296:=(by rw[hr1];exact rot_lt xv4 (by omega));have y2:r2<4294967296:=(by rw[hr2];exact rot_lt xv4 (by omega));have y3:r3<4294967296:=(by rw[hr3];exact rot_lt xv4 (by omega));have y4:r4<4294967296:=(by rw[hr4];exact rot_lt xv0 (by omega));have y5:r5<4294967296:=(by rw[hr5];exact rot_lt xv0 (by omega));have y6:r6<4294967296:=(by rw[hr6];exact rot_lt xv0 (by omega));have X1:=u64_xor_nat r1 r2 (by omega) (by omega);have X2:=u64_xor_nat (r1^^^r2) r3 (by have:=xor_lt32 y1 y2;omega) (by omega);have X3:=u64_xor_nat r4 r5 (by omega) (by omega);have X4:=u64_xor_nat (r4^^^r5) r6 (by have:=xor_lt32 y4 y5;omega) (by omega);obtain⟨z1,hz1⟩:=eX (r1^^^r2);obtain⟨z3,hz3⟩:=eX (r4^^^r5);rw[←hz1]at X1 X2;rw[←hz3]at X3 X4;obtain⟨sg,hsg⟩:=eX (z1^^^r3);obtain⟨s0,hs0⟩:=eX (z3^^^r6);rw[←hsg]at X2;rw[←hs0]at X4;have HSG:=Hd (show sg=S1N v4 by rw[hsg,hz1,hr1,hr2,hr3];rfl);have HS0:=Hd (show s0=S0N v0 by rw[hs0,hz3,hr4,hr5,hr6];rfl);have sgl:sg<4294967296:=(by rw[HSG.out];exact S1N_lt xv4);have s0l:s0<4294967296:=(by rw[HS0.out];exact S0N_lt xv0);clear hr1 hr2 hr3 hr4 hr5 hr6 hz1 hz3 hsg hs0;go_wp2_with fail
     go_quiet ((go_at_call 195;first|with_reducible exact Io (R1.out _)|with_reducible exact Io (R2.out _)|with_reducible exact Io (R3.out _)))
     obtain⟨na,rfl⟩:=eX nq;go_wp2_with fail
     go_quiet ((go_at_call 195;first|with_reducible exact Io (R4.out _)|with_reducible exact Io (R5.out _)|with_reducible exact Io (R6.out _)))
     obtain⟨nd,rfl⟩:=eX nq;go_wp2_with fail;obtain⟨t1,ht1⟩:∃z:Nat,z=v7+sg+ch+kk+ww:=⟨_,rfl⟩;obtain⟨t2,ht2⟩:∃z:Nat,z=s0+ma:=⟨_,rfl⟩;have e1:(v7:Int)+(sg:Int)+(ch:Int)+(kk:Int)+(ww:Int)=(t1:Int):=(by omega);have e2:(s0:Int)+(ma:Int)=(t2:Int):=(by omega);have t1l:t1<21474836480:=(by omega);have t2l:t2<8589934592:=(by omega);simp only[e1,e2];obtain⟨wz,hwz⟩:=eX (((wv2.drewN md).drewN na).drewN nd);rw[←hwz];have HBZ:=Hd (show Below wt.heap.size wt wz by rw[hwz];exact Aa (Aa (Aa HBT2.out _) _) _);have hgl:gv<wz.heap.size:=(by rw[hwz];exact World.block_lt_of_cell? wv2 ⟨gv,0,none⟩ x0);have k0:wz.cell? ⟨gv,0,none⟩=some (.int .u64 (v0:Int)):=(by rw[hwz];exact x0);have k1:wz.cell? ⟨gv,1,none⟩=some (.int .u64 (v1:Int)):=(by rw[hwz];exact x1);have k2:wz.cell? ⟨gv,2,none⟩=some (.int .u64 (v2:Int)):=(by rw[hwz];exact x2);have k3:wz.cell? ⟨gv,3,none⟩=some (.int .u64 (v3:Int)):=(by rw[hwz];exact x3);have k4:wz.cell? ⟨gv,4,none⟩=some (.int .u64 (v4:Int)):=(by rw[hwz];exact x4);have k5:wz.cell? ⟨gv,5,none⟩=some (.int .u64 (v5:Int)):=(by rw[hwz];exact x5);have k6:wz.cell? ⟨gv,6,none⟩=some (.int .u64 (v6:Int)):=(by rw[hwz];exact x6);obtain⟨o1,ho1⟩:∃z:Nat,z=(t1+t2)%4294967296:=⟨_,rfl⟩;obtain⟨o5,ho5⟩:∃z:Nat,z=(v3+t1)%4294967296:=⟨_,rfl⟩;have HV1:=Hd (show [o1,v0,v1,v2,o5,v4,v5,v6]=rndsN W S (t+1) by
      rw[rndsN,←HV.out,HVL.out];unfold rnd;simp only[List.getD_cons_zero,List.getD_cons_succ];rw[←HSG.out,←HS0.out,←HCE.out,←HME.out,←HEK.out,←HEW.out,←ht1,←ht2,←ho1,←ho5])
     have o1l:o1<4294967296:=(by omega);have o5l:o5<4294967296:=(by omega);have HO1:=Hd ho1;have HO5:=Hd ho5;clear x0 x1 x2 x3 x4 x5 x6 x7 hwz ht1 ht2 ck cw e1 e2 ho1 ho5;refine Dg [eF (.int .u64 (t1:Nat)),eF (.int .u64 (t2:Nat)),eF (.int .u64 ((t1:Int)+(t2:Int))),eF (.int .u64 (o1:Nat)),eF (.slice (some ⟨gv,0,none⟩) 8 u3),eF (.pointer (some ⟨gv,0,none⟩)),eF (.int .u64 (v0:Nat)),eF (.slice (some ⟨gv,0,none⟩) 8 u3),eF (.pointer (some ⟨gv,1,none⟩)),eF (.int .u64 (v1:Nat)),eF (.slice (some ⟨gv,0,none⟩) 8 u3),eF (.pointer (some ⟨gv,2,none⟩)),eF (.int .u64 (v2:Nat)),eF (.slice (some ⟨gv,0,none⟩) 8 u3),eF (.pointer (some ⟨gv,3,none⟩)),eF (.int .u64 (v3:Nat)),eF (.int .u64 (t1:Nat)),eF (.int .u64 ((v3:Int)+(t1:Int))),eF (.int .u64 (o5:Nat)),eF (.slice (some ⟨gv,0,none⟩) 8 u3),eF (.pointer (some ⟨gv,4,none⟩)),eF (.int .u64 (v4:Nat)),eF (.slice (some ⟨gv,0,none⟩) 8 u3),eF (.pointer (some ⟨gv,5,none⟩)),eF (.int .u64 (v5:Nat)),eF (.slice (some ⟨gv,0,none⟩) 8 u3),eF (.pointer (some ⟨gv,6,none⟩)),eF (.int .u64 (v6:Nat)),fun v w'=>Own w' wz.heap.size 92 v [.int .u64 (o1:Nat),.int .u64 (v0:Nat),.int .u64 (v1:Nat),.int .u64 (v2:Nat),.int .u64 (o5:Nat),.int .u64 (v4:Nat),.int .u64 (v5:Nat),.int .u64 (v6:Nat)],fun v w'=>Own w' wz.heap.size 92 v [.int .u64 (o1:Nat),.int .u64 (v0:Nat),.int .u64 (v1:Nat),.int .u64 (v2:Nat),.int .u64 (o5:Nat),.int .u64 (v4:Nat),.int .u64 (v5:Nat),.int .u64 (v6:Nat)]] (by kernel_rfl) (by kernel_rfl) (by kernel_rfl) (kE (kE (kE (kE (kE (kE (kE (kE (kE (kE (kE (kE (kE (kE (kE (kE (kE (kE (kE (kE (kE (kE (kE (kE (kE (kE (kE (kE (bX (fun v w1 w2 h hb=>Own.below h hb lR) (bX (fun v w1 w2 h hb=>Own.below h hb lR) (Ai))))))))))))))))))))))))))))))) ?_ ?_
     ·refine gQ ?_ (gQ ?_ (gB ?_ (gB ?_ (gQ ?_ (gQ ?_ (gQ ?_ (gQ ?_ (gQ ?_ (gQ ?_ (gQ ?_ (gQ ?_ (gQ ?_ (gQ ?_ (gQ ?_ (gQ ?_ (gQ ?_ (gB ?_ (gB ?_ (gQ ?_ (gQ ?_ (gQ ?_ (gQ ?_ (gQ ?_ (gQ ?_ (gQ ?_ (gQ ?_ (gQ ?_ (gB ?_ (gB ?_ .nil)))))))))))))))))))))))))))));all_goals
       intro a wx hbx ho hf;refine⟨rfl,?_⟩;intro K hK;try have P20:a.tmps[20]?.getD undef=.slice (some ⟨gv,0,none⟩) 8 u3:=ho 20 (by kernel_rfl)
       try have P26:a.tmps[26]?.getD undef=.int .u64 (t1:Nat):=ho 26 (by kernel_rfl)
       try have P27:a.tmps[27]?.getD undef=.int .u64 (t2:Nat):=ho 27 (by kernel_rfl)
       try have E0:=eqn hf.1
       try have E1:=eqn hf.2.1
       try have E2:=eqn hf.2.2.1
       try have E3:=eqn hf.2.2.2.1
       try have E4:=eqn hf.2.2.2.2.1
       try have E5:=eqn hf.2.2.2.2.2.1
       try have E6:=eqn hf.2.2.2.2.2.2.1
       try have E7:=eqn hf.2.2.2.2.2.2.2.1
       try have D0:=(hbx.cell (p:=⟨gv,0,none⟩) hgl).trans k0
       try have D1:=(hbx.cell (p:=⟨gv,1,none⟩) hgl).trans k1
       try have D2:=(hbx.cell (p:=⟨gv,2,none⟩) hgl).trans k2
       try have D3:=(hbx.cell (p:=⟨gv,3,none⟩) hgl).trans k3
       try have D4:=(hbx.cell (p:=⟨gv,4,none⟩) hgl).trans k4
       try have D5:=(hbx.cell (p:=⟨gv,5,none⟩) hgl).trans k5
       try have D6:=(hbx.cell (p:=⟨gv,6,none⟩) hgl).trans k6
       try(refine Hd ?_;go_simp;exact hK _ rfl)
      ·have gw1:IntKind.u64.wrap (((t1:Int)+(t2:Int)))=((t1:Int)+(t2:Int)):=(by rw[IntKind.wrap_u64];omega);have gw2:(t1:Int)+(t2:Int)=((t1:Int)+(t2:Int)):=(by omega);have gw3:IntKind.u64.wrap ((t1:Int)+(t2:Int))=((t1:Int)+(t2:Int)):=(by rw[gw2];exact gw1);go_simp;exact hK _ _ rfl bR
      ·have gw0:((t1:Int)+(t2:Int))%4294967296=(o1:Int):=(by have:=HO1.out;omega);have gw1:IntKind.u64.wrap ((o1:Int))=(o1:Int):=(by rw[IntKind.wrap_u64];omega);have gw2:((t1:Int)+(t2:Int))%4294967296=(o1:Int):=(by omega);have gw3:IntKind.u64.wrap (((t1:Int)+(t2:Int))%4294967296)=(o1:Int):=(by rw[gw2];exact gw1);have gw4:eV (((t1:Int)+(t2:Int))) 4294967296=(o1:Int):=(by rw[eW (by omega)];omega);have gw5:IntKind.u64.wrap (eV (((t1:Int)+(t2:Int))) 4294967296)=(o1:Int):=(by rw[gw4];exact gw1);go_simp;exact hK _ _ rfl bR
      ·have gw1:IntKind.u64.wrap (((v3:Int)+(t1:Int)))=((v3:Int)+(t1:Int)):=(by rw[IntKind.wrap_u64];omega);have gw2:(v3:Int)+(t1:Int)=((v3:Int)+(t1:Int)):=(by omega);have gw3:IntKind.u64.wrap ((v3:Int)+(t1:Int))=((v3:Int)+(t1:Int)):=(by rw[gw2];exact gw1);go_simp;exact hK _ _ rfl bR
      ·have gw0:((v3:Int)+(t1:Int))%4294967296=(o5:Int):=(by have:=HO5.out;omega);have gw1:IntKind.u64.wrap ((o5:Int))=(o5:Int):=(by rw[IntKind.wrap_u64];omega);have gw2:((v3:Int)+(t1:Int))%4294967296=(o5:Int):=(by omega);have gw3:IntKind.u64.wrap (((v3:Int)+(t1:Int))%4294967296)=(o5:Int):=(by rw[gw2];exact gw1);have gw4:eV (((v3:Int)+(t1:Int))) 4294967296=(o5:Int):=(by rw[eW (by omega)];omega);have gw5:IntKind.u64.wrap (eV (((v3:Int)+(t1:Int))) 4294967296)=(o5:Int):=(by rw[gw4];exact gw1);go_simp;exact hK _ _ rfl bR
      ·go_simp;exact hK _ _ (Own.full (B:=wz.heap.size) (cs:=#[.int .u64 (o1:Nat),.int .u64 (v0:Nat),.int .u64 (v1:Nat),.int .u64 (v2:Nat),.int .u64 (o5:Nat),.int .u64 (v4:Nat),.int .u64 (v5:Nat),.int .u64 (v6:Nat)]) rfl hbx.size (by unfold maxLen;simp) rfl) (bR.alloc lR _)
      ·have o0:(fun v w'=>Own w' wz.heap.size 92 v [.int .u64 (o1:Nat),.int .u64 (v0:Nat),.int .u64 (v1:Nat),.int .u64 (v2:Nat),.int .u64 (o5:Nat),.int .u64 (v4:Nat),.int .u64 (v5:Nat),.int .u64 (v6:Nat)]) (a.tmps[300]?.getD undef) wx:=hf.1;obtain⟨v0,hv0⟩:=eX (a.tmps[300]?.getD undef);rw[←hv0]at o0;have e0:=hv0.symm;clear hv0;go_simp;exact hK _ _ o0 bR
     ·rintro f w9 hb9 hfin;have S9:Own w9 wz.heap.size 92 (f 20) [.int .u64 (o1:Nat),.int .u64 (v0:Nat),.int .u64 (v1:Nat),.int .u64 (v2:Nat),.int .u64 (o5:Nat),.int .u64 (v4:Nat),.int .u64 (v5:Nat),.int .u64 (v6:Nat)]:=hfin.2.2.2.2.2.2.2.2.2.2.2.2.2.2.2.2.2.2.2.2.2.2.2.2.2.2.2.2.2.1;clear hfin;simp only[Al,Au,En,cS,cT,cU,cV,Nat.reduceBEq,Nat.reduceAdd,Bool.or_false,Bool.or_true,cond_true,cond_false];obtain⟨u,hu⟩:=eX (f 20);rw[←hu]at S9⊢;have HO9:=Hd (show Own w9 wt.heap.size 92 u (qvs (rndsN W S (t+1))) by rw[←HV1.out];exact S9.mono HBZ.out.size);have HB9:=Hd (HBZ.out.trans (hb9.mono HBZ.out.size));clear S9 hu hb9;go_wp2_with fail;go_roundg (g6-1);case measure=>have:=HT2.out;omega
      case rel=>exact⟨t+1,by have:=HT2.out;omega,by go_num,HO9.out,HB9.out⟩
  ·obtain rfl:t=64:=(by omega);have HV0:=Hd hown;have HVN:=Hd hvo;have c0:=(HH0.out.at).1 0 _ (Gp (L:=S) (i:=0) (by rw[HSN.out];omega));have hhl:hb<wt.heap.size:=World.block_lt_of_cell? wt ⟨hb,0,none⟩ c0;have hgh:gv≠hb:=(by omega);have HO0:=Hd (show Own wv2 Bw 92 (.slice (some ⟨hb,0,none⟩) 8 b3) (qvs (Uy S V 0)) by rw[Ze V HSN.out];exact HH0.out.below hbt lR);have HR0:=Hd (HRB.out.below hbt lR);have HW0:=Hd (hbt.mono hBw);have HFE:=Hd (show Uy S V 8=stepN S B by rw[HV.out,HWW.out,Zcq]);clear ht hlt hown hvo hbt c0 HRW HRK hV hhl;go_wp2_with fail
   go_loopg [28] 8 (fun q iv wr=>∃i:Nat,i+q=8∧iv=.int .i64 (i:Nat)∧Own wr Bw 92 (.slice (some ⟨hb,0,none⟩) 8 b3) (qvs (Uy S V i))∧Own wr wt.heap.size 92 (.slice (some ⟨gv,0,none⟩) 8 u3) (qvs V)∧Rd wr (.slice (some ⟨mb,0,none⟩) N p3) (bvs P)∧Below Bw wt wr)
   case atStart=>exact⟨0,rfl,rfl,HO0.out,HV0.out,HR0.out,HW0.out⟩
   case round=>
    obtain⟨i,hi,rfl,hoi,hvi,hri,hbi⟩:=hrel;have HI:=Hd hi;have HOI:=Hd hoi;have HVI:=Hd hvi;have HRI:=Hd hri;have HBI:=Hd hbi
    by_cases hlt:i<8
    ·have hltd:decide ((i:Int)<8)=true:=(by rw[decide_eq_true_iff];omega);have xs:=getD_lt32 HSL.out i;have xv:=getD_lt32 HVN.out.2 i;have k1:=(hoi.at).1 i _ (Gp (by rw[Ge];exact hlt));have kf:=(hoi.at).2 i;have hhl:hb<wr.heap.size:=World.block_lt_of_cell? wr ⟨hb,i,none⟩ k1;have k2:=(hvi.at).1 i _ (Gp (by rw[HVN.out.1];exact hlt));have hgl:gv<wr.heap.size:=World.block_lt_of_cell? wr ⟨gv,i,none⟩ k2;have hi8:(i:Int)<8:=(by omega);have hBwr:Bw≤wr.heap.size:=(by omega);rw[Ks _ _ _ hlt,if_neg (Nat.lt_irrefl i)]at k1;have hst:=Zf S V hlt;obtain⟨s,hs⟩:=eX (S.getD i 0);obtain⟨y,hy⟩:=eX (V.getD i 0);rw[←hs]at k1 xs hst;rw[←hy]at k2 xv hst;obtain⟨o,ho⟩:=eX ((s+y)%4294967296);have e1:((s:Int)+(y:Int))%4294967296=(o:Int):=(by omega);have hol:o<4294967296:=(by omega);rw[←ho]at hst;have HST:=Hd hst;clear hi hoi hvi hri hbi hs hy ho hst;go_wp2_with fail;refine Bh [eF (.slice (some ⟨hb,0,none⟩) 8 b3),eF (.int .i64 (i:Nat)),eF (.slice (some ⟨hb,0,none⟩) 8 b3),eF (.int .i64 (i:Nat)),eF (.pointer (some ⟨hb,i,none⟩)),eF (.int .u64 (s:Nat)),eF (.slice (some ⟨gv,0,none⟩) 8 u3),eF (.int .i64 (i:Nat)),eF (.pointer (some ⟨gv,i,none⟩)),eF (.int .u64 (y:Nat)),eF (.int .u64 ((s:Int)+(y:Int))),eF (.int .u64 (o:Nat)),eF (.pointer (some ⟨hb,i,none⟩)),fun v w'=>Own w' Bw 92 (.slice (some ⟨hb,0,none⟩) 8 b3) (qvs (Uy S V (i+1)))∧Own w' wt.heap.size 92 (.slice (some ⟨gv,0,none⟩) 8 u3) (qvs V)∧Rd w' (.slice (some ⟨mb,0,none⟩) N p3) (bvs P)∧Below Bw wt w']
      (bW 14 true) (fun X=>OnlyG hb wr X) (fun X Y=>OnlyG hb X Y) (some 13) (by kernel_rfl) ?_ ((OnlyG.of_below bR (fT hhl)).drewN 1) (fun X Y hx h=>OnlyG.of_below h (fU (fT hhl) hx.2.1)) (fun X Y hx hs=>hx.trans hs) (by kernel_rfl) (by kernel_rfl) ?_ ?_
     ·exact kE (kE (kE (kE (kE (kE (kE (kE (kE (kE (kE (kE (kE (Dk (fun v x y h _ hs=>⟨h.1.below hs lR,h.2.1.below hs lR,h.2.2.1.below hs lR,h.2.2.2.trans (hs.mono (fU hBw h.2.2.2.size))⟩) (Ai))))))))))))))
     ·refine gP ?_ rfl (gP ?_ rfl (gP ?_ rfl (gP ?_ rfl (gP ?_ rfl (gP ?_ rfl (gP ?_ rfl (gP ?_ rfl (gP ?_ rfl (gP ?_ rfl (gO ?_ (gO ?_ (gP ?_ rfl (gO ?_ .nil)))))))))))));all_goals
       intro a wx hbx hq ho hf;have hbx:OnlyG hb wr wx:=hbx;have hbq:Below wr.heap.size wr wx:=hq (by kernel_rfl);clear hq;refine⟨rfl,?_⟩;intro K hK;try have P7:a.tmps[7]?.getD undef=.slice (some ⟨hb,0,none⟩) 8 b3:=ho 7 (by kernel_rfl)
       try have P20:a.tmps[20]?.getD undef=.slice (some ⟨gv,0,none⟩) 8 u3:=ho 20 (by kernel_rfl)
       try have P28:a.tmps[28]?.getD undef=.int .i64 (i:Nat):=ho 28 (by kernel_rfl)
       try have E0:=eqn hf.1
       try have E1:=eqn hf.2.1
       try have D0:=(hbq.cell (p:=⟨hb,i,none⟩) hhl).trans k1
       try have D1:=(hbq.cell (p:=⟨gv,i,none⟩) hgl).trans k2
       try have D2:=(hbq.frozen (p:=⟨hb,i,none⟩) hhl).trans kf
       try have D3:=(HOI.out.below hbq lR).set i (.int .u64 (o:Int))
       try(refine Hd ?_;go_simp;exact hK _ rfl)
      ·have gw1:IntKind.u64.wrap (((s:Int)+(y:Int)))=((s:Int)+(y:Int)):=(by rw[IntKind.wrap_u64];omega);have gw2:(s:Int)+(y:Int)=((s:Int)+(y:Int)):=(by omega);have gw3:IntKind.u64.wrap ((s:Int)+(y:Int))=((s:Int)+(y:Int)):=(by rw[gw2];exact gw1);go_simp;exact hK _ _ rfl (Ae rfl bR)
      ·have gw0:((s:Int)+(y:Int))%4294967296=(o:Int):=e1;have gw1:IntKind.u64.wrap ((o:Int))=(o:Int):=(by rw[IntKind.wrap_u64];omega);have gw2:((s:Int)+(y:Int))%4294967296=(o:Int):=(by omega);have gw3:IntKind.u64.wrap (((s:Int)+(y:Int))%4294967296)=(o:Int):=(by rw[gw2];exact gw1);have gw4:eV (((s:Int)+(y:Int))) 4294967296=(o:Int):=(by rw[eW (by omega)];omega);have gw5:IntKind.u64.wrap (eV (((s:Int)+(y:Int))) 4294967296)=(o:Int):=(by rw[gw4];exact gw1);go_simp;exact hK _ _ rfl (Ae rfl bR)
      ·rw[Zfm,HST.out]at D3;have q2:=(HVI.out.below hbq lR).setOther (a:=⟨hb,i,none⟩) (show(Value.slice (some ⟨gv,0,none⟩) 8 u3).ownBlock≠some hb from fun e=>hgh (by simpa [Value.ownBlock]using e)) (.int .u64 (o:Int));have q3:=(HRI.out.below hbq lR).setOther hb i (.int .u64 (o:Int)) hmh;have q4:=(HBI.out.trans (hbq.mono hBwr)).setCell (p:=⟨hb,i,none⟩) hbl (.int .u64 (o:Int));go_simp;exact hK undef _ ⟨D3,q2,q3,q4⟩ (Cp rfl (OnlyG.setCell i _))
     ·rintro f w9 hb9 hfin;have hb9:OnlyG hb wr w9:=hb9;have S317:Own w9 Bw 92 (.slice (some ⟨hb,0,none⟩) 8 b3) (qvs (Uy S V (i+1)))∧Own w9 wt.heap.size 92 (.slice (some ⟨gv,0,none⟩) 8 u3) (qvs V)∧Rd w9 (.slice (some ⟨mb,0,none⟩) N p3) (bvs P)∧Below Bw wt w9:=hfin.2.2.2.2.2.2.2.2.2.2.2.2.2.1;clear hfin;simp only[Al,Au,En,cS,cT,cU,cV,Nat.reduceBEq,Nat.reduceAdd,Bool.or_false,Bool.or_true,cond_true,cond_false];clear hb9;have HS9:=Hd S317;clear S317;go_wp2_with fail;go_roundg (gk-1);case measure=>have:=HI.out;omega
      case rel=>exact⟨i+1,by have:=HI.out;omega,by go_num,HS9.out.1,HS9.out.2.1,HS9.out.2.2.1,HS9.out.2.2.2⟩
    ·obtain rfl:i=8:=(by omega);have hltd:decide (((8:Nat):Int)<8)=false:=(by decide);clear hi hoi hvi hri hbi hlt;go_wp2_with fail;rw[HFE.out]at HOI;refine Za7 _ (fun f=>#[sl0,sl1,.slice a2 64 c2,sl3,sl4,sl5,sl6,.slice (some ⟨hb,0,none⟩) 8 b3,sl8,sl9,sl10,sl11,sl12,sl13,.slice q1 64 q3,sl15,sl16,sl17,sl18,sl19,f 20,f 21,f 22,f 23,f 24,f 25,f 26,f 27,f 28,sl29,sl30,sl31,sl32,sl33,sl34,sl35,sl36,sl37,sl38,sl39,sl40,sl41,sl42,sl43,sl44,sl45,sl46,sl47,sl48,sl49,sl50,sl51,sl52,sl53,sl54,sl55,sl56,sl57,sl58,sl59,sl60,sl61,sl62,sl63,sl64,sl65,sl66,sl67,sl68,sl69,sl70,sl71,sl72,sl73,sl74,sl75,sl76,sl77,sl78,sl79,sl80,sl81,sl82,sl83,sl84,sl85,sl86,sl87,sl88,sl89,sl90,sl91,sl92,sl93,sl94,sl95,sl96,sl97,sl98,sl99,sl100,sl101,sl102,sl103,sl104,sl105,sl106,sl107,sl108,sl109,sl110,sl111,sl112,sl113,sl114,sl115,sl116,sl117,sl118,sl119,sl120,sl121,sl122,sl123,sl124,sl125,sl126,sl127,sl128,sl129,sl130,sl131,sl132,sl133,sl134,sl135,sl136,sl137,sl138,sl139,sl140,sl141,sl142,sl143,sl144,sl145,sl146,sl147,sl148,sl149,sl150,sl151,sl152,sl153,sl154,sl155,sl156,sl157,sl158,sl159,sl160,sl161,f 162,f 163,f 164,f 165,f 166,f 167,f 168,f 169,f 170,f 171,f 172,f 173,f 174,f 175,f 176,f 177,f 178,f 179,f 180,f 181,f 182,f 183,f 184,f 185,f 186,f 187,f 188,f 189,f 190,f 191,f 192,f 193,f 194,f 195,f 196,f 197,f 198,f 199,f 200,f 201,f 202,f 203,f 204,f 205,f 206,f 207,f 208,f 209,f 210,f 211,f 212,f 213,f 214,f 215,f 216,f 217,f 218,f 219,f 220,f 221,f 222,f 223,f 224,f 225,f 226,f 227,f 228,f 229,f 230,f 231,f 232,f 233,f 234,f 235,f 236,f 237,f 238,f 239,f 240,f 241,f 242,f 243,f 244,f 245,f 246,f 247,f 248,f 249,f 250,f 251,f 252,f 253,f 254,f 255,f 256,f 257,f 258,f 259,f 260,f 261,f 262,f 263,f 264,f 265,f 266,f 267,f 268,f 269,f 270,f 271,f 272,f 273,f 274,f 275,f 276,f 277,f 278,f 279,f 280,f 281,f 282,f 283,f 284,f 285,f 286,f 287,f 288,f 289,f 290,f 291,f 292,f 293,f 294,f 295,f 296,f 297,f 298,f 299,f 300,f 301,f 302,f 303,f 304,f 305,f 306,f 307,f 308,f 309,f 310,f 311,f 312,f 313,f 314,f 315,f 316,f 317,sl318,sl319,sl320,sl321,sl322,sl323,sl324,sl325,sl326,sl327,sl328,sl329,sl330,sl331,sl332,sl333,sl334,sl335,sl336,sl337,sl338,sl339,sl340,sl341,sl342,sl343,sl344,sl345,sl346,sl347,sl348,sl349,sl350,sl351]) (fun f=>HQ9.out f _ HOI.out HRI.out HBI.out) rfl
end Go.Proofs.YtfofaiommeckbaaGreat
