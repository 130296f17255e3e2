import Derived.Test.YtfofaiommeckbaaGreatZSliceProves25
import Derived.StillTailTactics
open Go.Value renaming slice → q9, int → rA, pointer → rB
open Go.IntKind renaming u64 → rE
open Option renaming none → rF
open List renaming replicate → cI, append_assoc → bW, length_append → aG, length_take → cD, take_of_length_le → bU, flatten_cons → gL, filterMap_cons → cX, filterMap_nil → cY, contains_cons → cZ, contains_nil → dA
open Nat renaming pow_succ → aN, pow_le_pow_right → aY, le_of_lt_succ → gM, mod_one → gN, mod_lt → aL, lt_of_le_of_lt → bN, div_le_self → bO, mul_comm → aT, one_mul → bC, le_of_lt → dW, le_trans → bM
open Int renaming natCast_ediv → gR, natCast_mul → dN, tmod → fC, tmod_eq_emod_of_nonneg → fD
set_option linter.unusedVariables false
set_option maxRecDepth 100000
set_option maxHeartbeats 40000000
namespace Go.Proofs.YtfofaiommeckbaaGreat
open Go.RowKit ShaM WireM
theorem Zac (x:Nat):(beN 8 x).length=8:=beN_len 8 x
theorem Zi0 (x:Nat) {i:Nat}(h:i<8):(beN 8 x)[i]? =some (x/256^(7-i)%256):=by
 obtain rfl|rfl|rfl|rfl|rfl|rfl|rfl|rfl:i=0∨i=1∨i=2∨i=3∨i=4∨i=5∨i=6∨i=7:=by omega
 all_goals rfl
theorem Zfa (x:Nat) {i:Nat}(h:i<8):(beN 8 x).take (i+1)=(beN 8 x).take i++[x/256^(7-i)%256]:=by
 rw[List.take_add_one,Zi0 x h];rfl
theorem Zno {w:World} {v:Value} {xs:List Value}(h:Rd w v xs):∃a n c,v=.slice a n c:=by
 obtain⟨a,c,e,_⟩:=h;exact⟨_,_,_,e⟩
def Zct (L:List Nat)(j:Nat):List Nat:=L++[128]++cI j 0
theorem Zfb (L:List Nat):Zct L 0=L++[128]:=by simp[Zct]
theorem Zfc (L:List Nat)(j:Nat):Zct L (j+1)=Zct L j++[0]:=by rw[Zct,Zct,List.replicate_succ',bW];simp
theorem Sz (L:List Nat)(j:Nat):(Zct L j).length=L.length+1+j:=by simp[Zct];omega
def Zb4 (L:List Nat)(Z i:Nat):List Nat:=Zct L Z++(beN 8 (8*L.length)).take i
theorem Zfd (L:List Nat)(Z:Nat):Zb4 L Z 0=Zct L Z:=by simp[Zb4]
theorem Zfe (L:List Nat)(Z:Nat) {i:Nat}(h:i<8):Zb4 L Z (i+1)=Zb4 L Z i++[8*L.length/256^(7-i)%256]:=by
 rw[Zb4,Zb4,Zfa _ h,bW]
theorem Zad (L:List Nat)(Z:Nat) {i:Nat}(h:i≤8):(Zb4 L Z i).length=L.length+1+Z+i:=by
 rw[Zb4,aG,Sz,cD,Zac];omega
theorem Zi1 (L:List Nat):Zb4 L ((119-L.length%64)%64) 8=padL L:=by
 rw[Zb4,Zct,padL,tailL,bU (by rw[Zac];omega)];simp
theorem Pq (x n r:Nat)(z:Int)(hz:z=(n:Int))(hx:x<4294967296)(hn:n≤32)(hr:r=rot x n)(w:World):
  Calls Tryz.prog 195 #[rA rE (x:Nat),rA .i64 z] w fun e w'=>e=.returned (rA rE (r:Nat))∧w'=w:=by rw[hz,hr];exact Zhd x n w hx hn
theorem Zkf (x n r:Nat)(z:Int)(hz:z=(n:Int))(hx:x<4294967296)(hn:n≤32)(hr:r=x/2^n)(w:World):
  Calls Tryz.prog 196 #[rA rE (x:Nat),rA .i64 z] w fun e w'=>e=.returned (rA rE (r:Nat))∧w'=w:=by rw[hz,hr];exact Zc5 x n w hx hn
def xN (B:List Nat)(t:Nat):Nat→Nat
 |0=>0
 |i+1=>256*xN B t i+B.getD (4*t+i) 0
theorem Zlk {B:List Nat}(hB:∀x∈B,x<256)(t:Nat):∀i,xN B t i<256^i
 |0=>by simp[xN]
 |i+1=>by
  have h:=Zlk hB t i;have g:=Hh hB (by omega) (4*t+i);rw[xN,aN];generalize 256^i=z at h⊢;omega
theorem Zmv {B:List Nat}(hB:∀x∈B,x<256)(t:Nat) {i:Nat}(hi:i<4):xN B t i<16777216:=
 Nat.lt_of_lt_of_le (Zlk hB t i) (aY (n:=256) (by decide) (gM hi))
theorem Zmw {B:List Nat}(hB:∀x∈B,x<256)(t:Nat):xN B t 4<4294967296:=Zlk hB t 4
theorem Zll {i:Nat}(hi:i<32):2^i≤2147483648:=aY (n:=2) (by decide) (gM hi)
theorem Zlm {i:Nat}(hi:i≤32):2^i≤4294967296:=aY (n:=2) (by decide) hi
theorem Zln (B l:List Nat) {t:Nat}(h:t<16):xN B t 4=wNext B l t:=by
 simp only[xN,wNext,if_pos h,Nat.add_zero];omega
theorem Zlo (L:List Nat)(i n:Nat):(qvs L).set i (rA rE (n:Int))=qvs (L.set i n):=by simp[qvs,List.map_set]
theorem Rd.setOther {w:World} {b d n c:Nat} {xs:List Value}(h:Rd w (q9 (some ⟨b,d,rF⟩) n c) xs)(g i:Nat)(u:Value)(f:b≠g):Rd (w.setCell ⟨g,i,rF⟩ u) (q9 (some ⟨b,d,rF⟩) n c) xs:=
 h.onlyG (OnlyG.setCell i u) fun a n c e=>by simp only[Value.slice.injEq,Option.some.injEq]at e;rw[←e.1];exact f
def Zae (S:List Nat)(i:Nat):List Nat:=((S.take i).map (beN 4)).flatten
theorem Zi2 {S:List Nat}(h:S.length=8) {i:Nat}(hi:i≤8):(Zae S i).length=4*i:=by
 have e:∀L:List Nat,((L.map (beN 4)).flatten).length=4*L.length:=by
  intro L
  induction L with
  |nil=>rfl
  |cons a L ih=>rw[List.map_cons,gL,aG,ih,beN_len,List.length_cons];omega
 rw[Zae,e,cD];omega
theorem Zff {S:List Nat}(h:S.length=8) {i x:Nat}(b:i<8)(hx:x=S.getD i 0)(a:x<4294967296):Zae S (i+1)=Zae S i++[x/16777216,x/65536%256,x/256%256,x%256]:=by
 have e:S.take (i+1)=S.take i++[x]:=by
  rw[List.take_succ_eq_append_getElem (by omega),hx,List.getD_eq_getElem?_getD,List.getElem?_eq_getElem (by omega)];rfl
 rw[Zae,e,List.map_append,List.flatten_append]
 congr 1
 have e2:beN 4 x=[x/16777216%256,x/65536%256,x/256%256,x%256]:=(by simp[beN]);rw[show List.map (beN 4) [x]=[beN 4 x]from rfl,gL,List.flatten_nil,List.append_nil,e2,Nat.mod_eq_of_lt (show x/16777216<256 by omega)]
theorem Zi3 {S:List Nat}(h:S.length=8):Zae S 8=(S.map (beN 4)).flatten:=by rw[Zae,bU (by omega)]
def Pr:Code→Code
 | .seq _ b=>b
 |c=>c
def Zmx:Code→Code
 | .seq a _=>a
 |c=>c
def inC:Code→Code
 | .block _ c=>c
 | .loop c=>c
 |c=>c
theorem Zfg {Q:Exit→Act→World→Prop} {w:World}(a:Act)(G:(Nat→Value)→Array Value)(h:∀f:Nat→Value,Q .normal ⟨G f,[]⟩ w)(e:a=⟨G fun k=>a.tmps.toList.getD k undef,[]⟩):Q .normal a w:=by
 rw[e];exact h _
theorem Zfh (K:Act→World→Prop) (Q:Exit→Act→World→Prop) (mT iE kR iO lL h5 lV iZ fO gI fQ eS fH dU gG fW fT nP nF nW n8 nG nT n0 oB n1 eZ g0 eE fR dS fI eU gD eO dZ eJ gE f5 dV eI gL fF eL f8 d9 f7 gZ eQ gJ eP gX fA fL f0 gM eN gT gK fG fU fZ f1 f6 e8 gV eW eT f9 f2 gF e9 dT eK fJ gS eB fN d3 eD eM d8 fB fY f3 gW fK fM fP gY gA fS eV eG eY d7 fV aJ c6 cC aE cW bE a9 cO cQ bT c9 b8 aB bP bB b9 bH bF cS bJ c3 c5 a0 dI aZ bW c7 cP c8 cR cH aU bV a7 aI aW cU aX aS dK c1 dF a1 cA cG bI cN cK Z a6 bU bG dM aA cD bA bK dD bQ a5 dO dH iS l4 lM j6 iY kC jL k7 h1 l0 l1 i7 kW mF iH h6 h2 lY kU m7 kY mA i1 h7 kI kJ m8 lB mN lS h9 jD kB jH mW m9 mR j8 iB k9 jK kG iM lC mC l6 m4 lH kS l2 mG iV jN jQ jU lO kD l8 iJ jM iX jO lD j7 iF kT lE kQ j3 lJ jG iN mJ lW jA lP mK iT mY mI i9 m5 i4 iC mE kV lX h4 l9 iP jB m0 m1 iU nA lG iD mU kK kN lT lZ jF jX iK kP lI jZ jY l7 iG mO iW mL lU kH kL i8 mB kZ m6 j9 jI jR kO j0 j1 kF mD mV m2 jV lA jW nC mS mM mH i5 iA i0 j4 kA h8 jP mZ jT lF iR k8 i6 j5 m3 mP jE jJ aV aG cB dG bZ aH dE cL dC cJ bS cV aQ a8 a4 dJ aK aY c4 aF aR aC aM cF dB bD dL aD aO bL cE cM a3 aP:Value) (A:World) (Bw BO d b3 mb N p3 q3 c2:Nat) (q1 a2:Option Addr) (P S B:List Nat)
  (hK:∀a w,Code.wp Tryz.prog (Pr (Pr (Pr (inC (Zmx (Pr (inC (inC (Pr (Zmx (Pr (Pr (Pr (Pr (Pr (Pr (Tryz.f144.body.getD .skip))))))))))))))))) Q a w→K a w)
  (n3:Own A BO 92 (q9 q1 64 q3) (qvs (wL B 64))) (nD:Rd A (q9 a2 64 c2) (qvs KL)) (oD:Own A Bw 92 (q9 (some ⟨d,0,rF⟩) 8 b3) (qvs S)) (oE:Rd A (q9 (some ⟨mb,0,rF⟩) N p3) (bvs P))
  (oH:∀x∈B,x<256) (n9:∀x∈S,x<4294967296) (nE:S.length=8) (oZ:mb≠d) (oW:Bw≤d) (n2:Bw≤A.heap.size)
  (hq:∀(f:Nat→Value) (w':World),Own w' Bw 92 (q9 (some ⟨d,0,rF⟩) 8 b3) (qvs (stepN S B))→Rd w' (q9 (some ⟨mb,0,rF⟩) N p3) (bvs P)→Below Bw A w'→Q .normal ⟨#[mT,iE,q9 a2 64 c2,kR,iO,lL,h5,q9 (some ⟨d,0,rF⟩) 8 b3,lV,iZ,fO,gI,fQ,eS,q9 q1 64 q3,fH,dU,gG,fW,fT,f 20,f 21,f 22,f 23,f 24,f 25,f 26,f 27,f 28,eZ,g0,eE,fR,dS,fI,eU,gD,eO,dZ,eJ,gE,f5,dV,eI,gL,fF,eL,f8,d9,f7,gZ,eQ,gJ,eP,gX,fA,fL,f0,gM,eN,gT,gK,fG,fU,fZ,f1,f6,e8,gV,eW,eT,f9,f2,gF,e9,dT,eK,fJ,gS,eB,fN,d3,eD,eM,d8,fB,fY,f3,gW,fK,fM,fP,gY,gA,fS,eV,eG,eY,d7,fV,aJ,c6,cC,aE,cW,bE,a9,cO,cQ,bT,c9,b8,aB,bP,bB,b9,bH,bF,cS,bJ,c3,c5,a0,dI,aZ,bW,c7,cP,c8,cR,cH,aU,bV,a7,aI,aW,cU,aX,aS,dK,c1,dF,a1,cA,cG,bI,cN,cK,Z,a6,bU,bG,dM,aA,cD,bA,bK,dD,bQ,a5,dO,dH,f 162,f 163,f 164,f 165,f 166,f 167,f 168,f 169,f 170,f 171,f 172,f 173,f 174,f 175,f 176,f 177,f 178,f 179,f 180,f 181,f 182,f 183,f 184,f 185,f 186,f 187,f 188,f 189,f 190,f 191,f 192,f 193,f 194,f 195,f 196,f 197,f 198,f 199,f 200,f 201,f 202,f 203,f 204,f 205,f 206,f 207,f 208,f 209,f 210,f 211,f 212,f 213,f 214,f 215,f 216,f 217,f 218,f 219,f 220,f 221,f 222,f 223,f 224,f 225,f 226,f 227,f 228,f 229,f 230,f 231,f 232,f 233,f 234,f 235,f 236,f 237,f 238,f 239,f 240,f 241,f 242,f 243,f 244,f 245,f 246,f 247,f 248,f 249,f 250,f 251,f 252,f 253,f 254,f 255,f 256,f 257,f 258,f 259,f 260,f 261,f 262,f 263,f 264,f 265,f 266,f 267,f 268,f 269,f 270,f 271,f 272,f 273,f 274,f 275,f 276,f 277,f 278,f 279,f 280,f 281,f 282,f 283,f 284,f 285,f 286,f 287,f 288,f 289,f 290,f 291,f 292,f 293,f 294,f 295,f 296,f 297,f 298,f 299,f 300,f 301,f 302,f 303,f 304,f 305,f 306,f 307,f 308,f 309,f 310,f 311,f 312,f 313,f 314,f 315,f 316,f 317,aV,aG,cB,dG,bZ,aH,dE,cL,dC,cJ,bS,cV,aQ,a8,a4,dJ,aK,aY,c4,aF,aR,aC,aM,cF,dB,bD,dL,aD,aO,bL,cE,cM,a3,aP],[]⟩ w'):
  Code.wp Tryz.prog (Zmx (Pr (Pr (inC (Zmx (Pr (inC (inC (Pr (Zmx (Pr (Pr (Pr (Pr (Pr (Pr (Tryz.f144.body.getD .skip))))))))))))))))) (Exit.then K Q) ⟨#[mT,iE,q9 a2 64 c2,kR,iO,lL,h5,q9 (some ⟨d,0,rF⟩) 8 b3,lV,iZ,fO,gI,fQ,eS,q9 q1 64 q3,fH,dU,gG,fW,fT,nP,nF,nW,n8,nG,nT,n0,oB,n1,eZ,g0,eE,fR,dS,fI,eU,gD,eO,dZ,eJ,gE,f5,dV,eI,gL,fF,eL,f8,d9,f7,gZ,eQ,gJ,eP,gX,fA,fL,f0,gM,eN,gT,gK,fG,fU,fZ,f1,f6,e8,gV,eW,eT,f9,f2,gF,e9,dT,eK,fJ,gS,eB,fN,d3,eD,eM,d8,fB,fY,f3,gW,fK,fM,fP,gY,gA,fS,eV,eG,eY,d7,fV,aJ,c6,cC,aE,cW,bE,a9,cO,cQ,bT,c9,b8,aB,bP,bB,b9,bH,bF,cS,bJ,c3,c5,a0,dI,aZ,bW,c7,cP,c8,cR,cH,aU,bV,a7,aI,aW,cU,aX,aS,dK,c1,dF,a1,cA,cG,bI,cN,cK,Z,a6,bU,bG,dM,aA,cD,bA,bK,dD,bQ,a5,dO,dH,iS,l4,lM,j6,iY,kC,jL,k7,h1,l0,l1,i7,kW,mF,iH,h6,h2,lY,kU,m7,kY,mA,i1,h7,kI,kJ,m8,lB,mN,lS,h9,jD,kB,jH,mW,m9,mR,j8,iB,k9,jK,kG,iM,lC,mC,l6,m4,lH,kS,l2,mG,iV,jN,jQ,jU,lO,kD,l8,iJ,jM,iX,jO,lD,j7,iF,kT,lE,kQ,j3,lJ,jG,iN,mJ,lW,jA,lP,mK,iT,mY,mI,i9,m5,i4,iC,mE,kV,lX,h4,l9,iP,jB,m0,m1,iU,nA,lG,iD,mU,kK,kN,lT,lZ,jF,jX,iK,kP,lI,jZ,jY,l7,iG,mO,iW,mL,lU,kH,kL,i8,mB,kZ,m6,j9,jI,jR,kO,j0,j1,kF,mD,mV,m2,jV,lA,jW,nC,mS,mM,mH,i5,iA,i0,j4,kA,h8,jP,mZ,jT,lF,iR,k8,i6,j5,m3,mP,jE,jJ,aV,aG,cB,dG,bZ,aH,dE,cL,dC,cJ,bS,cV,aQ,a8,a4,dJ,aK,aY,c4,aF,aR,aC,aM,cF,dB,bD,dL,aD,aO,bL,cE,cM,a3,aP],[]⟩ A:=by
 have nQ:=Hd hK;have nH:=Hd n3;have o2:=Hd nD;have mX:=Hd oD;have o3:=Hd oE;have oQ:=Hd oH;have nV:=Hd n9;have hP:=Hd nE;have pH:=Hd hq;clear hK n3 nD oD oE oH n9 nE hq
 conv=>arg 2;whnf
 obtain⟨W,hW⟩:=eX (wL B 64);have kM:=wL_len B 64;have eH:=wL_lt oQ.out 64;rw[←hW]at nH kM eH;have pK:=Hd hW;have pC:=Hd kM;have oU:=Hd eH;have nN:=Hd (show Own (A.alloc (.cells #[] 92)) A.heap.size 92 (q9 (some ⟨A.heap.size,0,rF⟩) 0 0) []from Own.lit0 rfl lR);have nK:=Hd (mX.out.rd.alloc (.cells #[] 92));clear hW kM eH;go_wp2_with (first|(at_builtin;refine Aj rfl (.tmp 162) (.tmp 163) 181 rfl A.heap.size 92 _ 8 Zm7 _ _ rfl nN.out _ (qvs S) rfl nK.out (Wd _) ?i2 ?i3 ?_));case i2=>rw[hP.out];omega
 rintro vv wv c-nR;have nX:=Hd (show Own wv A.heap.size 92 vv (qvs (rndsN W S 0))from c);have pB:=Hd (((Below.refl A.heap.size A).alloc lR (.cells #[] 92)).trans nR);clear c nR nN nK;obtain⟨v1,v2,U,rfl⟩:=Dg nX.out;go_wp2_with fail;refine nQ.out _ _ ?_
 conv=>arg 2;whnf
 go_wp2_with fail
 go_loopg [20,21] 64 (fun q vv tv wr=>∃t:Nat,t+q=64∧tv=rA .i64 (t:Nat)∧Own wr A.heap.size 92 vv (qvs (rndsN W S t))∧Below A.heap.size A wr)
 case atStart=>exact⟨0,rfl,rfl,nX.out,pB.out⟩
 case round=>
  obtain⟨t,ht,rfl,c,T⟩:=hrel;have nO:=Hd ht;have pO:=Hd c;have n4:=Hd T;obtain⟨u1,u2,u3,rfl⟩:=Dg c;obtain⟨dP,rfl⟩:∃dP:World,dP=wr:=⟨_,rfl⟩;obtain⟨g6,rfl⟩:=eX gk;obtain⟨V,hV⟩:=eX (rndsN W S t);have J:=rndsN_ok (W:=W) hP.out nV.out t;rw[←hV]at J c;have HV:=Hd hV;have n5:=Hd (nH.out.rd.below T lR);have nL:=Hd (o2.out.below T lR);obtain rfl:u2=8:=by
   obtain⟨_,_,e,_⟩:=c.rd;simp only[Value.slice.injEq,qvs_len,J.1]at e;exact e.2.1
  obtain⟨b,oR,pV⟩:∃g,u1=some ⟨g,0,rF⟩∧A.heap.size≤g:=by
   rcases c.2 with⟨e,e0⟩|⟨g,cp,qR,e,d,_⟩
   ·simp only[Value.slice.injEq]at e;omega
   ·simp only[Value.slice.injEq]at e;exact⟨g,e.1,d⟩
  subst oR
  by_cases hlt:t<64
  ·have hT:decide ((t:Int)<64)=true:=(by rw[decide_eq_true_iff];omega);have XC:=fun(j:Nat) (hj:j<8)=>(c.at).1 j _ (Ic (L:=V) (i:=j) (by rw[J.1];exact hj));have XL:=fun(i:Nat)=>getD_lt32 J.2 i;have ck:=nL.out.at3 (Ic (L:=KL) (i:=t) (by rw[KL_len];exact hlt));have cw:=n5.out.at3 (Ic (L:=W) (i:=t) (by rw[pC.out];exact hlt));have oK:=getD_lt32 KL_lt t;have eH:=getD_lt32 oU.out t;obtain⟨kb,ko,rfl,qL,ck⟩:=ck;obtain⟨ob,oo,rfl,qO,cw⟩:=cw;have x0:=XC 0 (by omega);have F:=XL 0;obtain⟨H,e0⟩:=eX (V.getD 0 0);rw[←e0]at x0 F;have x1:=XC 1 (by omega);have hG:=XL 1;obtain⟨v1,e1⟩:=eX (V.getD 1 0);rw[←e1]at x1 hG;have x2:=XC 2 (by omega);have oG:=XL 2;obtain⟨v2,e2⟩:=eX (V.getD 2 0);rw[←e2]at x2 oG;have x3:=XC 3 (by omega);have pM:=XL 3;obtain⟨U,e3⟩:=eX (V.getD 3 0);rw[←e3]at x3 pM;have x4:=XC 4 (by omega);have m:=XL 4;obtain⟨I,e4⟩:=eX (V.getD 4 0);rw[←e4]at x4 m;have x5:=XC 5 (by omega);have nJ:=XL 5;obtain⟨v5,e5⟩:=eX (V.getD 5 0);rw[←e5]at x5 nJ;have x6:=XC 6 (by omega);have oJ:=XL 6;obtain⟨v6,e6⟩:=eX (V.getD 6 0);rw[←e6]at x6 oJ;have x7:=XC 7 (by omega);have pE:=XL 7;obtain⟨v7,e7⟩:=eX (V.getD 7 0);rw[←e7]at x7 pE;obtain⟨kk,iQ⟩:=eX (KL.getD t 0);obtain⟨ww,nB⟩:=eX (W.getD t 0);rw[←iQ]at ck oK;rw[←nB]at cw eH;have oM:=Hd (show V=[H,v1,v2,U,I,v5,v6,v7]from by
    refine Kr (by rw[J.1];rfl) fun j hj=> ?_;rw[J.1]at hj;rcases(show j=0∨j=1∨j=2∨j=3∨j=4∨j=5∨j=6∨j=7 by omega)with rfl|rfl|rfl|rfl|rfl|rfl|rfl|rfl
    ·exact e0.symm
    ·exact e1.symm
    ·exact e2.symm
    ·exact e3.symm
    ·exact e4.symm
    ·exact e5.symm
    ·exact e6.symm
    ·exact e7.symm)
   have pG:=Hd iQ;have pD:=Hd nB;clear e0 e1 e2 e3 e4 e5 e6 e7 iQ nB XC XL J hV c T ht;go_wp2_with fail
   go_loopg [22,23,24,25] 32 (fun q cv mv uv iv wr=>∃i ch ma k:Nat,i+q=32∧k=2^i∧ch=chN I v5 v6%2^i∧ma=majN H v1 v2%2^i∧cv=rA rE (ch:Nat)∧mv=rA rE (ma:Nat)∧uv=rA rE (k:Nat)∧iv=rA .i64 (i:Nat)∧∃md,wr=dP.drewN md)
   case atStart=>exact⟨0,0,0,1,rfl,rfl,(gN _).symm,(gN _).symm,rfl,rfl,rfl,rfl,0,rfl⟩
   case round=>
    obtain⟨i,ch,ma,k,hi,r,gC,gH,rfl,rfl,rfl,rfl,md,rfl⟩:=hrel;have HI:=Hd hi;have C:=Hd r;have eR:=Hd gC;have f4:=Hd gH;have mQ:0<k:=(by rw[r];exact Nat.pow_pos (by omega));have o4:k≤4294967296:=(by rw[r];exact Zlm (by omega));have o6:ch<k:=(by rw[gC,←r];exact aL _ mQ);have oO:ma<k:=by rw[gH,←r];exact aL _ mQ
    by_cases hi32:i<32
    ·have pP:decide ((i:Int)<32)=true:=(by rw[decide_eq_true_iff];omega);have qV:k≤2147483648:=(by rw[r];exact Zll hi32);have p0:¬k=0:=(by omega);have pN:¬(k:Int)=0:=(by omega);obtain⟨d0,g1⟩:=eX (H/k);have qP:(H:Int)/(k:Int)=(d0:Int):=(by rw[g1,gR]);have p1:d0<4294967296:=bN (by rw[g1];exact bO _ _) F;obtain⟨b0,hZ⟩:=eX (d0%2);have q6:(d0:Int)%2=(b0:Int):=(by omega);have p7:b0<2:=(by omega);have hH:=Hd (show b0=H/2^i%2 by rw[hZ,g1,r]);obtain⟨d1,hA⟩:=eX (v1/k);have qE:(v1:Int)/(k:Int)=(d1:Int):=(by rw[hA,gR]);have pZ:d1<4294967296:=bN (by rw[hA];exact bO _ _) hG;obtain⟨b1,hS⟩:=eX (d1%2);have qT:(d1:Int)%2=(b1:Int):=(by omega);have qZ:b1<2:=(by omega);have hB:=Hd (show b1=v1/2^i%2 by rw[hS,hA,r]);obtain⟨d2,hN⟩:=eX (v2/k);have qM:(v2:Int)/(k:Int)=(d2:Int):=(by rw[hN,gR]);have pY:d2<4294967296:=bN (by rw[hN];exact bO _ _) oG;obtain⟨b2,hX⟩:=eX (d2%2);have qU:(d2:Int)%2=(b2:Int):=(by omega);have p8:b2<2:=(by omega);have hF:=Hd (show b2=v2/2^i%2 by rw[hX,hN,r]);obtain⟨d4,hL⟩:=eX (I/k);have qH:(I:Int)/(k:Int)=(d4:Int):=(by rw[hL,gR]);have qW:d4<4294967296:=bN (by rw[hL];exact bO _ _) m;obtain⟨b4,hU⟩:=eX (d4%2);have pS:(d4:Int)%2=(b4:Int):=(by omega);have qA:b4<2:=(by omega);have hM:=Hd (show b4=I/2^i%2 by rw[hU,hL,r]);obtain⟨d5,g4⟩:=eX (v5/k);have pX:(v5:Int)/(k:Int)=(d5:Int):=(by rw[g4,gR]);have qJ:d5<4294967296:=bN (by rw[g4];exact bO _ _) nJ;obtain⟨b5,h0⟩:=eX (d5%2);have p2:(d5:Int)%2=(b5:Int):=(by omega);have qK:b5<2:=(by omega);have hD:=Hd (show b5=v5/2^i%2 by rw[h0,g4,r]);obtain⟨d6,hI⟩:=eX (v6/k);have qY:(v6:Int)/(k:Int)=(d6:Int):=(by rw[hI,gR]);have qI:d6<4294967296:=bN (by rw[hI];exact bO _ _) oJ;obtain⟨b6,hR⟩:=eX (d6%2);have q0:(d6:Int)%2=(b6:Int):=(by omega);have qB:b6<2:=(by omega);have hJ:=Hd (show b6=v6/2^i%2 by rw[hR,hI,r]);obtain⟨p5,hO⟩:=eX (b5*k);obtain⟨p6,g7⟩:=eX (b6*k);have q7:(b5:Int)*(k:Int)=(p5:Int):=(by rw[hO,dN]);have pT:(b6:Int)*(k:Int)=(p6:Int):=(by rw[g7,dN]);have p9:p5≤2147483648:=by rw[hO];rcases(show b5=0∨b5=1 by omega)with h|h<;>rw[h]<;>omega
     have qX:p6≤2147483648:=by rw[g7];rcases(show b6=0∨b6=1 by omega)with h|h<;>rw[h]<;>omega
     have n6:=Hd hO;have oI:=Hd g7;clear hi r gC gH hO g7 g1 hA hN hL g4 hI hZ hS hX hU h0 hR;rcases Nat.decEq b4 1 with eA|eA<;>rcases Nat.decLe 2 (b0+b1+b2)with hm|hm
     ·have dY:((b4:Int)==1)=false:=(by simp;omega);have jS:decide (((b0:Int)+(b1:Int)+(b2:Int))≥2)=false:=(by rw[decide_eq_false_iff_not];omega);have eC:decide (2≤((b0:Int)+(b1:Int)+(b2:Int)))=false:=(by rw[decide_eq_false_iff_not];omega);go_wp2_with fail
      go_quiet (fail)
      go_wp2_with fail;go_roundg (gk-1);case measure=>have:=HI.out;omega
      case rel=>
       refine⟨i+1,ch+p6,ma,2*k,by have:=HI.out;omega,by rw[C.out,aN,aT],?_,?_,by go_num,by go_num,by go_num,by go_num,md+nq,rfl⟩
       ·rw[mod_succ,chN_bit m hi32,←hM.out,←hD.out,←hJ.out,if_neg eA,←eR.out,←C.out,←oI.out]
       ·rw[mod_succ,majN_bit,←hH.out,←hB.out,←hF.out,if_neg hm,←f4.out,←C.out];omega
     ·have dY:((b4:Int)==1)=false:=(by simp;omega);have jS:decide (((b0:Int)+(b1:Int)+(b2:Int))≥2)=true:=(by rw[decide_eq_true_iff];omega);have eC:decide (2≤((b0:Int)+(b1:Int)+(b2:Int)))=true:=(by rw[decide_eq_true_iff];omega);go_wp2_with fail
      go_quiet (fail)
      go_wp2_with fail;go_roundg (gk-1);case measure=>have:=HI.out;omega
      case rel=>
       refine⟨i+1,ch+p6,ma+k,2*k,by have:=HI.out;omega,by rw[C.out,aN,aT],?_,?_,by go_num,by go_num,by go_num,by go_num,md+nq,rfl⟩
       ·rw[mod_succ,chN_bit m hi32,←hM.out,←hD.out,←hJ.out,if_neg eA,←eR.out,←C.out,←oI.out]
       ·rw[mod_succ,majN_bit,←hH.out,←hB.out,←hF.out,if_pos hm,←f4.out,←C.out];rw[bC]
     ·have dY:((b4:Int)==1)=true:=(by simp;omega);have jS:decide (((b0:Int)+(b1:Int)+(b2:Int))≥2)=false:=(by rw[decide_eq_false_iff_not];omega);have eC:decide (2≤((b0:Int)+(b1:Int)+(b2:Int)))=false:=(by rw[decide_eq_false_iff_not];omega);go_wp2_with fail
      go_quiet (fail)
      go_wp2_with fail;go_roundg (gk-1);case measure=>have:=HI.out;omega
      case rel=>
       refine⟨i+1,ch+p5,ma,2*k,by have:=HI.out;omega,by rw[C.out,aN,aT],?_,?_,by go_num,by go_num,by go_num,by go_num,md+nq,rfl⟩
       ·rw[mod_succ,chN_bit m hi32,←hM.out,←hD.out,←hJ.out,if_pos eA,←eR.out,←C.out,←n6.out]
       ·rw[mod_succ,majN_bit,←hH.out,←hB.out,←hF.out,if_neg hm,←f4.out,←C.out];omega
     ·have dY:((b4:Int)==1)=true:=(by simp;omega);have jS:decide (((b0:Int)+(b1:Int)+(b2:Int))≥2)=true:=(by rw[decide_eq_true_iff];omega);have eC:decide (2≤((b0:Int)+(b1:Int)+(b2:Int)))=true:=(by rw[decide_eq_true_iff];omega);go_wp2_with fail
      go_quiet (fail)
      go_wp2_with fail;go_roundg (gk-1);case measure=>have:=HI.out;omega
      case rel=>
       refine⟨i+1,ch+p5,ma+k,2*k,by have:=HI.out;omega,by rw[C.out,aN,aT],?_,?_,by go_num,by go_num,by go_num,by go_num,md+nq,rfl⟩
       ·rw[mod_succ,chN_bit m hi32,←hM.out,←hD.out,←hJ.out,if_pos eA,←eR.out,←C.out,←n6.out]
       ·rw[mod_succ,majN_bit,←hH.out,←hB.out,←hF.out,if_pos hm,←f4.out,←C.out];rw[bC]
    ·obtain rfl:i=32:=(by omega);have bY:ch=chN I v5 v6:=(by rw[gC];exact mod_full (chN_lt m));have b7:ma=majN H v1 v2:=(by rw[gH];exact mod_full (majN_lt F hG));have pR:ch<4294967296:=(by rw[bY];exact chN_lt m);have qN:ma<4294967296:=(by rw[b7];exact majN_lt F hG);have o9:=Hd bY;have oP:=Hd b7;clear hi r gC gH bY b7 hi32 o6 oO mQ o4 HI C eR f4;obtain⟨r1,hC⟩:=eX (rot I 6);obtain⟨r2,g2⟩:=eX (rot I 11);obtain⟨r3,g8⟩:=eX (rot I 25);obtain⟨r4,g5⟩:=eX (rot H 2);obtain⟨r5,hE⟩:=eX (rot H 13);obtain⟨r6,hQ⟩:=eX (rot H 22);have R1:=Hd (fun W=>Pq I 6 r1 6 rfl m (by omega) hC W);have R2:=Hd (fun W=>Pq I 11 r2 11 rfl m (by omega) g2 W);have R3:=Hd (fun W=>Pq I 25 r3 25 rfl m (by omega) g8 W);have R4:=Hd (fun W=>Pq H 2 r4 2 rfl F (by omega) g5 W);have R5:=Hd (fun W=>Pq H 13 r5 13 rfl F (by omega) hE W);have R6:=Hd (fun W=>Pq H 22 r6 22 rfl F (by omega) hQ W);have y1:r1<4294967296:=(by rw[hC];exact rot_lt m (by omega));have y2:r2<4294967296:=(by rw[g2];exact rot_lt m (by omega));have y3:r3<4294967296:=(by rw[g8];exact rot_lt m (by omega));have y4:r4<4294967296:=(by rw[g5];exact rot_lt F (by omega));have y5:r5<4294967296:=(by rw[hE];exact rot_lt F (by omega));have y6:r6<4294967296:=(by rw[hQ];exact rot_lt F (by omega));have X1:=u64_xor_nat r1 r2 (by omega) (by omega);have X2:=u64_xor_nat (r1^^^r2) r3 (by have:=xor_lt32 y1 y2;omega) (by omega);have X3:=u64_xor_nat r4 r5 (by omega) (by omega);have X4:=u64_xor_nat (r4^^^r5) r6 (by have:=xor_lt32 y4 y5;omega) (by omega);obtain⟨z1,lQ⟩:=eX (r1^^^r2);obtain⟨z3,iI⟩:=eX (r4^^^r5);rw[←lQ]at X1 X2;rw[←iI]at X3 X4;obtain⟨sg,lK⟩:=eX (z1^^^r3);obtain⟨s0,l3⟩:=eX (z3^^^r6);rw[←lK]at X2;rw[←l3]at X4;have oF:=Hd (show sg=S1N I by rw[lK,lQ,hC,g2,g8];rfl);have nU:=Hd (show s0=S0N H by rw[l3,iI,g5,hE,hQ];rfl);have qG:sg<4294967296:=(by rw[oF.out];exact S1N_lt m);have pU:s0<4294967296:=(by rw[nU.out];exact S0N_lt F);clear hC g2 g8 g5 hE hQ lQ iI lK l3;go_wp2_with fail
     go_quiet ((go_at_call 195;first|with_reducible exact Fp (R1.out _)|with_reducible exact Fp (R2.out _)|with_reducible exact Fp (R3.out _)))
     obtain⟨na,rfl⟩:=eX nq;go_wp2_with fail
     go_quiet ((go_at_call 195;first|with_reducible exact Fp (R4.out _)|with_reducible exact Fp (R5.out _)|with_reducible exact Fp (R6.out _)))
     obtain⟨nd,rfl⟩:=eX nq;go_wp2_with fail;obtain⟨l,nI⟩:∃z:Nat,z=v7+sg+ch+kk+ww:=⟨_,rfl⟩;obtain⟨R,n7⟩:∃z:Nat,z=s0+ma:=⟨_,rfl⟩;have e1:(v7:Int)+(sg:Int)+(ch:Int)+(kk:Int)+(ww:Int)=(l:Int):=(by omega);have e2:(s0:Int)+(ma:Int)=(R:Int):=(by omega);have qQ:l<21474836480:=(by omega);have pQ:R<8589934592:=(by omega);simp only[e1,e2];obtain⟨wz,D⟩:=eX (((dP.drewN md).drewN na).drewN nd);rw[←D];have lN:=Hd (show Below A.heap.size A wz by rw[D];exact Ab (Ab (Ab n4.out _) _) _);have M:b<wz.heap.size:=(by rw[D];exact World.block_lt_of_cell? dP ⟨b,0,rF⟩ x0);have k0:wz.cell? ⟨b,0,rF⟩=some (rA rE (H:Int)):=(by rw[D];exact x0);have k1:wz.cell? ⟨b,1,rF⟩=some (rA rE (v1:Int)):=(by rw[D];exact x1);have k2:wz.cell? ⟨b,2,rF⟩=some (rA rE (v2:Int)):=(by rw[D];exact x2);have k3:wz.cell? ⟨b,3,rF⟩=some (rA rE (U:Int)):=(by rw[D];exact x3);have k4:wz.cell? ⟨b,4,rF⟩=some (rA rE (I:Int)):=(by rw[D];exact x4);have k5:wz.cell? ⟨b,5,rF⟩=some (rA rE (v5:Int)):=(by rw[D];exact x5);have k6:wz.cell? ⟨b,6,rF⟩=some (rA rE (v6:Int)):=(by rw[D];exact x6);obtain⟨o1,l5⟩:∃z:Nat,z=(l+R)%4294967296:=⟨_,rfl⟩;obtain⟨o5,h3⟩:∃z:Nat,z=(U+l)%4294967296:=⟨_,rfl⟩;have oN:=Hd (show [o1,H,v1,v2,o5,I,v5,v6]=rndsN W S (t+1) by
      rw[rndsN,←HV.out,oM.out];unfold rnd;simp only[List.getD_cons_zero,List.getD_cons_succ];rw[←oF.out,←nU.out,←o9.out,←oP.out,←pG.out,←pD.out,←nI,←n7,←l5,←h3])
     have qS:o1<4294967296:=(by omega);have qC:o5<4294967296:=(by omega);have pA:=Hd l5;have oX:=Hd h3;clear x0 x1 x2 x3 x4 x5 x6 x7 D nI n7 ck cw e1 e2 l5 h3;refine Dv [eF (rA rE (l:Nat)),eF (rA rE (R:Nat)),eF (rA rE ((l:Int)+(R:Int))),eF (rA rE (o1:Nat)),eF (q9 (some ⟨b,0,rF⟩) 8 u3),eF (rB (some ⟨b,0,rF⟩)),eF (rA rE (H:Nat)),eF (q9 (some ⟨b,0,rF⟩) 8 u3),eF (rB (some ⟨b,1,rF⟩)),eF (rA rE (v1:Nat)),eF (q9 (some ⟨b,0,rF⟩) 8 u3),eF (rB (some ⟨b,2,rF⟩)),eF (rA rE (v2:Nat)),eF (q9 (some ⟨b,0,rF⟩) 8 u3),eF (rB (some ⟨b,3,rF⟩)),eF (rA rE (U:Nat)),eF (rA rE (l:Nat)),eF (rA rE ((U:Int)+(l:Int))),eF (rA rE (o5:Nat)),eF (q9 (some ⟨b,0,rF⟩) 8 u3),eF (rB (some ⟨b,4,rF⟩)),eF (rA rE (I:Nat)),eF (q9 (some ⟨b,0,rF⟩) 8 u3),eF (rB (some ⟨b,5,rF⟩)),eF (rA rE (v5:Nat)),eF (q9 (some ⟨b,0,rF⟩) 8 u3),eF (rB (some ⟨b,6,rF⟩)),eF (rA rE (v6:Nat)),fun v w'=>Own w' wz.heap.size 92 v [rA rE (o1:Nat),rA rE (H:Nat),rA rE (v1:Nat),rA rE (v2:Nat),rA rE (o5:Nat),rA rE (I:Nat),rA rE (v5:Nat),rA rE (v6:Nat)],fun v w'=>Own w' wz.heap.size 92 v [rA rE (o1:Nat),rA rE (H:Nat),rA rE (v1:Nat),rA rE (v2:Nat),rA rE (o5:Nat),rA rE (I:Nat),rA rE (v5:Nat),rA rE (v6:Nat)]] (by kernel_rfl) (by kernel_rfl) (by kernel_rfl) (kE (kE (kE (kE (kE (kE (kE (kE (kE (kE (kE (kE (kE (kE (kE (kE (kE (kE (kE (kE (kE (kE (kE (kE (kE (kE (kE (kE (bX (fun v w1 w2 h d=>Own.below h d lR) (bX (fun v w1 w2 h d=>Own.below h d lR) (Ah))))))))))))))))))))))))))))))) ?_ ?_
     ·refine gQ ?_ (gQ ?_ (gB ?_ (gB ?_ (gQ ?_ (gQ ?_ (gQ ?_ (gQ ?_ (gQ ?_ (gQ ?_ (gQ ?_ (gQ ?_ (gQ ?_ (gQ ?_ (gQ ?_ (gQ ?_ (gQ ?_ (gB ?_ (gB ?_ (gQ ?_ (gQ ?_ (gQ ?_ (gQ ?_ (gQ ?_ (gQ ?_ (gQ ?_ (gQ ?_ (gQ ?_ (gB ?_ (gB ?_ .nil)))))))))))))))))))))))))))));all_goals
       intro a wx E ho hf;refine⟨rfl,?_⟩;intro K hK;try have pL:a.tmps[20]?.getD undef=q9 (some ⟨b,0,rF⟩) 8 u3:=ho 20 (by kernel_rfl)
       try have pW:a.tmps[26]?.getD undef=rA rE (l:Nat):=ho 26 (by kernel_rfl)
       try have qD:a.tmps[27]?.getD undef=rA rE (R:Nat):=ho 27 (by kernel_rfl)
       try have E0:=eqn hf.1
       try have E1:=eqn hf.2.1
       try have E2:=eqn hf.2.2.1
       try have E3:=eqn hf.2.2.2.1
       try have E4:=eqn hf.2.2.2.2.1
       try have E5:=eqn hf.2.2.2.2.2.1
       try have E6:=eqn hf.2.2.2.2.2.2.1
       try have E7:=eqn hf.2.2.2.2.2.2.2.1
       try have D0:=(E.cell (p:=⟨b,0,rF⟩) M).trans k0
       try have D1:=(E.cell (p:=⟨b,1,rF⟩) M).trans k1
       try have D2:=(E.cell (p:=⟨b,2,rF⟩) M).trans k2
       try have D3:=(E.cell (p:=⟨b,3,rF⟩) M).trans k3
       try have D4:=(E.cell (p:=⟨b,4,rF⟩) M).trans k4
       try have D5:=(E.cell (p:=⟨b,5,rF⟩) M).trans k5
       try have D6:=(E.cell (p:=⟨b,6,rF⟩) M).trans k6
       try(refine Hd ?_;go_simp;exact hK _ rfl)
      ·have n:IntKind.u64.wrap (((l:Int)+(R:Int)))=((l:Int)+(R:Int)):=(by rw[IntKind.wrap_u64];omega);have G:(l:Int)+(R:Int)=((l:Int)+(R:Int)):=(by omega);have fX:IntKind.u64.wrap ((l:Int)+(R:Int))=((l:Int)+(R:Int)):=(by rw[G];exact n);go_simp;exact hK _ _ rfl bR
      ·have nY:((l:Int)+(R:Int))%4294967296=(o1:Int):=(by have:=pA.out;omega);have n:IntKind.u64.wrap ((o1:Int))=(o1:Int):=(by rw[IntKind.wrap_u64];omega);have G:((l:Int)+(R:Int))%4294967296=(o1:Int):=(by omega);have fX:IntKind.u64.wrap (((l:Int)+(R:Int))%4294967296)=(o1:Int):=(by rw[G];exact n);have gU:fC (((l:Int)+(R:Int))) 4294967296=(o1:Int):=(by rw[fD (by omega)];omega);have oA:IntKind.u64.wrap (fC (((l:Int)+(R:Int))) 4294967296)=(o1:Int):=(by rw[gU];exact n);go_simp;exact hK _ _ rfl bR
      ·have n:IntKind.u64.wrap (((U:Int)+(l:Int)))=((U:Int)+(l:Int)):=(by rw[IntKind.wrap_u64];omega);have G:(U:Int)+(l:Int)=((U:Int)+(l:Int)):=(by omega);have fX:IntKind.u64.wrap ((U:Int)+(l:Int))=((U:Int)+(l:Int)):=(by rw[G];exact n);go_simp;exact hK _ _ rfl bR
      ·have nY:((U:Int)+(l:Int))%4294967296=(o5:Int):=(by have:=oX.out;omega);have n:IntKind.u64.wrap ((o5:Int))=(o5:Int):=(by rw[IntKind.wrap_u64];omega);have G:((U:Int)+(l:Int))%4294967296=(o5:Int):=(by omega);have fX:IntKind.u64.wrap (((U:Int)+(l:Int))%4294967296)=(o5:Int):=(by rw[G];exact n);have gU:fC (((U:Int)+(l:Int))) 4294967296=(o5:Int):=(by rw[fD (by omega)];omega);have oA:IntKind.u64.wrap (fC (((U:Int)+(l:Int))) 4294967296)=(o5:Int):=(by rw[gU];exact n);go_simp;exact hK _ _ rfl bR
      ·go_simp;exact hK _ _ (Own.full (B:=wz.heap.size) (cs:=#[rA rE (o1:Nat),rA rE (H:Nat),rA rE (v1:Nat),rA rE (v2:Nat),rA rE (o5:Nat),rA rE (I:Nat),rA rE (v5:Nat),rA rE (v6:Nat)]) rfl E.size (by unfold maxLen;simp) rfl) (bR.alloc lR _)
      ·have o0:(fun v w'=>Own w' wz.heap.size 92 v [rA rE (o1:Nat),rA rE (H:Nat),rA rE (v1:Nat),rA rE (v2:Nat),rA rE (o5:Nat),rA rE (I:Nat),rA rE (v5:Nat),rA rE (v6:Nat)]) (a.tmps[300]?.getD undef) wx:=hf.1;obtain⟨H,iL⟩:=eX (a.tmps[300]?.getD undef);rw[←iL]at o0;have e0:=iL.symm;clear iL;go_simp;exact hK _ _ o0 bR
     ·rintro f w9 dQ O;have S9:Own w9 wz.heap.size 92 (f 20) [rA rE (o1:Nat),rA rE (H:Nat),rA rE (v1:Nat),rA rE (v2:Nat),rA rE (o5:Nat),rA rE (I:Nat),rA rE (v5:Nat),rA rE (v6:Nat)]:=O.2.2.2.2.2.2.2.2.2.2.2.2.2.2.2.2.2.2.2.2.2.2.2.2.2.2.2.2.2.1;clear O;simp only[Am,Az,Ex,cX,cY,cZ,dA,Nat.reduceBEq,Nat.reduceAdd,Bool.or_false,Bool.or_true,cond_true,cond_false];obtain⟨u,hu⟩:=eX (f 20);rw[←hu]at S9⊢;have oY:=Hd (show Own w9 A.heap.size 92 u (qvs (rndsN W S (t+1))) by rw[←oN.out];exact S9.mono lN.out.size);have pF:=Hd (lN.out.trans (dQ.mono lN.out.size));clear S9 hu dQ;go_wp2_with fail;go_roundg (g6-1);case measure=>have:=nO.out;omega
      case rel=>exact⟨t+1,by have:=nO.out;omega,by go_num,oY.out,pF.out⟩
  ·obtain rfl:t=64:=(by omega);have oL:=Hd c;have nM:=Hd J;have c0:=(mX.out.at).1 0 _ (Ic (L:=S) (i:=0) (by rw[hP.out];omega));have dR:d<A.heap.size:=World.block_lt_of_cell? A ⟨d,0,rF⟩ c0;have oV:b≠d:=(by omega);have pJ:=Hd (show Own dP Bw 92 (q9 (some ⟨d,0,rF⟩) 8 b3) (qvs (Uf S V 0)) by rw[Ug V hP.out];exact mX.out.below T lR);have oS:=Hd (o3.out.below T lR);have o8:=Hd (T.mono n2);have pI:=Hd (show Uf S V 8=stepN S B by rw[HV.out,pK.out,Ze]);clear ht hlt c J T c0 n5 nL hV dR;go_wp2_with fail
   go_loopg [28] 8 (fun q iv wr=>∃i:Nat,i+q=8∧iv=rA .i64 (i:Nat)∧Own wr Bw 92 (q9 (some ⟨d,0,rF⟩) 8 b3) (qvs (Uf S V i))∧Own wr A.heap.size 92 (q9 (some ⟨b,0,rF⟩) 8 u3) (qvs V)∧Rd wr (q9 (some ⟨mb,0,rF⟩) N p3) (bvs P)∧Below Bw A wr)
   case atStart=>exact⟨0,rfl,rfl,pJ.out,oL.out,oS.out,o8.out⟩
   case round=>
    obtain⟨i,hi,rfl,dX,g9,kX,jC⟩:=hrel;have HI:=Hd hi;have j2:=Hd dX;have oT:=Hd g9;have oC:=Hd kX;have nZ:=Hd jC
    by_cases hlt:i<8
    ·have hT:decide ((i:Int)<8)=true:=(by rw[decide_eq_true_iff];omega);have xs:=getD_lt32 nV.out i;have xv:=getD_lt32 nM.out.2 i;have k1:=(dX.at).1 i _ (Ic (by rw[Ge];exact hlt));have kf:=(dX.at).2 i;have dR:d<wr.heap.size:=World.block_lt_of_cell? wr ⟨d,i,rF⟩ k1;have k2:=(g9.at).1 i _ (Ic (by rw[nM.out.1];exact hlt));have M:b<wr.heap.size:=World.block_lt_of_cell? wr ⟨b,i,rF⟩ k2;have p4:(i:Int)<8:=(by omega);have nS:Bw≤wr.heap.size:=(by omega);rw[Ks _ _ _ hlt,if_neg (Nat.lt_irrefl i)]at k1;have fE:=Uh S V hlt;obtain⟨s,hs⟩:=eX (S.getD i 0);obtain⟨y,hy⟩:=eX (V.getD i 0);rw[←hs]at k1 xs fE;rw[←hy]at k2 xv fE;obtain⟨o,ho⟩:=eX ((s+y)%4294967296);have e1:((s:Int)+(y:Int))%4294967296=(o:Int):=(by omega);have qF:o<4294967296:=(by omega);rw[←ho]at fE;have o7:=Hd fE;clear hi dX g9 kX jC hs hy ho fE;go_wp2_with fail;refine Bt [eF (q9 (some ⟨d,0,rF⟩) 8 b3),eF (rA .i64 (i:Nat)),eF (q9 (some ⟨d,0,rF⟩) 8 b3),eF (rA .i64 (i:Nat)),eF (rB (some ⟨d,i,rF⟩)),eF (rA rE (s:Nat)),eF (q9 (some ⟨b,0,rF⟩) 8 u3),eF (rA .i64 (i:Nat)),eF (rB (some ⟨b,i,rF⟩)),eF (rA rE (y:Nat)),eF (rA rE ((s:Int)+(y:Int))),eF (rA rE (o:Nat)),eF (rB (some ⟨d,i,rF⟩)),fun v w'=>Own w' Bw 92 (q9 (some ⟨d,0,rF⟩) 8 b3) (qvs (Uf S V (i+1)))∧Own w' A.heap.size 92 (q9 (some ⟨b,0,rF⟩) 8 u3) (qvs V)∧Rd w' (q9 (some ⟨mb,0,rF⟩) N p3) (bvs P)∧Below Bw A w']
      (cI 14 true) (fun X=>OnlyG d wr X) (fun X Y=>OnlyG d X Y) (some 13) (by kernel_rfl) ?_ ((OnlyG.of_below bR (dW dR)).drewN 1) (fun X Y hx h=>OnlyG.of_below h (bM (dW dR) hx.2.1)) (fun X Y hx hs=>hx.trans hs) (by kernel_rfl) (by kernel_rfl) ?_ ?_
     ·exact kE (kE (kE (kE (kE (kE (kE (kE (kE (kE (kE (kE (kE (Cl (fun v x y h _ hs=>⟨h.1.below hs lR,h.2.1.below hs lR,h.2.2.1.below hs lR,h.2.2.2.trans (hs.mono (bM n2 h.2.2.2.size))⟩) (Ah))))))))))))))
     ·refine gP ?_ rfl (gP ?_ rfl (gP ?_ rfl (gP ?_ rfl (gP ?_ rfl (gP ?_ rfl (gP ?_ rfl (gP ?_ rfl (gP ?_ rfl (gP ?_ rfl (gO ?_ (gO ?_ (gP ?_ rfl (gO ?_ .nil)))))))))))));all_goals
       intro a wx E hq ho hf;have E:OnlyG d wr wx:=E;have cT:Below wr.heap.size wr wx:=hq (by kernel_rfl);clear hq;refine⟨rfl,?_⟩;intro K hK;try have P7:a.tmps[7]?.getD undef=q9 (some ⟨d,0,rF⟩) 8 b3:=ho 7 (by kernel_rfl)
       try have pL:a.tmps[20]?.getD undef=q9 (some ⟨b,0,rF⟩) 8 u3:=ho 20 (by kernel_rfl)
       try have q5:a.tmps[28]?.getD undef=rA .i64 (i:Nat):=ho 28 (by kernel_rfl)
       try have E0:=eqn hf.1
       try have E1:=eqn hf.2.1
       try have D0:=(cT.cell (p:=⟨d,i,rF⟩) dR).trans k1
       try have D1:=(cT.cell (p:=⟨b,i,rF⟩) M).trans k2
       try have D2:=(cT.frozen (p:=⟨d,i,rF⟩) dR).trans kf
       try have D3:=(j2.out.below cT lR).set i (rA rE (o:Int))
       try(refine Hd ?_;go_simp;exact hK _ rfl)
      ·have n:IntKind.u64.wrap (((s:Int)+(y:Int)))=((s:Int)+(y:Int)):=(by rw[IntKind.wrap_u64];omega);have G:(s:Int)+(y:Int)=((s:Int)+(y:Int)):=(by omega);have fX:IntKind.u64.wrap ((s:Int)+(y:Int))=((s:Int)+(y:Int)):=(by rw[G];exact n);go_simp;exact hK _ _ rfl (Af rfl bR)
      ·have nY:((s:Int)+(y:Int))%4294967296=(o:Int):=e1;have n:IntKind.u64.wrap ((o:Int))=(o:Int):=(by rw[IntKind.wrap_u64];omega);have G:((s:Int)+(y:Int))%4294967296=(o:Int):=(by omega);have fX:IntKind.u64.wrap (((s:Int)+(y:Int))%4294967296)=(o:Int):=(by rw[G];exact n);have gU:fC (((s:Int)+(y:Int))) 4294967296=(o:Int):=(by rw[fD (by omega)];omega);have oA:IntKind.u64.wrap (fC (((s:Int)+(y:Int))) 4294967296)=(o:Int):=(by rw[gU];exact n);go_simp;exact hK _ _ rfl (Af rfl bR)
      ·rw[Zlo,o7.out]at D3;have q2:=(oT.out.below cT lR).setOther (a:=⟨d,i,rF⟩) (show(Value.slice (some ⟨b,0,rF⟩) 8 u3).ownBlock≠some d from fun e=>oV (by simpa [Value.ownBlock]using e)) (rA rE (o:Int));have q3:=(oC.out.below cT lR).setOther d i (rA rE (o:Int)) oZ;have q4:=(nZ.out.trans (cT.mono nS)).setCell (p:=⟨d,i,rF⟩) oW (rA rE (o:Int));go_simp;exact hK undef _ ⟨D3,q2,q3,q4⟩ (Bv rfl (OnlyG.setCell i _))
     ·rintro f w9 dQ O;have dQ:OnlyG d wr w9:=dQ;have hY:Own w9 Bw 92 (q9 (some ⟨d,0,rF⟩) 8 b3) (qvs (Uf S V (i+1)))∧Own w9 A.heap.size 92 (q9 (some ⟨b,0,rF⟩) 8 u3) (qvs V)∧Rd w9 (q9 (some ⟨mb,0,rF⟩) N p3) (bvs P)∧Below Bw A w9:=O.2.2.2.2.2.2.2.2.2.2.2.2.2.1;clear O;simp only[Am,Az,Ex,cX,cY,cZ,dA,Nat.reduceBEq,Nat.reduceAdd,Bool.or_false,Bool.or_true,cond_true,cond_false];clear dQ;have g3:=Hd hY;clear hY;go_wp2_with fail;go_roundg (gk-1);case measure=>have:=HI.out;omega
      case rel=>exact⟨i+1,by have:=HI.out;omega,by go_num,g3.out.1,g3.out.2.1,g3.out.2.2.1,g3.out.2.2.2⟩
    ·obtain rfl:i=8:=(by omega);have hT:decide (((8:Nat):Int)<8)=false:=(by decide);clear hi dX g9 kX jC hlt;go_wp2_with fail;rw[pI.out]at j2;refine Zfg _ (fun f=>#[mT,iE,q9 a2 64 c2,kR,iO,lL,h5,q9 (some ⟨d,0,rF⟩) 8 b3,lV,iZ,fO,gI,fQ,eS,q9 q1 64 q3,fH,dU,gG,fW,fT,f 20,f 21,f 22,f 23,f 24,f 25,f 26,f 27,f 28,eZ,g0,eE,fR,dS,fI,eU,gD,eO,dZ,eJ,gE,f5,dV,eI,gL,fF,eL,f8,d9,f7,gZ,eQ,gJ,eP,gX,fA,fL,f0,gM,eN,gT,gK,fG,fU,fZ,f1,f6,e8,gV,eW,eT,f9,f2,gF,e9,dT,eK,fJ,gS,eB,fN,d3,eD,eM,d8,fB,fY,f3,gW,fK,fM,fP,gY,gA,fS,eV,eG,eY,d7,fV,aJ,c6,cC,aE,cW,bE,a9,cO,cQ,bT,c9,b8,aB,bP,bB,b9,bH,bF,cS,bJ,c3,c5,a0,dI,aZ,bW,c7,cP,c8,cR,cH,aU,bV,a7,aI,aW,cU,aX,aS,dK,c1,dF,a1,cA,cG,bI,cN,cK,Z,a6,bU,bG,dM,aA,cD,bA,bK,dD,bQ,a5,dO,dH,f 162,f 163,f 164,f 165,f 166,f 167,f 168,f 169,f 170,f 171,f 172,f 173,f 174,f 175,f 176,f 177,f 178,f 179,f 180,f 181,f 182,f 183,f 184,f 185,f 186,f 187,f 188,f 189,f 190,f 191,f 192,f 193,f 194,f 195,f 196,f 197,f 198,f 199,f 200,f 201,f 202,f 203,f 204,f 205,f 206,f 207,f 208,f 209,f 210,f 211,f 212,f 213,f 214,f 215,f 216,f 217,f 218,f 219,f 220,f 221,f 222,f 223,f 224,f 225,f 226,f 227,f 228,f 229,f 230,f 231,f 232,f 233,f 234,f 235,f 236,f 237,f 238,f 239,f 240,f 241,f 242,f 243,f 244,f 245,f 246,f 247,f 248,f 249,f 250,f 251,f 252,f 253,f 254,f 255,f 256,f 257,f 258,f 259,f 260,f 261,f 262,f 263,f 264,f 265,f 266,f 267,f 268,f 269,f 270,f 271,f 272,f 273,f 274,f 275,f 276,f 277,f 278,f 279,f 280,f 281,f 282,f 283,f 284,f 285,f 286,f 287,f 288,f 289,f 290,f 291,f 292,f 293,f 294,f 295,f 296,f 297,f 298,f 299,f 300,f 301,f 302,f 303,f 304,f 305,f 306,f 307,f 308,f 309,f 310,f 311,f 312,f 313,f 314,f 315,f 316,f 317,aV,aG,cB,dG,bZ,aH,dE,cL,dC,cJ,bS,cV,aQ,a8,a4,dJ,aK,aY,c4,aF,aR,aC,aM,cF,dB,bD,dL,aD,aO,bL,cE,cM,a3,aP]) (fun f=>pH.out f _ j2.out oC.out nZ.out) rfl
end Go.Proofs.YtfofaiommeckbaaGreat
