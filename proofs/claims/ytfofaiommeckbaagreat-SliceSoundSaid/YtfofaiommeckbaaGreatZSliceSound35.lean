/- Walks: the rounds and the additions of a block, in the reference's sum. -/
import Derived.Test.YtfofaiommeckbaaGreatZSliceSoundB
import Derived.Test.YtfofaiommeckbaaGreatZSliceSound27
import Derived.StillTailTactics
open List renaming replicate → cK, append_assoc → cA, length_append → aI, length_take → cF, take_of_length_le → bY, flatten_cons → gN, filterMap_cons → cZ, filterMap_nil → dA, contains_cons → dB, contains_nil → dC
open Nat renaming pow_succ → aP, pow_le_pow_right → bA, le_of_lt_succ → gR, mod_one → gS, mod_lt → aN, lt_of_le_of_lt → bP, div_le_self → bQ, mul_comm → aV, one_mul → bE, le_of_lt → eA, le_trans → bO
open Int renaming natCast_ediv → gV, natCast_mul → dR, tmod → dN, tmod_eq_emod_of_nonneg → dO
set_option linter.unusedVariables false
set_option maxRecDepth 100000
set_option maxHeartbeats 40000000
namespace Go.Proofs.YtfofaiommeckbaaGreat
open Go.RowKit ShaM WireM
theorem Zl (x:Nat):(beN 8 x).length=8:=beN_len 8 x
theorem Zh8 (x:Nat) {i:Nat}(h:i<8):(beN 8 x)[i]? =some (x/256^(7-i)%256):=by
 obtain rfl|rfl|rfl|rfl|rfl|rfl|rfl|rfl:i=0∨i=1∨i=2∨i=3∨i=4∨i=5∨i=6∨i=7:=by omega
 all_goals rfl
theorem Zek (x:Nat) {i:Nat}(h:i<8):(beN 8 x).take (i+1)=(beN 8 x).take i++[x/256^(7-i)%256]:=by
 rw[List.take_add_one,Zh8 x h];rfl
theorem Znb {w:World} {v:Value} {xs:List Value}(h:Rd w v xs):∃a n c,v=.slice a n c:=by
 obtain⟨a,c,e,_⟩:=h;exact⟨_,_,_,e⟩
def Zb6 (L:List Nat)(j:Nat):List Nat:=L++[128]++cK j 0
theorem Zel (L:List Nat):Zb6 L 0=L++[128]:=by simp[Zb6]
theorem Zem (L:List Nat)(j:Nat):Zb6 L (j+1)=Zb6 L j++[0]:=by rw[Zb6,Zb6,List.replicate_succ',cA];simp
theorem Ry (L:List Nat)(j:Nat):(Zb6 L j).length=L.length+1+j:=by simp[Zb6];omega
def Zbl (L:List Nat)(Z i:Nat):List Nat:=Zb6 L Z++(beN 8 (8*L.length)).take i
theorem Zen (L:List Nat)(Z:Nat):Zbl L Z 0=Zb6 L Z:=by simp[Zbl]
theorem Zeo (L:List Nat)(Z:Nat) {i:Nat}(h:i<8):Zbl L Z (i+1)=Zbl L Z i++[8*L.length/256^(7-i)%256]:=by
 rw[Zbl,Zbl,Zek _ h,cA]
theorem Zm (L:List Nat)(Z:Nat) {i:Nat}(h:i≤8):(Zbl L Z i).length=L.length+1+Z+i:=by
 rw[Zbl,aI,Ry,cF,Zl];omega
theorem Zh9 (L:List Nat):Zbl L ((119-L.length%64)%64) 8=padL L:=by
 rw[Zbl,Zb6,padL,tailL,bY (by rw[Zl];omega)];simp
theorem Oo (x n r:Nat)(z:Int)(hz:z=(n:Int))(hx:x<4294967296)(hn:n≤32)(hr:r=rot x n)(w:World):
  Calls Tryz.prog 195 #[.int .u64 (x:Nat),.int .i64 z] w fun e w'=>e=.returned (.int .u64 (r:Nat))∧w'=w:=by rw[hz,hr];exact Zgn x n w hx hn
theorem Zjq (x n r:Nat)(z:Int)(hz:z=(n:Int))(hx:x<4294967296)(hn:n≤32)(hr:r=x/2^n)(w:World):
  Calls Tryz.prog 196 #[.int .u64 (x:Nat),.int .i64 z] w fun e w'=>e=.returned (.int .u64 (r:Nat))∧w'=w:=by rw[hz,hr];exact Zch x n w hx hn
def xN (B:List Nat)(t:Nat):Nat→Nat
 |0=>0
 |i+1=>256*xN B t i+B.getD (4*t+i) 0
theorem Zkw {B:List Nat}(hB:∀x∈B,x<256)(t:Nat):∀i,xN B t i<256^i
 |0=>by simp[xN]
 |i+1=>by
  have h:=Zkw hB t i;have g:=Gz hB (by omega) (4*t+i);rw[xN,aP];generalize 256^i=z at h⊢;omega
theorem Zl1 {B:List Nat}(hB:∀x∈B,x<256)(t:Nat) {i:Nat}(hi:i<4):xN B t i<16777216:=
 Nat.lt_of_lt_of_le (Zkw hB t i) (bA (n:=256) (by decide) (gR hi))
theorem Zl2 {B:List Nat}(hB:∀x∈B,x<256)(t:Nat):xN B t 4<4294967296:=Zkw hB t 4
theorem Zkx {i:Nat}(hi:i<32):2^i≤2147483648:=bA (n:=2) (by decide) (gR hi)
theorem Zky {i:Nat}(hi:i≤32):2^i≤4294967296:=bA (n:=2) (by decide) hi
theorem Zkz (B l:List Nat) {t:Nat}(h:t<16):xN B t 4=wNext B l t:=by
 simp only[xN,wNext,if_pos h,Nat.add_zero];omega
theorem Zk0 (L:List Nat)(i n:Nat):(qvs L).set i (.int .u64 (n:Int))=qvs (L.set i n):=by simp[qvs,List.map_set]
theorem Rd.setOther {w:World} {b d n c:Nat} {xs:List Value}(h:Rd w (.slice (some ⟨b,d,none⟩) n c) xs)(g i:Nat)(u:Value)(f:b≠g):Rd (w.setCell ⟨g,i,none⟩ u) (.slice (some ⟨b,d,none⟩) n c) xs:=
 h.onlyG (OnlyG.setCell i u) fun a n c e=>by simp only[Value.slice.injEq,Option.some.injEq]at e;rw[←e.1];exact f
def Zn (S:List Nat)(i:Nat):List Nat:=((S.take i).map (beN 4)).flatten
theorem Zia {S:List Nat}(h:S.length=8) {i:Nat}(hi:i≤8):(Zn S i).length=4*i:=by
 have e:∀L:List Nat,((L.map (beN 4)).flatten).length=4*L.length:=by
  intro L
  induction L with
  |nil=>rfl
  |cons a L ih=>rw[List.map_cons,gN,aI,ih,beN_len,List.length_cons];omega
 rw[Zn,e,cF];omega
theorem Zep {S:List Nat}(h:S.length=8) {i x:Nat}(b:i<8)(hx:x=S.getD i 0)(a:x<4294967296):Zn S (i+1)=Zn S i++[x/16777216,x/65536%256,x/256%256,x%256]:=by
 have e:S.take (i+1)=S.take i++[x]:=by
  rw[List.take_succ_eq_append_getElem (by omega),hx,List.getD_eq_getElem?_getD,List.getElem?_eq_getElem (by omega)];rfl
 rw[Zn,e,List.map_append,List.flatten_append]
 congr 1
 have e2:beN 4 x=[x/16777216%256,x/65536%256,x/256%256,x%256]:=(by simp[beN]);rw[show List.map (beN 4) [x]=[beN 4 x]from rfl,gN,List.flatten_nil,List.append_nil,e2,Nat.mod_eq_of_lt (show x/16777216<256 by omega)]
theorem Zib {S:List Nat}(h:S.length=8):Zn S 8=(S.map (beN 4)).flatten:=by rw[Zn,bY (by omega)]
def Op:Code→Code
 | .seq _ b=>b
 |c=>c
def Zl3:Code→Code
 | .seq a _=>a
 |c=>c
def inC:Code→Code
 | .block _ c=>c
 | .loop c=>c
 |c=>c
theorem Zeq {Q:Exit→Act→World→Prop} {w:World}(a:Act)(G:(Nat→Value)→Array Value)(h:∀f:Nat→Value,Q .normal ⟨G f,[]⟩ w)(e:a=⟨G fun k=>a.tmps.toList.getD k undef,[]⟩):Q .normal a w:=by
 rw[e];exact h _
theorem Zer (K:Act→World→Prop) (Q:Exit→Act→World→Prop) (i7 kV l6 kX kT lS h4 mD eR gJ fM gU eZ eI dX gF fC n0 nY nU oD nZ nF nI nW nT gN gX fK d7 gZ fH fA fN eV eO dV f1 fV gI eK eJ fY gC fG fO gY e9 fF gE eC f0 gT g0 fZ fR fE fL dZ fS dW dU dY fJ d3 eL eQ fI eT eD fU e8 gG eH gL fP f9 fX eW d8 eG d9 gM gA gK eU f4 f8 fQ eM eB f3 eP eS f6 gW eY aK bZ bG a8 dF cQ c6 bN cO bK cI aQ aJ bU aZ dK bI bB cH cM a9 c1 aD c3 a7 c9 cT bV dH a0 dL cW cN aY cV b8 a6 aC c8 a1 bF aI aM bH c4 aA cJ cR aO dM cG dG dI a5 bD bC bY a4 b9 bA cE cY lH h3 l1 h1 h5 iX nC iL jI iV lC h9 h6 i1 mC lY jU lN iC nA lX jX jW jQ lI jZ mM j6 mR kD m6 m3 m8 iM mN j5 jL j7 i5 kW nB lE m5 m7 iE kG lL kO l5 iK iY iT kI lB l2 i6 iF mZ jV l9 kZ h8 jH jG l8 i4 l7 iO j2 kR j0 mK jT jC i8 i9 mL k7 jK mF jD mJ iJ l0 jO iH mB jM mT jB h7 kH jN iA iU m4 j3 jR lA mS mI l4 kQ j9 k8 iZ lF mY iP m1 iI iQ lV lQ kU mV m2 kL m0 jJ kJ kA lO kM lW lU jE mX mW mU kC kS iB m9 mA kP iG lZ kB lM j8 iR iN mE l3 kK jS lD j4 iD lG mO kY jY h2 j1 aS c5 aG bS aX bW dJ bM dD bL Z cF cX aT aE bT cL aL aU a3 cA cC cS dP aH bJ cP aB b7 aW cU cB aR dE:Value) (n:World) (Bw BO d b3 mb N p3 q3 c2:Nat) (q1 a2:Option Addr) (P S B:List Nat)
  (hK:∀a w,Code.wp Tryz.prog (Op (Op (Op (inC (Zl3 (Op (inC (inC (Op (Zl3 (Op (Op (Op (Op (Op (Op (Tryz.f144.body.getD .skip))))))))))))))))) Q a w→K a w)
  (n9:Own n BO 92 (.slice q1 64 q3) (qvs (wL B 64))) (nM:Rd n (.slice a2 64 c2) (qvs KL)) (nH:Own n Bw 92 (.slice (some ⟨d,0,none⟩) 8 b3) (qvs S)) (oJ:Rd n (.slice (some ⟨mb,0,none⟩) N p3) (bvs P))
  (nX:∀x∈B,x<256) (nG:∀x∈S,x<4294967296) (oF:S.length=8) (o7:mb≠d) (pD:Bw≤d) (oC:Bw≤n.heap.size)
  (hq:∀(f:Nat→Value) (w':World),Own w' Bw 92 (.slice (some ⟨d,0,none⟩) 8 b3) (qvs (stepN S B))→Rd w' (.slice (some ⟨mb,0,none⟩) N p3) (bvs P)→Below Bw n w'→Q .normal ⟨#[i7,kV,.slice a2 64 c2,l6,kX,kT,lS,.slice (some ⟨d,0,none⟩) 8 b3,h4,mD,eR,gJ,fM,gU,.slice q1 64 q3,eZ,eI,dX,gF,fC,f 20,f 21,f 22,f 23,f 24,f 25,f 26,f 27,f 28,gN,gX,fK,d7,gZ,fH,fA,fN,eV,eO,dV,f1,fV,gI,eK,eJ,fY,gC,fG,fO,gY,e9,fF,gE,eC,f0,gT,g0,fZ,fR,fE,fL,dZ,fS,dW,dU,dY,fJ,d3,eL,eQ,fI,eT,eD,fU,e8,gG,eH,gL,fP,f9,fX,eW,d8,eG,d9,gM,gA,gK,eU,f4,f8,fQ,eM,eB,f3,eP,eS,f6,gW,eY,aK,bZ,bG,a8,dF,cQ,c6,bN,cO,bK,cI,aQ,aJ,bU,aZ,dK,bI,bB,cH,cM,a9,c1,aD,c3,a7,c9,cT,bV,dH,a0,dL,cW,cN,aY,cV,b8,a6,aC,c8,a1,bF,aI,aM,bH,c4,aA,cJ,cR,aO,dM,cG,dG,dI,a5,bD,bC,bY,a4,b9,bA,cE,cY,f 162,f 163,f 164,f 165,f 166,f 167,f 168,f 169,f 170,f 171,f 172,f 173,f 174,f 175,f 176,f 177,f 178,f 179,f 180,f 181,f 182,f 183,f 184,f 185,f 186,f 187,f 188,f 189,f 190,f 191,f 192,f 193,f 194,f 195,f 196,f 197,f 198,f 199,f 200,f 201,f 202,f 203,f 204,f 205,f 206,f 207,f 208,f 209,f 210,f 211,f 212,f 213,f 214,f 215,f 216,f 217,f 218,f 219,f 220,f 221,f 222,f 223,f 224,f 225,f 226,f 227,f 228,f 229,f 230,f 231,f 232,f 233,f 234,f 235,f 236,f 237,f 238,f 239,f 240,f 241,f 242,f 243,f 244,f 245,f 246,f 247,f 248,f 249,f 250,f 251,f 252,f 253,f 254,f 255,f 256,f 257,f 258,f 259,f 260,f 261,f 262,f 263,f 264,f 265,f 266,f 267,f 268,f 269,f 270,f 271,f 272,f 273,f 274,f 275,f 276,f 277,f 278,f 279,f 280,f 281,f 282,f 283,f 284,f 285,f 286,f 287,f 288,f 289,f 290,f 291,f 292,f 293,f 294,f 295,f 296,f 297,f 298,f 299,f 300,f 301,f 302,f 303,f 304,f 305,f 306,f 307,f 308,f 309,f 310,f 311,f 312,f 313,f 314,f 315,f 316,f 317,aS,c5,aG,bS,aX,bW,dJ,bM,dD,bL,Z,cF,cX,aT,aE,bT,cL,aL,aU,a3,cA,cC,cS,dP,aH,bJ,cP,aB,b7,aW,cU,cB,aR,dE],[]⟩ w'):
  Code.wp Tryz.prog (Zl3 (Op (Op (inC (Zl3 (Op (inC (inC (Op (Zl3 (Op (Op (Op (Op (Op (Op (Tryz.f144.body.getD .skip))))))))))))))))) (Exit.then K Q) ⟨#[i7,kV,.slice a2 64 c2,l6,kX,kT,lS,.slice (some ⟨d,0,none⟩) 8 b3,h4,mD,eR,gJ,fM,gU,.slice q1 64 q3,eZ,eI,dX,gF,fC,n0,nY,nU,oD,nZ,nF,nI,nW,nT,gN,gX,fK,d7,gZ,fH,fA,fN,eV,eO,dV,f1,fV,gI,eK,eJ,fY,gC,fG,fO,gY,e9,fF,gE,eC,f0,gT,g0,fZ,fR,fE,fL,dZ,fS,dW,dU,dY,fJ,d3,eL,eQ,fI,eT,eD,fU,e8,gG,eH,gL,fP,f9,fX,eW,d8,eG,d9,gM,gA,gK,eU,f4,f8,fQ,eM,eB,f3,eP,eS,f6,gW,eY,aK,bZ,bG,a8,dF,cQ,c6,bN,cO,bK,cI,aQ,aJ,bU,aZ,dK,bI,bB,cH,cM,a9,c1,aD,c3,a7,c9,cT,bV,dH,a0,dL,cW,cN,aY,cV,b8,a6,aC,c8,a1,bF,aI,aM,bH,c4,aA,cJ,cR,aO,dM,cG,dG,dI,a5,bD,bC,bY,a4,b9,bA,cE,cY,lH,h3,l1,h1,h5,iX,nC,iL,jI,iV,lC,h9,h6,i1,mC,lY,jU,lN,iC,nA,lX,jX,jW,jQ,lI,jZ,mM,j6,mR,kD,m6,m3,m8,iM,mN,j5,jL,j7,i5,kW,nB,lE,m5,m7,iE,kG,lL,kO,l5,iK,iY,iT,kI,lB,l2,i6,iF,mZ,jV,l9,kZ,h8,jH,jG,l8,i4,l7,iO,j2,kR,j0,mK,jT,jC,i8,i9,mL,k7,jK,mF,jD,mJ,iJ,l0,jO,iH,mB,jM,mT,jB,h7,kH,jN,iA,iU,m4,j3,jR,lA,mS,mI,l4,kQ,j9,k8,iZ,lF,mY,iP,m1,iI,iQ,lV,lQ,kU,mV,m2,kL,m0,jJ,kJ,kA,lO,kM,lW,lU,jE,mX,mW,mU,kC,kS,iB,m9,mA,kP,iG,lZ,kB,lM,j8,iR,iN,mE,l3,kK,jS,lD,j4,iD,lG,mO,kY,jY,h2,j1,aS,c5,aG,bS,aX,bW,dJ,bM,dD,bL,Z,cF,cX,aT,aE,bT,cL,aL,aU,a3,cA,cC,cS,dP,aH,bJ,cP,aB,b7,aW,cU,cB,aR,dE],[]⟩ n:=by
 have oA:=Hd hK;have n3:=Hd n9;have oK:=Hd nM;have kF:=Hd nH;have pJ:=Hd oJ;have pF:=Hd nX;have oE:=Hd nG;have hI:=Hd oF;have pK:=Hd hq;clear hK n9 nM nH oJ nX nG oF hq
 conv=>arg 2;whnf
 obtain⟨W,hW⟩:=eX (wL B 64);have jP:=wL_len B 64;have f7:=wL_lt pF.out 64;rw[←hW]at n3 jP f7;have pC:=Hd hW;have oM:=Hd jP;have oP:=Hd f7;have n2:=Hd (show Own (n.alloc (.cells #[] 92)) n.heap.size 92 (.slice (some ⟨n.heap.size,0,none⟩) 0 0) []from Own.lit0 rfl lR);have n8:=Hd (kF.out.rd.alloc (.cells #[] 92));clear hW jP f7;go_wp2_with (first|(at_builtin;refine At rfl (.tmp 162) (.tmp 163) 181 rfl n.heap.size 92 _ 8 Zmj _ _ rfl n2.out _ (qvs S) rfl n8.out (Uz _) ?i2 ?i3 ?_));case i2=>rw[hI.out];omega
 rintro vv wv c-nS;have nR:=Hd (show Own wv n.heap.size 92 vv (qvs (rndsN W S 0))from c);have oV:=Hd (((Below.refl n.heap.size n).alloc lR (.cells #[] 92)).trans nS);clear c nS n2 n8;obtain⟨v1,v2,R,rfl⟩:=Ey nR.out;go_wp2_with fail;refine oA.out _ _ ?_
 conv=>arg 2;whnf
 go_wp2_with fail
 go_loopg [20,21] 64 (fun q vv tv wr=>∃t:Nat,t+q=64∧tv=.int .i64 (t:Nat)∧Own wr n.heap.size 92 vv (qvs (rndsN W S t))∧Below n.heap.size n wr)
 case atStart=>exact⟨0,rfl,rfl,nR.out,oV.out⟩
 case round=>
  obtain⟨t,ht,rfl,c,O⟩:=hrel;have n6:=Hd ht;have pN:=Hd c;have n4:=Hd O;obtain⟨u1,u2,u3,rfl⟩:=Ey c;obtain⟨dQ,rfl⟩:∃dQ:World,dQ=wr:=⟨_,rfl⟩;obtain⟨g6,rfl⟩:=eX gk;obtain⟨V,hV⟩:=eX (rndsN W S t);have J:=rndsN_ok (W:=W) hI.out oE.out t;rw[←hV]at J c;have HV:=Hd hV;have nP:=Hd (n3.out.rd.below O lR);have nN:=Hd (oK.out.below O lR);obtain rfl:u2=8:=by
   obtain⟨_,_,e,_⟩:=c.rd;simp only[Value.slice.injEq,qvs_len,J.1]at e;exact e.2.1
  obtain⟨b,o3,p4⟩:∃g,u1=some ⟨g,0,none⟩∧n.heap.size≤g:=by
   rcases c.2 with⟨e,e0⟩|⟨g,cp,qV,e,d,_⟩
   ·simp only[Value.slice.injEq]at e;omega
   ·simp only[Value.slice.injEq]at e;exact⟨g,e.1,d⟩
  subst o3
  by_cases hlt:t<64
  ·have hT:decide ((t:Int)<64)=true:=(by rw[decide_eq_true_iff];omega);have XC:=fun(j:Nat) (hj:j<8)=>(c.at).1 j _ (Hw (L:=V) (i:=j) (by rw[J.1];exact hj));have XL:=fun(i:Nat)=>getD_lt32 J.2 i;have ck:=nN.out.at3 (Hw (L:=KL) (i:=t) (by rw[KL_len];exact hlt));have cw:=nP.out.at3 (Hw (L:=W) (i:=t) (by rw[oM.out];exact hlt));have o8:=getD_lt32 KL_lt t;have f7:=getD_lt32 oP.out t;obtain⟨kb,ko,rfl,qJ,ck⟩:=ck;obtain⟨ob,oo,rfl,qS,cw⟩:=cw;have x0:=XC 0 (by omega);have E:=XL 0;obtain⟨H,e0⟩:=eX (V.getD 0 0);rw[←e0]at x0 E;have x1:=XC 1 (by omega);have hQ:=XL 1;obtain⟨v1,e1⟩:=eX (V.getD 1 0);rw[←e1]at x1 hQ;have x2:=XC 2 (by omega);have nE:=XL 2;obtain⟨v2,e2⟩:=eX (V.getD 2 0);rw[←e2]at x2 nE;have x3:=XC 3 (by omega);have oX:=XL 3;obtain⟨R,e3⟩:=eX (V.getD 3 0);rw[←e3]at x3 oX;have x4:=XC 4 (by omega);have m:=XL 4;obtain⟨I,e4⟩:=eX (V.getD 4 0);rw[←e4]at x4 m;have x5:=XC 5 (by omega);have nD:=XL 5;obtain⟨v5,e5⟩:=eX (V.getD 5 0);rw[←e5]at x5 nD;have x6:=XC 6 (by omega);have nL:=XL 6;obtain⟨v6,e6⟩:=eX (V.getD 6 0);rw[←e6]at x6 nL;have x7:=XC 7 (by omega);have o6:=XL 7;obtain⟨v7,e7⟩:=eX (V.getD 7 0);rw[←e7]at x7 o6;obtain⟨kk,lK⟩:=eX (KL.getD t 0);obtain⟨ww,kN⟩:=eX (W.getD t 0);rw[←lK]at ck o8;rw[←kN]at cw f7;have pE:=Hd (show V=[H,v1,v2,R,I,v5,v6,v7]from by
    refine Jw (by rw[J.1];rfl) fun j hj=> ?_;rw[J.1]at hj;rcases(show j=0∨j=1∨j=2∨j=3∨j=4∨j=5∨j=6∨j=7 by omega)with rfl|rfl|rfl|rfl|rfl|rfl|rfl|rfl
    ·exact e0.symm
    ·exact e1.symm
    ·exact e2.symm
    ·exact e3.symm
    ·exact e4.symm
    ·exact e5.symm
    ·exact e6.symm
    ·exact e7.symm)
   have oT:=Hd lK;have oW:=Hd kN;clear e0 e1 e2 e3 e4 e5 e6 e7 lK kN XC XL J hV c O ht;go_wp2_with fail
   go_loopg [22,23,24,25] 32 (fun q cv mv uv iv wr=>∃i ch ma k:Nat,i+q=32∧k=2^i∧ch=chN I v5 v6%2^i∧ma=majN H v1 v2%2^i∧cv=.int .u64 (ch:Nat)∧mv=.int .u64 (ma:Nat)∧uv=.int .u64 (k:Nat)∧iv=.int .i64 (i:Nat)∧∃md,wr=dQ.drewN md)
   case atStart=>exact⟨0,0,0,1,rfl,rfl,(gS _).symm,(gS _).symm,rfl,rfl,rfl,rfl,0,rfl⟩
   case round=>
    obtain⟨i,ch,ma,k,hi,r,gR,fB,rfl,rfl,rfl,rfl,md,rfl⟩:=hrel;have HI:=Hd hi;have C:=Hd r;have fW:=Hd gR;have eE:=Hd fB;have mQ:0<k:=(by rw[r];exact Nat.pow_pos (by omega));have oY:k≤4294967296:=(by rw[r];exact Zky (by omega));have o9:ch<k:=(by rw[gR,←r];exact aN _ mQ);have pI:ma<k:=by rw[fB,←r];exact aN _ mQ
    by_cases hi32:i<32
    ·have qX:decide ((i:Int)<32)=true:=(by rw[decide_eq_true_iff];omega);have qH:k≤2147483648:=(by rw[r];exact Zkx hi32);have pP:¬k=0:=(by omega);have pO:¬(k:Int)=0:=(by omega);obtain⟨d0,g4⟩:=eX (H/k);have qO:(H:Int)/(k:Int)=(d0:Int):=(by rw[g4,gV]);have qR:d0<4294967296:=bP (by rw[g4];exact bQ _ _) E;obtain⟨b0,hR⟩:=eX (d0%2);have qE:(d0:Int)%2=(b0:Int):=(by omega);have pT:b0<2:=(by omega);have hA:=Hd (show b0=H/2^i%2 by rw[hR,g4,r]);obtain⟨d1,g7⟩:=eX (v1/k);have pY:(v1:Int)/(k:Int)=(d1:Int):=(by rw[g7,gV]);have qP:d1<4294967296:=bP (by rw[g7];exact bQ _ _) hQ;obtain⟨b1,h0⟩:=eX (d1%2);have pX:(d1:Int)%2=(b1:Int):=(by omega);have qG:b1<2:=(by omega);have hP:=Hd (show b1=v1/2^i%2 by rw[h0,g7,r]);obtain⟨d2,hL⟩:=eX (v2/k);have q7:(v2:Int)/(k:Int)=(d2:Int):=(by rw[hL,gV]);have qU:d2<4294967296:=bP (by rw[hL];exact bQ _ _) nE;obtain⟨b2,hZ⟩:=eX (d2%2);have qA:(d2:Int)%2=(b2:Int):=(by omega);have qN:b2<2:=(by omega);have hM:=Hd (show b2=v2/2^i%2 by rw[hZ,hL,r]);obtain⟨d4,hE⟩:=eX (I/k);have pR:(I:Int)/(k:Int)=(d4:Int):=(by rw[hE,gV]);have qW:d4<4294967296:=bP (by rw[hE];exact bQ _ _) m;obtain⟨b4,hS⟩:=eX (d4%2);have p7:(d4:Int)%2=(b4:Int):=(by omega);have qY:b4<2:=(by omega);have hF:=Hd (show b4=I/2^i%2 by rw[hS,hE,r]);obtain⟨d5,hO⟩:=eX (v5/k);have pW:(v5:Int)/(k:Int)=(d5:Int):=(by rw[hO,gV]);have q0:d5<4294967296:=bP (by rw[hO];exact bQ _ _) nD;obtain⟨b5,hY⟩:=eX (d5%2);have p8:(d5:Int)%2=(b5:Int):=(by omega);have qK:b5<2:=(by omega);have hD:=Hd (show b5=v5/2^i%2 by rw[hY,hO,r]);obtain⟨d6,hC⟩:=eX (v6/k);have qT:(v6:Int)/(k:Int)=(d6:Int):=(by rw[hC,gV]);have qI:d6<4294967296:=bP (by rw[hC];exact bQ _ _) nL;obtain⟨b6,hX⟩:=eX (d6%2);have p2:(d6:Int)%2=(b6:Int):=(by omega);have pZ:b6<2:=(by omega);have hG:=Hd (show b6=v6/2^i%2 by rw[hX,hC,r]);obtain⟨p5,hJ⟩:=eX (b5*k);obtain⟨p6,g8⟩:=eX (b6*k);have qQ:(b5:Int)*(k:Int)=(p5:Int):=(by rw[hJ,dR]);have qF:(b6:Int)*(k:Int)=(p6:Int):=(by rw[g8,dR]);have pS:p5≤2147483648:=by rw[hJ];rcases(show b5=0∨b5=1 by omega)with h|h<;>rw[h]<;>omega
     have q5:p6≤2147483648:=by rw[g8];rcases(show b6=0∨b6=1 by omega)with h|h<;>rw[h]<;>omega
     have nK:=Hd hJ;have nQ:=Hd g8;clear hi r gR fB hJ g8 g4 g7 hL hE hO hC hR h0 hZ hS hY hX;rcases Nat.decEq b4 1 with gH|gH<;>rcases Nat.decLe 2 (b0+b1+b2)with hm|hm
     ·have fD:((b4:Int)==1)=false:=(by simp;omega);have jF:decide (((b0:Int)+(b1:Int)+(b2:Int))≥2)=false:=(by rw[decide_eq_false_iff_not];omega);have f5:decide (2≤((b0:Int)+(b1:Int)+(b2:Int)))=false:=(by rw[decide_eq_false_iff_not];omega);go_wp2_with fail
      go_quiet (fail)
      go_wp2_with fail;go_roundg (gk-1);case measure=>have:=HI.out;omega
      case rel=>
       refine⟨i+1,ch+p6,ma,2*k,by have:=HI.out;omega,by rw[C.out,aP,aV],?_,?_,by go_num,by go_num,by go_num,by go_num,md+nq,rfl⟩
       ·rw[mod_succ,chN_bit m hi32,←hF.out,←hD.out,←hG.out,if_neg gH,←fW.out,←C.out,←nQ.out]
       ·rw[mod_succ,majN_bit,←hA.out,←hP.out,←hM.out,if_neg hm,←eE.out,←C.out];omega
     ·have fD:((b4:Int)==1)=false:=(by simp;omega);have jF:decide (((b0:Int)+(b1:Int)+(b2:Int))≥2)=true:=(by rw[decide_eq_true_iff];omega);have f5:decide (2≤((b0:Int)+(b1:Int)+(b2:Int)))=true:=(by rw[decide_eq_true_iff];omega);go_wp2_with fail
      go_quiet (fail)
      go_wp2_with fail;go_roundg (gk-1);case measure=>have:=HI.out;omega
      case rel=>
       refine⟨i+1,ch+p6,ma+k,2*k,by have:=HI.out;omega,by rw[C.out,aP,aV],?_,?_,by go_num,by go_num,by go_num,by go_num,md+nq,rfl⟩
       ·rw[mod_succ,chN_bit m hi32,←hF.out,←hD.out,←hG.out,if_neg gH,←fW.out,←C.out,←nQ.out]
       ·rw[mod_succ,majN_bit,←hA.out,←hP.out,←hM.out,if_pos hm,←eE.out,←C.out];rw[bE]
     ·have fD:((b4:Int)==1)=true:=(by simp;omega);have jF:decide (((b0:Int)+(b1:Int)+(b2:Int))≥2)=false:=(by rw[decide_eq_false_iff_not];omega);have f5:decide (2≤((b0:Int)+(b1:Int)+(b2:Int)))=false:=(by rw[decide_eq_false_iff_not];omega);go_wp2_with fail
      go_quiet (fail)
      go_wp2_with fail;go_roundg (gk-1);case measure=>have:=HI.out;omega
      case rel=>
       refine⟨i+1,ch+p5,ma,2*k,by have:=HI.out;omega,by rw[C.out,aP,aV],?_,?_,by go_num,by go_num,by go_num,by go_num,md+nq,rfl⟩
       ·rw[mod_succ,chN_bit m hi32,←hF.out,←hD.out,←hG.out,if_pos gH,←fW.out,←C.out,←nK.out]
       ·rw[mod_succ,majN_bit,←hA.out,←hP.out,←hM.out,if_neg hm,←eE.out,←C.out];omega
     ·have fD:((b4:Int)==1)=true:=(by simp;omega);have jF:decide (((b0:Int)+(b1:Int)+(b2:Int))≥2)=true:=(by rw[decide_eq_true_iff];omega);have f5:decide (2≤((b0:Int)+(b1:Int)+(b2:Int)))=true:=(by rw[decide_eq_true_iff];omega);go_wp2_with fail
      go_quiet (fail)
      go_wp2_with fail;go_roundg (gk-1);case measure=>have:=HI.out;omega
      case rel=>
       refine⟨i+1,ch+p5,ma+k,2*k,by have:=HI.out;omega,by rw[C.out,aP,aV],?_,?_,by go_num,by go_num,by go_num,by go_num,md+nq,rfl⟩
       ·rw[mod_succ,chN_bit m hi32,←hF.out,←hD.out,←hG.out,if_pos gH,←fW.out,←C.out,←nK.out]
       ·rw[mod_succ,majN_bit,←hA.out,←hP.out,←hM.out,if_pos hm,←eE.out,←C.out];rw[bE]
    ·obtain rfl:i=32:=(by omega);have cD:ch=chN I v5 v6:=(by rw[gR];exact mod_full (chN_lt m));have aF:ma=majN H v1 v2:=(by rw[fB];exact mod_full (majN_lt E hQ));have p1:ch<4294967296:=(by rw[cD];exact chN_lt m);have qL:ma<4294967296:=(by rw[aF];exact majN_lt E hQ);have pM:=Hd cD;have oR:=Hd aF;clear hi r gR fB cD aF hi32 o9 pI mQ oY HI C fW eE;obtain⟨r1,g9⟩:=eX (rot I 6);obtain⟨r2,hN⟩:=eX (rot I 11);obtain⟨r3,g1⟩:=eX (rot I 25);obtain⟨r4,g5⟩:=eX (rot H 2);obtain⟨r5,hB⟩:=eX (rot H 13);obtain⟨r6,g2⟩:=eX (rot H 22);have R1:=Hd (fun W=>Oo I 6 r1 6 rfl m (by omega) g9 W);have R2:=Hd (fun W=>Oo I 11 r2 11 rfl m (by omega) hN W);have R3:=Hd (fun W=>Oo I 25 r3 25 rfl m (by omega) g1 W);have R4:=Hd (fun W=>Oo H 2 r4 2 rfl E (by omega) g5 W);have R5:=Hd (fun W=>Oo H 13 r5 13 rfl E (by omega) hB W);have R6:=Hd (fun W=>Oo H 22 r6 22 rfl E (by omega) g2 W);have y1:r1<4294967296:=(by rw[g9];exact rot_lt m (by omega));have y2:r2<4294967296:=(by rw[hN];exact rot_lt m (by omega));have y3:r3<4294967296:=(by rw[g1];exact rot_lt m (by omega));have y4:r4<4294967296:=(by rw[g5];exact rot_lt E (by omega));have y5:r5<4294967296:=(by rw[hB];exact rot_lt E (by omega));have y6:r6<4294967296:=(by rw[g2];exact rot_lt E (by omega));have X1:=u64_xor_nat r1 r2 (by omega) (by omega);have X2:=u64_xor_nat (r1^^^r2) r3 (by have:=xor_lt32 y1 y2;omega) (by omega);have X3:=u64_xor_nat r4 r5 (by omega) (by omega);have X4:=u64_xor_nat (r4^^^r5) r6 (by have:=xor_lt32 y4 y5;omega) (by omega);obtain⟨z1,lP⟩:=eX (r1^^^r2);obtain⟨z3,lJ⟩:=eX (r4^^^r5);rw[←lP]at X1 X2;rw[←lJ]at X3 X4;obtain⟨sg,iW⟩:=eX (z1^^^r3);obtain⟨s0,mP⟩:=eX (z3^^^r6);rw[←iW]at X2;rw[←mP]at X4;have nJ:=Hd (show sg=S1N I by rw[iW,lP,g9,hN,g1];rfl);have oG:=Hd (show s0=S0N H by rw[mP,lJ,g5,hB,g2];rfl);have qC:sg<4294967296:=(by rw[nJ.out];exact S1N_lt m);have pU:s0<4294967296:=(by rw[oG.out];exact S0N_lt E);clear g9 hN g1 g5 hB g2 lP lJ iW mP;go_wp2_with fail
     go_quiet ((go_at_call 195;first|with_reducible exact Fl (R1.out _)|with_reducible exact Fl (R2.out _)|with_reducible exact Fl (R3.out _)))
     obtain⟨na,rfl⟩:=eX nq;go_wp2_with fail
     go_quiet ((go_at_call 195;first|with_reducible exact Fl (R4.out _)|with_reducible exact Fl (R5.out _)|with_reducible exact Fl (R6.out _)))
     obtain⟨nd,rfl⟩:=eX nq;go_wp2_with fail;obtain⟨l,n7⟩:∃z:Nat,z=v7+sg+ch+kk+ww:=⟨_,rfl⟩;obtain⟨T,nO⟩:∃z:Nat,z=s0+ma:=⟨_,rfl⟩;have e1:(v7:Int)+(sg:Int)+(ch:Int)+(kk:Int)+(ww:Int)=(l:Int):=(by omega);have e2:(s0:Int)+(ma:Int)=(T:Int):=(by omega);have qB:l<21474836480:=(by omega);have p9:T<8589934592:=(by omega);simp only[e1,e2];obtain⟨wz,F⟩:=eX (((dQ.drewN md).drewN na).drewN nd);rw[←F];have lT:=Hd (show Below n.heap.size n wz by rw[F];exact Ab (Ab (Ab n4.out _) _) _);have M:b<wz.heap.size:=(by rw[F];exact World.block_lt_of_cell? dQ ⟨b,0,none⟩ x0);have k0:wz.cell? ⟨b,0,none⟩=some (.int .u64 (H:Int)):=(by rw[F];exact x0);have k1:wz.cell? ⟨b,1,none⟩=some (.int .u64 (v1:Int)):=(by rw[F];exact x1);have k2:wz.cell? ⟨b,2,none⟩=some (.int .u64 (v2:Int)):=(by rw[F];exact x2);have k3:wz.cell? ⟨b,3,none⟩=some (.int .u64 (R:Int)):=(by rw[F];exact x3);have k4:wz.cell? ⟨b,4,none⟩=some (.int .u64 (I:Int)):=(by rw[F];exact x4);have k5:wz.cell? ⟨b,5,none⟩=some (.int .u64 (v5:Int)):=(by rw[F];exact x5);have k6:wz.cell? ⟨b,6,none⟩=some (.int .u64 (v6:Int)):=(by rw[F];exact x6);obtain⟨o1,mG⟩:∃z:Nat,z=(l+T)%4294967296:=⟨_,rfl⟩;obtain⟨o5,mH⟩:∃z:Nat,z=(R+l)%4294967296:=⟨_,rfl⟩;have oZ:=Hd (show [o1,H,v1,v2,o5,I,v5,v6]=rndsN W S (t+1) by
      rw[rndsN,←HV.out,pE.out];unfold rnd;simp only[List.getD_cons_zero,List.getD_cons_succ];rw[←nJ.out,←oG.out,←pM.out,←oR.out,←oT.out,←oW.out,←n7,←nO,←mG,←mH])
     have qZ:o1<4294967296:=(by omega);have qD:o5<4294967296:=(by omega);have pL:=Hd mG;have pH:=Hd mH;clear x0 x1 x2 x3 x4 x5 x6 x7 F n7 nO ck cw e1 e2 mG mH;refine Cb [eF (.int .u64 (l:Nat)),eF (.int .u64 (T:Nat)),eF (.int .u64 ((l:Int)+(T:Int))),eF (.int .u64 (o1:Nat)),eF (.slice (some ⟨b,0,none⟩) 8 u3),eF (.pointer (some ⟨b,0,none⟩)),eF (.int .u64 (H:Nat)),eF (.slice (some ⟨b,0,none⟩) 8 u3),eF (.pointer (some ⟨b,1,none⟩)),eF (.int .u64 (v1:Nat)),eF (.slice (some ⟨b,0,none⟩) 8 u3),eF (.pointer (some ⟨b,2,none⟩)),eF (.int .u64 (v2:Nat)),eF (.slice (some ⟨b,0,none⟩) 8 u3),eF (.pointer (some ⟨b,3,none⟩)),eF (.int .u64 (R:Nat)),eF (.int .u64 (l:Nat)),eF (.int .u64 ((R:Int)+(l:Int))),eF (.int .u64 (o5:Nat)),eF (.slice (some ⟨b,0,none⟩) 8 u3),eF (.pointer (some ⟨b,4,none⟩)),eF (.int .u64 (I:Nat)),eF (.slice (some ⟨b,0,none⟩) 8 u3),eF (.pointer (some ⟨b,5,none⟩)),eF (.int .u64 (v5:Nat)),eF (.slice (some ⟨b,0,none⟩) 8 u3),eF (.pointer (some ⟨b,6,none⟩)),eF (.int .u64 (v6:Nat)),fun v w'=>Own w' wz.heap.size 92 v [.int .u64 (o1:Nat),.int .u64 (H:Nat),.int .u64 (v1:Nat),.int .u64 (v2:Nat),.int .u64 (o5:Nat),.int .u64 (I:Nat),.int .u64 (v5:Nat),.int .u64 (v6:Nat)],fun v w'=>Own w' wz.heap.size 92 v [.int .u64 (o1:Nat),.int .u64 (H:Nat),.int .u64 (v1:Nat),.int .u64 (v2:Nat),.int .u64 (o5:Nat),.int .u64 (I:Nat),.int .u64 (v5:Nat),.int .u64 (v6:Nat)]] (by kernel_rfl) (by kernel_rfl) (by kernel_rfl) (kE (kE (kE (kE (kE (kE (kE (kE (kE (kE (kE (kE (kE (kE (kE (kE (kE (kE (kE (kE (kE (kE (kE (kE (kE (kE (kE (kE (bX (fun v w1 w2 h d=>Own.below h d lR) (bX (fun v w1 w2 h d=>Own.below h d lR) (Ae))))))))))))))))))))))))))))))) ?_ ?_
     ·refine gQ ?_ (gQ ?_ (gB ?_ (gB ?_ (gQ ?_ (gQ ?_ (gQ ?_ (gQ ?_ (gQ ?_ (gQ ?_ (gQ ?_ (gQ ?_ (gQ ?_ (gQ ?_ (gQ ?_ (gQ ?_ (gQ ?_ (gB ?_ (gB ?_ (gQ ?_ (gQ ?_ (gQ ?_ (gQ ?_ (gQ ?_ (gQ ?_ (gQ ?_ (gQ ?_ (gQ ?_ (gB ?_ (gB ?_ .nil)))))))))))))))))))))))))))));all_goals
       intro a wx G ho hf;refine⟨rfl,?_⟩;intro K hK;try have o4:a.tmps[20]?.getD undef=.slice (some ⟨b,0,none⟩) 8 u3:=ho 20 (by kernel_rfl)
       try have q6:a.tmps[26]?.getD undef=.int .u64 (l:Nat):=ho 26 (by kernel_rfl)
       try have p0:a.tmps[27]?.getD undef=.int .u64 (T:Nat):=ho 27 (by kernel_rfl)
       try have E0:=eqn hf.1
       try have E1:=eqn hf.2.1
       try have E2:=eqn hf.2.2.1
       try have E3:=eqn hf.2.2.2.1
       try have E4:=eqn hf.2.2.2.2.1
       try have E5:=eqn hf.2.2.2.2.2.1
       try have E6:=eqn hf.2.2.2.2.2.2.1
       try have E7:=eqn hf.2.2.2.2.2.2.2.1
       try have D0:=(G.cell (p:=⟨b,0,none⟩) M).trans k0
       try have D1:=(G.cell (p:=⟨b,1,none⟩) M).trans k1
       try have D2:=(G.cell (p:=⟨b,2,none⟩) M).trans k2
       try have D3:=(G.cell (p:=⟨b,3,none⟩) M).trans k3
       try have D4:=(G.cell (p:=⟨b,4,none⟩) M).trans k4
       try have D5:=(G.cell (p:=⟨b,5,none⟩) M).trans k5
       try have D6:=(G.cell (p:=⟨b,6,none⟩) M).trans k6
       try(refine Hd ?_;go_simp;exact hK _ rfl)
      ·have A:IntKind.u64.wrap (((l:Int)+(T:Int)))=((l:Int)+(T:Int)):=(by rw[IntKind.wrap_u64];omega);have D:(l:Int)+(T:Int)=((l:Int)+(T:Int)):=(by omega);have eN:IntKind.u64.wrap ((l:Int)+(T:Int))=((l:Int)+(T:Int)):=(by rw[D];exact A);go_simp;exact hK _ _ rfl bR
      ·have oI:((l:Int)+(T:Int))%4294967296=(o1:Int):=(by have:=pL.out;omega);have A:IntKind.u64.wrap ((o1:Int))=(o1:Int):=(by rw[IntKind.wrap_u64];omega);have D:((l:Int)+(T:Int))%4294967296=(o1:Int):=(by omega);have eN:IntKind.u64.wrap (((l:Int)+(T:Int))%4294967296)=(o1:Int):=(by rw[D];exact A);have gD:dN (((l:Int)+(T:Int))) 4294967296=(o1:Int):=(by rw[dO (by omega)];omega);have n1:IntKind.u64.wrap (dN (((l:Int)+(T:Int))) 4294967296)=(o1:Int):=(by rw[gD];exact A);go_simp;exact hK _ _ rfl bR
      ·have A:IntKind.u64.wrap (((R:Int)+(l:Int)))=((R:Int)+(l:Int)):=(by rw[IntKind.wrap_u64];omega);have D:(R:Int)+(l:Int)=((R:Int)+(l:Int)):=(by omega);have eN:IntKind.u64.wrap ((R:Int)+(l:Int))=((R:Int)+(l:Int)):=(by rw[D];exact A);go_simp;exact hK _ _ rfl bR
      ·have oI:((R:Int)+(l:Int))%4294967296=(o5:Int):=(by have:=pH.out;omega);have A:IntKind.u64.wrap ((o5:Int))=(o5:Int):=(by rw[IntKind.wrap_u64];omega);have D:((R:Int)+(l:Int))%4294967296=(o5:Int):=(by omega);have eN:IntKind.u64.wrap (((R:Int)+(l:Int))%4294967296)=(o5:Int):=(by rw[D];exact A);have gD:dN (((R:Int)+(l:Int))) 4294967296=(o5:Int):=(by rw[dO (by omega)];omega);have n1:IntKind.u64.wrap (dN (((R:Int)+(l:Int))) 4294967296)=(o5:Int):=(by rw[gD];exact A);go_simp;exact hK _ _ rfl bR
      ·go_simp;exact hK _ _ (Own.full (B:=wz.heap.size) (cs:=#[.int .u64 (o1:Nat),.int .u64 (H:Nat),.int .u64 (v1:Nat),.int .u64 (v2:Nat),.int .u64 (o5:Nat),.int .u64 (I:Nat),.int .u64 (v5:Nat),.int .u64 (v6:Nat)]) rfl G.size (by unfold maxLen;simp) rfl) (bR.alloc lR _)
      ·have o0:(fun v w'=>Own w' wz.heap.size 92 v [.int .u64 (o1:Nat),.int .u64 (H:Nat),.int .u64 (v1:Nat),.int .u64 (v2:Nat),.int .u64 (o5:Nat),.int .u64 (I:Nat),.int .u64 (v5:Nat),.int .u64 (v6:Nat)]) (a.tmps[300]?.getD undef) wx:=hf.1;obtain⟨H,jA⟩:=eX (a.tmps[300]?.getD undef);rw[←jA]at o0;have e0:=jA.symm;clear jA;go_simp;exact hK _ _ o0 bR
     ·rintro f w9 dT U;have S9:Own w9 wz.heap.size 92 (f 20) [.int .u64 (o1:Nat),.int .u64 (H:Nat),.int .u64 (v1:Nat),.int .u64 (v2:Nat),.int .u64 (o5:Nat),.int .u64 (I:Nat),.int .u64 (v5:Nat),.int .u64 (v6:Nat)]:=U.2.2.2.2.2.2.2.2.2.2.2.2.2.2.2.2.2.2.2.2.2.2.2.2.2.2.2.2.2.1;clear U;simp only[Aj,Aq,Dr,cZ,dA,dB,dC,Nat.reduceBEq,Nat.reduceAdd,Bool.or_false,Bool.or_true,cond_true,cond_false];obtain⟨u,hu⟩:=eX (f 20);rw[←hu]at S9⊢;have pA:=Hd (show Own w9 n.heap.size 92 u (qvs (rndsN W S (t+1))) by rw[←oZ.out];exact S9.mono lT.out.size);have oN:=Hd (lT.out.trans (dT.mono lT.out.size));clear S9 hu dT;go_wp2_with fail;go_roundg (g6-1);case measure=>have:=n6.out;omega
      case rel=>exact⟨t+1,by have:=n6.out;omega,by go_num,pA.out,oN.out⟩
  ·obtain rfl:t=64:=(by omega);have o2:=Hd c;have n5:=Hd J;have c0:=(kF.out.at).1 0 _ (Hw (L:=S) (i:=0) (by rw[hI.out];omega));have dS:d<n.heap.size:=World.block_lt_of_cell? n ⟨d,0,none⟩ c0;have oQ:b≠d:=(by omega);have pB:=Hd (show Own dQ Bw 92 (.slice (some ⟨d,0,none⟩) 8 b3) (qvs (Tc S V 0)) by rw[Td V hI.out];exact kF.out.below O lR);have oL:=Hd (pJ.out.below O lR);have oS:=Hd (O.mono oC);have oO:=Hd (show Tc S V 8=stepN S B by rw[HV.out,pC.out,Yi]);clear ht hlt c J O c0 nP nN hV dS;go_wp2_with fail
   go_loopg [28] 8 (fun q iv wr=>∃i:Nat,i+q=8∧iv=.int .i64 (i:Nat)∧Own wr Bw 92 (.slice (some ⟨d,0,none⟩) 8 b3) (qvs (Tc S V i))∧Own wr n.heap.size 92 (.slice (some ⟨b,0,none⟩) 8 u3) (qvs V)∧Rd wr (.slice (some ⟨mb,0,none⟩) N p3) (bvs P)∧Below Bw n wr)
   case atStart=>exact⟨0,rfl,rfl,pB.out,o2.out,oL.out,oS.out⟩
   case round=>
    obtain⟨i,hi,rfl,fT,g3,i0,k9⟩:=hrel;have HI:=Hd hi;have iS:=Hd fT;have pG:=Hd g3;have oB:=Hd i0;have oH:=Hd k9
    by_cases hlt:i<8
    ·have hT:decide ((i:Int)<8)=true:=(by rw[decide_eq_true_iff];omega);have xs:=getD_lt32 oE.out i;have xv:=getD_lt32 n5.out.2 i;have k1:=(fT.at).1 i _ (Hw (by rw[Fu];exact hlt));have kf:=(fT.at).2 i;have dS:d<wr.heap.size:=World.block_lt_of_cell? wr ⟨d,i,none⟩ k1;have k2:=(g3.at).1 i _ (Hw (by rw[n5.out.1];exact hlt));have M:b<wr.heap.size:=World.block_lt_of_cell? wr ⟨b,i,none⟩ k2;have pQ:(i:Int)<8:=(by omega);have nV:Bw≤wr.heap.size:=(by omega);rw[Jx _ _ _ hlt,if_neg (Nat.lt_irrefl i)]at k1;have f2:=Te S V hlt;obtain⟨s,hs⟩:=eX (S.getD i 0);obtain⟨y,hy⟩:=eX (V.getD i 0);rw[←hs]at k1 xs f2;rw[←hy]at k2 xv f2;obtain⟨o,ho⟩:=eX ((s+y)%4294967296);have e1:((s:Int)+(y:Int))%4294967296=(o:Int):=(by omega);have pV:o<4294967296:=(by omega);rw[←ho]at f2;have oU:=Hd f2;clear hi fT g3 i0 k9 hs hy ho f2;go_wp2_with fail;refine Bl [eF (.slice (some ⟨d,0,none⟩) 8 b3),eF (.int .i64 (i:Nat)),eF (.slice (some ⟨d,0,none⟩) 8 b3),eF (.int .i64 (i:Nat)),eF (.pointer (some ⟨d,i,none⟩)),eF (.int .u64 (s:Nat)),eF (.slice (some ⟨b,0,none⟩) 8 u3),eF (.int .i64 (i:Nat)),eF (.pointer (some ⟨b,i,none⟩)),eF (.int .u64 (y:Nat)),eF (.int .u64 ((s:Int)+(y:Int))),eF (.int .u64 (o:Nat)),eF (.pointer (some ⟨d,i,none⟩)),fun v w'=>Own w' Bw 92 (.slice (some ⟨d,0,none⟩) 8 b3) (qvs (Tc S V (i+1)))∧Own w' n.heap.size 92 (.slice (some ⟨b,0,none⟩) 8 u3) (qvs V)∧Rd w' (.slice (some ⟨mb,0,none⟩) N p3) (bvs P)∧Below Bw n w']
      (cK 14 true) (fun X=>OnlyG d wr X) (fun X Y=>OnlyG d X Y) (some 13) (by kernel_rfl) ?_ ((OnlyG.of_below bR (eA dS)).drewN 1) (fun X Y hx h=>OnlyG.of_below h (bO (eA dS) hx.2.1)) (fun X Y hx hs=>hx.trans hs) (by kernel_rfl) (by kernel_rfl) ?_ ?_
     ·exact kE (kE (kE (kE (kE (kE (kE (kE (kE (kE (kE (kE (kE (Cv (fun v x y h _ hs=>⟨h.1.below hs lR,h.2.1.below hs lR,h.2.2.1.below hs lR,h.2.2.2.trans (hs.mono (bO oC h.2.2.2.size))⟩) (Ae))))))))))))))
     ·refine gP ?_ rfl (gP ?_ rfl (gP ?_ rfl (gP ?_ rfl (gP ?_ rfl (gP ?_ rfl (gP ?_ rfl (gP ?_ rfl (gP ?_ rfl (gP ?_ rfl (gO ?_ (gO ?_ (gP ?_ rfl (gO ?_ .nil)))))))))))));all_goals
       intro a wx G hq ho hf;have G:OnlyG d wr wx:=G;have c7:Below wr.heap.size wr wx:=hq (by kernel_rfl);clear hq;refine⟨rfl,?_⟩;intro K hK;try have P7:a.tmps[7]?.getD undef=.slice (some ⟨d,0,none⟩) 8 b3:=ho 7 (by kernel_rfl)
       try have o4:a.tmps[20]?.getD undef=.slice (some ⟨b,0,none⟩) 8 u3:=ho 20 (by kernel_rfl)
       try have qM:a.tmps[28]?.getD undef=.int .i64 (i:Nat):=ho 28 (by kernel_rfl)
       try have E0:=eqn hf.1
       try have E1:=eqn hf.2.1
       try have D0:=(c7.cell (p:=⟨d,i,none⟩) dS).trans k1
       try have D1:=(c7.cell (p:=⟨b,i,none⟩) M).trans k2
       try have D2:=(c7.frozen (p:=⟨d,i,none⟩) dS).trans kf
       try have D3:=(iS.out.below c7 lR).set i (.int .u64 (o:Int))
       try(refine Hd ?_;go_simp;exact hK _ rfl)
      ·have A:IntKind.u64.wrap (((s:Int)+(y:Int)))=((s:Int)+(y:Int)):=(by rw[IntKind.wrap_u64];omega);have D:(s:Int)+(y:Int)=((s:Int)+(y:Int)):=(by omega);have eN:IntKind.u64.wrap ((s:Int)+(y:Int))=((s:Int)+(y:Int)):=(by rw[D];exact A);go_simp;exact hK _ _ rfl (Af rfl bR)
      ·have oI:((s:Int)+(y:Int))%4294967296=(o:Int):=e1;have A:IntKind.u64.wrap ((o:Int))=(o:Int):=(by rw[IntKind.wrap_u64];omega);have D:((s:Int)+(y:Int))%4294967296=(o:Int):=(by omega);have eN:IntKind.u64.wrap (((s:Int)+(y:Int))%4294967296)=(o:Int):=(by rw[D];exact A);have gD:dN (((s:Int)+(y:Int))) 4294967296=(o:Int):=(by rw[dO (by omega)];omega);have n1:IntKind.u64.wrap (dN (((s:Int)+(y:Int))) 4294967296)=(o:Int):=(by rw[gD];exact A);go_simp;exact hK _ _ rfl (Af rfl bR)
      ·rw[Zk0,oU.out]at D3;have q2:=(pG.out.below c7 lR).setOther (a:=⟨d,i,none⟩) (show(Value.slice (some ⟨b,0,none⟩) 8 u3).ownBlock≠some d from fun e=>oQ (by simpa [Value.ownBlock]using e)) (.int .u64 (o:Int));have q3:=(oB.out.below c7 lR).setOther d i (.int .u64 (o:Int)) o7;have q4:=(oH.out.trans (c7.mono nV)).setCell (p:=⟨d,i,none⟩) pD (.int .u64 (o:Int));go_simp;exact hK undef _ ⟨D3,q2,q3,q4⟩ (Ca rfl (OnlyG.setCell i _))
     ·rintro f w9 dT U;have dT:OnlyG d wr w9:=dT;have hU:Own w9 Bw 92 (.slice (some ⟨d,0,none⟩) 8 b3) (qvs (Tc S V (i+1)))∧Own w9 n.heap.size 92 (.slice (some ⟨b,0,none⟩) 8 u3) (qvs V)∧Rd w9 (.slice (some ⟨mb,0,none⟩) N p3) (bvs P)∧Below Bw n w9:=U.2.2.2.2.2.2.2.2.2.2.2.2.2.1;clear U;simp only[Aj,Aq,Dr,cZ,dA,dB,dC,Nat.reduceBEq,Nat.reduceAdd,Bool.or_false,Bool.or_true,cond_true,cond_false];clear dT;have hH:=Hd hU;clear hU;go_wp2_with fail;go_roundg (gk-1);case measure=>have:=HI.out;omega
      case rel=>exact⟨i+1,by have:=HI.out;omega,by go_num,hH.out.1,hH.out.2.1,hH.out.2.2.1,hH.out.2.2.2⟩
    ·obtain rfl:i=8:=(by omega);have hT:decide (((8:Nat):Int)<8)=false:=(by decide);clear hi fT g3 i0 k9 hlt;go_wp2_with fail;rw[oO.out]at iS;refine Zeq _ (fun f=>#[i7,kV,.slice a2 64 c2,l6,kX,kT,lS,.slice (some ⟨d,0,none⟩) 8 b3,h4,mD,eR,gJ,fM,gU,.slice q1 64 q3,eZ,eI,dX,gF,fC,f 20,f 21,f 22,f 23,f 24,f 25,f 26,f 27,f 28,gN,gX,fK,d7,gZ,fH,fA,fN,eV,eO,dV,f1,fV,gI,eK,eJ,fY,gC,fG,fO,gY,e9,fF,gE,eC,f0,gT,g0,fZ,fR,fE,fL,dZ,fS,dW,dU,dY,fJ,d3,eL,eQ,fI,eT,eD,fU,e8,gG,eH,gL,fP,f9,fX,eW,d8,eG,d9,gM,gA,gK,eU,f4,f8,fQ,eM,eB,f3,eP,eS,f6,gW,eY,aK,bZ,bG,a8,dF,cQ,c6,bN,cO,bK,cI,aQ,aJ,bU,aZ,dK,bI,bB,cH,cM,a9,c1,aD,c3,a7,c9,cT,bV,dH,a0,dL,cW,cN,aY,cV,b8,a6,aC,c8,a1,bF,aI,aM,bH,c4,aA,cJ,cR,aO,dM,cG,dG,dI,a5,bD,bC,bY,a4,b9,bA,cE,cY,f 162,f 163,f 164,f 165,f 166,f 167,f 168,f 169,f 170,f 171,f 172,f 173,f 174,f 175,f 176,f 177,f 178,f 179,f 180,f 181,f 182,f 183,f 184,f 185,f 186,f 187,f 188,f 189,f 190,f 191,f 192,f 193,f 194,f 195,f 196,f 197,f 198,f 199,f 200,f 201,f 202,f 203,f 204,f 205,f 206,f 207,f 208,f 209,f 210,f 211,f 212,f 213,f 214,f 215,f 216,f 217,f 218,f 219,f 220,f 221,f 222,f 223,f 224,f 225,f 226,f 227,f 228,f 229,f 230,f 231,f 232,f 233,f 234,f 235,f 236,f 237,f 238,f 239,f 240,f 241,f 242,f 243,f 244,f 245,f 246,f 247,f 248,f 249,f 250,f 251,f 252,f 253,f 254,f 255,f 256,f 257,f 258,f 259,f 260,f 261,f 262,f 263,f 264,f 265,f 266,f 267,f 268,f 269,f 270,f 271,f 272,f 273,f 274,f 275,f 276,f 277,f 278,f 279,f 280,f 281,f 282,f 283,f 284,f 285,f 286,f 287,f 288,f 289,f 290,f 291,f 292,f 293,f 294,f 295,f 296,f 297,f 298,f 299,f 300,f 301,f 302,f 303,f 304,f 305,f 306,f 307,f 308,f 309,f 310,f 311,f 312,f 313,f 314,f 315,f 316,f 317,aS,c5,aG,bS,aX,bW,dJ,bM,dD,bL,Z,cF,cX,aT,aE,bT,cL,aL,aU,a3,cA,cC,cS,dP,aH,bJ,cP,aB,b7,aW,cU,cB,aR,dE]) (fun f=>pK.out f _ iS.out oB.out oH.out) rfl
end Go.Proofs.YtfofaiommeckbaaGreat
