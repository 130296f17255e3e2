import Derived.Test.YtfofaiommeckbaaGreatZTr14
import Derived.StillTailTactics
open Go.Obj renaming cells -> rK
open Go.Ending renaming returned -> rM
open Go.Value renaming slice -> rD, int -> rE, pointer -> rF
open Go.IntKind renaming u64 -> rI
open Option renaming none -> rJ
open List renaming replicate -> cJ, append_assoc -> cY, length_append -> aD, length_take -> bW, take_of_length_le -> bV, flatten_cons -> dA, filterMap_cons -> dG, filterMap_nil -> dH, contains_cons -> dJ, contains_nil -> dK
open Nat renaming pow_succ -> aN, pow_le_pow_right -> aZ, le_of_lt_succ -> iF, mod_one -> iG, mod_lt -> aL, lt_of_le_of_lt -> bQ, div_le_self -> bM, mul_comm -> aU, one_mul -> aP, le_of_lt -> fE, le_trans -> eN
open Int renaming natCast_ediv -> cC, natCast_mul -> fG, tmod -> eL, tmod_eq_emod_of_nonneg -> eM
set_option linter.unusedVariables false
set_option maxRecDepth 100000
set_option maxHeartbeats 40000000
namespace Go.Proofs.YtfofaiommeckbaaGreat
open Go.RowKit ShaM WireM
theorem Zac (x:Nat):(beN 8 x).length=8:=beN_len 8 x
theorem Zi5 (x:Nat) {i:Nat}(h:i<8):(beN 8 x)[i]? =some (x/256^(7-i)%256):=by
 obtain rfl|rfl|rfl|rfl|rfl|rfl|rfl|rfl:i=0\/i=1\/i=2\/i=3\/i=4\/i=5\/i=6\/i=7:=by omega
 all_goals rfl
theorem Zff (x:Nat) {i:Nat}(h:i<8):(beN 8 x).take (i+1)=(beN 8 x).take i++[x/256^(7-i)%256]:=by
 rw[List.take_add_one,Zi5 x h];rfl
theorem Znq {w:World} {v:Value} {xs:List Value}(h:Rd w v xs):∃a n c,v=.slice a n c:=by
 obtain⟨a,c,e,_⟩:=h;exact⟨_,_,_,e⟩
def Zcu (L:List Nat)(j:Nat):List Nat:=L++[128]++cJ j 0
theorem Zfg (L:List Nat):Zcu L 0=L++[128]:=by simp[Zcu]
theorem Zfh (L:List Nat)(j:Nat):Zcu L (j+1)=Zcu L j++[0]:=by rw[Zcu,Zcu,List.replicate_succ',cY];simp
theorem Sd (L:List Nat)(j:Nat):(Zcu L j).length=L.length+1+j:=by simp[Zcu];omega
def Zb7 (L:List Nat)(Z i:Nat):List Nat:=Zcu L Z++(beN 8 (8*L.length)).take i
theorem Zfi (L:List Nat)(Z:Nat):Zb7 L Z 0=Zcu L Z:=by simp[Zb7]
theorem Zfj (L:List Nat)(Z:Nat) {i:Nat}(h:i<8):Zb7 L Z (i+1)=Zb7 L Z i++[8*L.length/256^(7-i)%256]:=by
 rw[Zb7,Zb7,Zff _ h,cY]
theorem Zad (L:List Nat)(Z:Nat) {i:Nat}(h:i<=8):(Zb7 L Z i).length=L.length+1+Z+i:=by
 rw[Zb7,aD,Sd,bW,Zac];omega
theorem Zi6 (L:List Nat):Zb7 L ((119-L.length%64)%64) 8=padL L:=by
 rw[Zb7,Zcu,padL,tailL,bV (by rw[Zac];omega)];simp
theorem Pa (x n r:Nat)(z:Int)(hz:z=(n:Int))(hx:x<4294967296)(hn:n<=32)(hr:r=rot x n)(w:World):
  Calls Tryz.prog 195 #[rE rI (x:Nat),rE .i64 z] w fun e w'=>e=rM (rE rI (r:Nat))/\w'=w:=by rw[hz,hr];exact Zhg x n w hx hn
theorem Zkk (x n r:Nat)(z:Int)(hz:z=(n:Int))(hx:x<4294967296)(hn:n<=32)(hr:r=x/2^n)(w:World):
  Calls Tryz.prog 196 #[rE rI (x:Nat),rE .i64 z] w fun e w'=>e=rM (rE rI (r:Nat))/\w'=w:=by rw[hz,hr];exact Zc4 x n w hx hn
def xN (B:List Nat)(t:Nat):Nat->Nat
 |0=>0
 |i+1=>256*xN B t i+B.getD (4*t+i) 0
theorem Zlr {B:List Nat}(hB:∀x∈B,x<256)(t:Nat):∀i,xN B t i<256^i
 |0=>by simp[xN]
 |i+1=>by
  have h:=Zlr hB t i;have g:=Gu hB (by omega) (4*t+i);rw[xN,aN];generalize 256^i=z at h|-;omega
theorem Zmz {B:List Nat}(hB:∀x∈B,x<256)(t:Nat) {i:Nat}(hi:i<4):xN B t i<16777216:=
 Nat.lt_of_lt_of_le (Zlr hB t i) (aZ (n:=256) (by decide) (iF hi))
theorem Zm0 {B:List Nat}(hB:∀x∈B,x<256)(t:Nat):xN B t 4<4294967296:=Zlr hB t 4
theorem Zls {i:Nat}(hi:i<32):2^i<=2147483648:=aZ (n:=2) (by decide) (iF hi)
theorem Zlt {i:Nat}(hi:i<=32):2^i<=4294967296:=aZ (n:=2) (by decide) hi
theorem Zlu (B l:List Nat) {t:Nat}(h:t<16):xN B t 4=wNext B l t:=by
 simp only[xN,wNext,iP h,Nat.add_zero];omega
theorem Zlv (L:List Nat)(i n:Nat):(qvs L).set i (rE rI (n:Int))=qvs (L.set i n):=by simp[qvs,List.map_set]
theorem Rd.setOther {w:World} {b d n c:Nat} {xs:List Value}(h:Rd w (rD (some ⟨b,d,rJ⟩) n c) xs)(g i:Nat)(u:Value)(f:b≠g):Rd (w.setCell ⟨g,i,rJ⟩ u) (rD (some ⟨b,d,rJ⟩) n c) xs:=
 h.onlyG (OnlyG.setCell i u) fun a n c e=>by simp only[Value.slice.injEq,Option.some.injEq]at e;rw[<-e.1];exact f
def Zae (S:List Nat)(i:Nat):List Nat:=((S.take i).map (beN 4)).flatten
theorem Zi7 {S:List Nat}(h:S.length=8) {i:Nat}(hi:i<=8):(Zae S i).length=4*i:=by
 have e:∀L:List Nat,((L.map (beN 4)).flatten).length=4*L.length:=by
  intro L
  induction L with
  |nil=>rfl
  |cons a L ih=>rw[List.map_cons,dA,aD,ih,beN_len,List.length_cons];omega
 rw[Zae,e,bW];omega
theorem Zfk {S:List Nat}(h:S.length=8) {i x:Nat}(b:i<8)(hx:x=S.getD i 0)(a:x<4294967296):Zae S (i+1)=Zae S i++[x/16777216,x/65536%256,x/256%256,x%256]:=by
 have e:S.take (i+1)=S.take i++[x]:=by
  rw[List.take_succ_eq_append_getElem (by omega),hx,List.getD_eq_getElem?_getD,List.getElem?_eq_getElem (by omega)];rfl
 rw[Zae,e,List.map_append,List.flatten_append]
 congr 1
 have e2:beN 4 x=[x/16777216%256,x/65536%256,x/256%256,x%256]:=(by simp[beN]);rw[show List.map (beN 4) [x]=[beN 4 x]from rfl,dA,List.flatten_nil,List.append_nil,e2,Nat.mod_eq_of_lt (show x/16777216<256 by omega)]
theorem Zi8 {S:List Nat}(h:S.length=8):Zae S 8=(S.map (beN 4)).flatten:=by rw[Zae,bV (by omega)]
def Pb:Code->Code
 | .seq _ b=>b
 |c=>c
def Zm1:Code->Code
 | .seq a _=>a
 |c=>c
def inC:Code->Code
 | .block _ c=>c
 | .loop c=>c
 |c=>c
theorem Zfl {Q:Exit->Act->World->Prop} {w:World}(a:Act)(G:(Nat->Value)->Array Value)(h:∀f:Nat->Value,Q .normal ⟨G f,[]⟩ w)(e:a=⟨G fun k=>a.tmps.toList.getD k undef,[]⟩):Q .normal a w:=by
 rw[e];exact h _
theorem Zfm (K:Act->World->Prop) (Q:Exit->Act->World->Prop) (iK iL mT nC nD nE nF nG eC eD eE eG eH eI eJ eK eO oD oE oF oG oH oI oJ oK oL eP eQ eR eS eT eU eV eW eY eZ e8 e9 fA fB fC fD fF fH fI fJ fK fL fM fN fO fP fQ fR fS fT fU fV fW fX fY fZ f0 f1 f2 f3 f4 f5 f6 f7 f8 f9 gA gC gD gE gF gG gH gI gJ gK gL gM gN gR gS gT gU gV gW gX gY gZ g0 g1 g2 aD aE aF aG aH aI aJ aK aM aO aQ aR aS aT aV aW aX aY aZ a0 a1 a3 a4 a5 a6 a7 a8 a9 bA bB bC bD bE bF bG bH bI bJ bK bL bN bO bP bS bT bU bV bW bY bZ b7 b8 b9 cA cB cD cE cF cG cH cI cK iM iO iQ iR iS iT iU iV iW iX iY iZ i0 i1 i4 i5 i6 i7 i8 i9 jA jB jC jD jE jF jG jH jI jJ jK jL jM jN jO jP jQ jR jS jT jU jV jW jX jY jZ j0 j1 j2 j3 j4 j5 j6 j7 j8 j9 kA kB kC kD kF kG kH kI kJ kK kL kM kN kO kP kQ kR kS kT kU kV kW kX kY kZ k7 k8 k9 lA lB lC lD lE lF lG lH lI lJ lK lL lM lN lO lP lQ lS lT lU lV lW lX lY lZ l0 l1 l2 l3 l4 l5 l6 l7 l8 l9 mA mB mC mD mE mF mG mH mI mJ mK mL mM mN mO mP mQ mR mS mU mV mW mX mY mZ m0 m1 m2 m3 m4 m5 m6 m7 m8 m9 nA nB cL cM cN cO cP cQ cR cS cT cU cV cW cX cY cZ c1 c3 c4 c5 c6 c7 c8 c9 dA dB dC dD dE dF dL dM dO dP dQ:Value) (A:World) (Bw BO d b3 mb N p3 q3 c2:Nat) (q1 a2:Option Addr) (P S B:List Nat)
  (Z:∀a w,Code.wp Tryz.prog (Pb (Pb (Pb (inC (Zm1 (Pb (inC (inC (Pb (Zm1 (Pb (Pb (Pb (Pb (Pb (Pb (Tryz.f144.body.getD .skip))))))))))))))))) Q a w->K a w)
  (n7:Own A BO 92 (rD q1 64 q3) (qvs (wL B 64))) (n6:Rd A (rD a2 64 c2) (qvs KL)) (n5:Own A Bw 92 (rD (some ⟨d,0,rJ⟩) 8 b3) (qvs S)) (n8:Rd A (rD (some ⟨mb,0,rJ⟩) N p3) (bvs P))
  (n3:∀x∈B,x<256) (n9:∀x∈S,x<4294967296) (oA:S.length=8) (pM:mb≠d) (pJ:Bw<=d) (n1:Bw<=A.heap.size)
  (hq:∀(f:Nat->Value) (w':World),Own w' Bw 92 (rD (some ⟨d,0,rJ⟩) 8 b3) (qvs (stepN S B))->Rd w' (rD (some ⟨mb,0,rJ⟩) N p3) (bvs P)->Below Bw A w'->Q .normal ⟨#[iK,iL,rD a2 64 c2,mT,nC,nD,nE,rD (some ⟨d,0,rJ⟩) 8 b3,nF,nG,eC,eD,eE,eG,rD q1 64 q3,eH,eI,eJ,eK,eO,f 20,f 21,f 22,f 23,f 24,f 25,f 26,f 27,f 28,eP,eQ,eR,eS,eT,eU,eV,eW,eY,eZ,e8,e9,fA,fB,fC,fD,fF,fH,fI,fJ,fK,fL,fM,fN,fO,fP,fQ,fR,fS,fT,fU,fV,fW,fX,fY,fZ,f0,f1,f2,f3,f4,f5,f6,f7,f8,f9,gA,gC,gD,gE,gF,gG,gH,gI,gJ,gK,gL,gM,gN,gR,gS,gT,gU,gV,gW,gX,gY,gZ,g0,g1,g2,aD,aE,aF,aG,aH,aI,aJ,aK,aM,aO,aQ,aR,aS,aT,aV,aW,aX,aY,aZ,a0,a1,a3,a4,a5,a6,a7,a8,a9,bA,bB,bC,bD,bE,bF,bG,bH,bI,bJ,bK,bL,bN,bO,bP,bS,bT,bU,bV,bW,bY,bZ,b7,b8,b9,cA,cB,cD,cE,cF,cG,cH,cI,cK,f 162,f 163,f 164,f 165,f 166,f 167,f 168,f 169,f 170,f 171,f 172,f 173,f 174,f 175,f 176,f 177,f 178,f 179,f 180,f 181,f 182,f 183,f 184,f 185,f 186,f 187,f 188,f 189,f 190,f 191,f 192,f 193,f 194,f 195,f 196,f 197,f 198,f 199,f 200,f 201,f 202,f 203,f 204,f 205,f 206,f 207,f 208,f 209,f 210,f 211,f 212,f 213,f 214,f 215,f 216,f 217,f 218,f 219,f 220,f 221,f 222,f 223,f 224,f 225,f 226,f 227,f 228,f 229,f 230,f 231,f 232,f 233,f 234,f 235,f 236,f 237,f 238,f 239,f 240,f 241,f 242,f 243,f 244,f 245,f 246,f 247,f 248,f 249,f 250,f 251,f 252,f 253,f 254,f 255,f 256,f 257,f 258,f 259,f 260,f 261,f 262,f 263,f 264,f 265,f 266,f 267,f 268,f 269,f 270,f 271,f 272,f 273,f 274,f 275,f 276,f 277,f 278,f 279,f 280,f 281,f 282,f 283,f 284,f 285,f 286,f 287,f 288,f 289,f 290,f 291,f 292,f 293,f 294,f 295,f 296,f 297,f 298,f 299,f 300,f 301,f 302,f 303,f 304,f 305,f 306,f 307,f 308,f 309,f 310,f 311,f 312,f 313,f 314,f 315,f 316,f 317,cL,cM,cN,cO,cP,cQ,cR,cS,cT,cU,cV,cW,cX,cY,cZ,c1,c3,c4,c5,c6,c7,c8,c9,dA,dB,dC,dD,dE,dF,dL,dM,dO,dP,dQ],[]⟩ w'):
  Code.wp Tryz.prog (Zm1 (Pb (Pb (inC (Zm1 (Pb (inC (inC (Pb (Zm1 (Pb (Pb (Pb (Pb (Pb (Pb (Tryz.f144.body.getD .skip))))))))))))))))) (Exit.then K Q) ⟨#[iK,iL,rD a2 64 c2,mT,nC,nD,nE,rD (some ⟨d,0,rJ⟩) 8 b3,nF,nG,eC,eD,eE,eG,rD q1 64 q3,eH,eI,eJ,eK,eO,oD,oE,oF,oG,oH,oI,oJ,oK,oL,eP,eQ,eR,eS,eT,eU,eV,eW,eY,eZ,e8,e9,fA,fB,fC,fD,fF,fH,fI,fJ,fK,fL,fM,fN,fO,fP,fQ,fR,fS,fT,fU,fV,fW,fX,fY,fZ,f0,f1,f2,f3,f4,f5,f6,f7,f8,f9,gA,gC,gD,gE,gF,gG,gH,gI,gJ,gK,gL,gM,gN,gR,gS,gT,gU,gV,gW,gX,gY,gZ,g0,g1,g2,aD,aE,aF,aG,aH,aI,aJ,aK,aM,aO,aQ,aR,aS,aT,aV,aW,aX,aY,aZ,a0,a1,a3,a4,a5,a6,a7,a8,a9,bA,bB,bC,bD,bE,bF,bG,bH,bI,bJ,bK,bL,bN,bO,bP,bS,bT,bU,bV,bW,bY,bZ,b7,b8,b9,cA,cB,cD,cE,cF,cG,cH,cI,cK,iM,iO,iQ,iR,iS,iT,iU,iV,iW,iX,iY,iZ,i0,i1,i4,i5,i6,i7,i8,i9,jA,jB,jC,jD,jE,jF,jG,jH,jI,jJ,jK,jL,jM,jN,jO,jP,jQ,jR,jS,jT,jU,jV,jW,jX,jY,jZ,j0,j1,j2,j3,j4,j5,j6,j7,j8,j9,kA,kB,kC,kD,kF,kG,kH,kI,kJ,kK,kL,kM,kN,kO,kP,kQ,kR,kS,kT,kU,kV,kW,kX,kY,kZ,k7,k8,k9,lA,lB,lC,lD,lE,lF,lG,lH,lI,lJ,lK,lL,lM,lN,lO,lP,lQ,lS,lT,lU,lV,lW,lX,lY,lZ,l0,l1,l2,l3,l4,l5,l6,l7,l8,l9,mA,mB,mC,mD,mE,mF,mG,mH,mI,mJ,mK,mL,mM,mN,mO,mP,mQ,mR,mS,mU,mV,mW,mX,mY,mZ,m0,m1,m2,m3,m4,m5,m6,m7,m8,m9,nA,nB,cL,cM,cN,cO,cP,cQ,cR,cS,cT,cU,cV,cW,cX,cY,cZ,c1,c3,c4,c5,c6,c7,c8,c9,dA,dB,dC,dD,dE,dF,dL,dM,dO,dP,dQ],[]⟩ A:=by
 have nL:=Hd Z;have nM:=Hd n7;have oW:=Hd n6;have h4:=Hd n5;have o7:=Hd n8;have oQ:=Hd n3;have nW:=Hd n9;have hB:=Hd oA;have o4:=Hd hq;clear Z n7 n6 n5 n8 n3 n9 oA hq
 conv=>arg 2;whnf
 obtain⟨W,hW⟩:=eX (wL B 64);have iH:=wL_len B 64;have eB:=wL_lt oQ.out 64;rw[<-hW]at nM iH eB;have pG:=Hd hW;have pF:=Hd iH;have pE:=Hd eB;have nQ:=Hd (show Own (A.alloc (rK #[] 92)) A.heap.size 92 (rD (some ⟨A.heap.size,0,rJ⟩) 0 0) []from Own.lit0 rfl lR);have nK:=Hd (h4.out.rd.alloc (rK #[] 92));clear hW iH eB;go_wp2_with (first|(at_builtin;refine An rfl (.tmp 162) (.tmp 163) 181 rfl A.heap.size 92 _ 8 Znb _ _ rfl nQ.out _ (qvs S) rfl nK.out (Vm _) ?i2 ?i3 ?_));case i2=>rw[hB.out];omega
 rintro vv wv c-n4;have nN:=Hd (show Own wv A.heap.size 92 vv (qvs (rndsN W S 0))from c);have oR:=Hd (((Below.refl A.heap.size A).alloc lR (rK #[] 92)).trans n4);clear c n4 nQ nK;obtain⟨v1,v2,U,rfl⟩:=Dr nN.out;go_wp2_with fail;refine nL.out _ _ ?_
 conv=>arg 2;whnf
 go_wp2_with fail
 go_loopg [20,21] 64 (fun q vv tv wr=>∃t:Nat,t+q=64/\tv=rE .i64 (t:Nat)/\Own wr A.heap.size 92 vv (qvs (rndsN W S t))/\Below A.heap.size A wr)
 case atStart=>exact⟨0,rfl,rfl,nN.out,oR.out⟩
 case round=>
  obtain⟨t,ht,rfl,c,O⟩:=hrel;have nX:=Hd ht;have pS:=Hd c;have nJ:=Hd O;obtain⟨u1,u2,u3,rfl⟩:=Dr c;obtain⟨dT,rfl⟩:∃dT:World,dT=wr:=⟨_,rfl⟩;obtain⟨g6,rfl⟩:=eX gk;obtain⟨V,hV⟩:=eX (rndsN W S t);have M:=rndsN_ok (W:=W) hB.out nW.out t;rw[<-hV]at M c;have HV:=Hd hV;have nT:=Hd (nM.out.rd.below O lR);have nS:=Hd (oW.out.below O lR);obtain rfl:u2=8:=by
   obtain⟨_,_,e,_⟩:=c.rd;simp only[Value.slice.injEq,qvs_len,M.1]at e;exact e.2.1
  obtain⟨b,pN,qQ⟩:∃g,u1=some ⟨g,0,rJ⟩/\A.heap.size<=g:=by
   rcases c.2 with⟨e,e0⟩|⟨g,cp,qC,e,d,_⟩
   ·simp only[Value.slice.injEq]at e;omega
   ·simp only[Value.slice.injEq]at e;exact⟨g,e.1,d⟩
  subst pN
  by_cases hlt:t<64
  ·have h2:decide ((t:Int)<64)=true:=(by rw[dI];omega);have XC:=fun(j:Nat) (hj:j<8)=>(c.at).1 j _ (Hq (L:=V) (i:=j) (by rw[M.1];exact hj));have XL:=fun(i:Nat)=>getD_lt32 M.2 i;have ck:=nS.out.at3 (Hq (L:=KL) (i:=t) (by rw[KL_len];exact hlt));have cw:=nT.out.at3 (Hq (L:=W) (i:=t) (by rw[pF.out];exact hlt));have pL:=getD_lt32 KL_lt t;have eB:=getD_lt32 pE.out t;obtain⟨kb,ko,rfl,qT,ck⟩:=ck;obtain⟨ob,oo,rfl,qV,cw⟩:=cw;have x0:=XC 0 (by omega);have G:=XL 0;obtain⟨H,e0⟩:=eX (V.getD 0 0);rw[<-e0]at x0 G;have x1:=XC 1 (by omega);have hS:=XL 1;obtain⟨v1,e1⟩:=eX (V.getD 1 0);rw[<-e1]at x1 hS;have x2:=XC 2 (by omega);have oM:=XL 2;obtain⟨v2,e2⟩:=eX (V.getD 2 0);rw[<-e2]at x2 oM;have x3:=XC 3 (by omega);have pQ:=XL 3;obtain⟨U,e3⟩:=eX (V.getD 3 0);rw[<-e3]at x3 pQ;have x4:=XC 4 (by omega);have m:=XL 4;obtain⟨I,e4⟩:=eX (V.getD 4 0);rw[<-e4]at x4 m;have x5:=XC 5 (by omega);have oN:=XL 5;obtain⟨v5,e5⟩:=eX (V.getD 5 0);rw[<-e5]at x5 oN;have x6:=XC 6 (by omega);have oO:=XL 6;obtain⟨v6,e6⟩:=eX (V.getD 6 0);rw[<-e6]at x6 oO;have x7:=XC 7 (by omega);have pR:=XL 7;obtain⟨v7,e7⟩:=eX (V.getD 7 0);rw[<-e7]at x7 pR;obtain⟨kk,h6⟩:=eX (KL.getD t 0);obtain⟨ww,h7⟩:=eX (W.getD t 0);rw[<-h6]at ck pL;rw[<-h7]at cw eB;have pC:=Hd (show V=[H,v1,v2,U,I,v5,v6,v7]from by
    refine Js (by rw[M.1];rfl) fun j hj=> ?_;rw[M.1]at hj;rcases(show j=0\/j=1\/j=2\/j=3\/j=4\/j=5\/j=6\/j=7 by omega)with rfl|rfl|rfl|rfl|rfl|rfl|rfl|rfl
    ·exact e0.symm
    ·exact e1.symm
    ·exact e2.symm
    ·exact e3.symm
    ·exact e4.symm
    ·exact e5.symm
    ·exact e6.symm
    ·exact e7.symm)
   have oT:=Hd h6;have oU:=Hd h7;clear e0 e1 e2 e3 e4 e5 e6 e7 h6 h7 XC XL M hV c O ht;go_wp2_with fail
   go_loopg [22,23,24,25] 32 (fun q cv mv uv iv wr=>∃i ch ma k:Nat,i+q=32/\k=2^i/\ch=chN I v5 v6%2^i/\ma=majN H v1 v2%2^i/\cv=rE rI (ch:Nat)/\mv=rE rI (ma:Nat)/\uv=rE rI (k:Nat)/\iv=rE .i64 (i:Nat)/\∃md,wr=dT.drewN md)
   case atStart=>exact⟨0,0,0,1,rfl,rfl,(iG _).symm,(iG _).symm,rfl,rfl,rfl,rfl,0,rfl⟩
   case round=>
    obtain⟨i,ch,ma,k,hi,r,d3,d7,rfl,rfl,rfl,rfl,md,rfl⟩:=hrel;have HI:=Hd hi;have C:=Hd r;have dU:=Hd d3;have dV:=Hd d7;have nH:0<k:=(by rw[r];exact Nat.pow_pos (by omega));have pP:k<=4294967296:=(by rw[r];exact Zlt (by omega));have pI:ch<k:=(by rw[d3,<-r];exact aL _ nH);have pO:ma<k:=by rw[d7,<-r];exact aL _ nH
    by_cases hi32:i<32
    ·have qS:decide ((i:Int)<32)=true:=(by rw[dI];omega);have rB:k<=2147483648:=(by rw[r];exact Zls hi32);have rC:¬k=0:=(by omega);have pT:¬(k:Int)=0:=(by omega);obtain⟨d0,hC⟩:=eX (H/k);have qJ:(H:Int)/(k:Int)=(d0:Int):=(by rw[hC,cC]);have qD:d0<4294967296:=bQ (by rw[hC];exact bM _ _) G;obtain⟨b0,hU⟩:=eX (d0%2);have p4:(d0:Int)%2=(b0:Int):=(by omega);have pX:b0<2:=(by omega);have g3:=Hd (show b0=H/2^i%2 by rw[hU,hC,r]);obtain⟨d1,hD⟩:=eX (v1/k);have qK:(v1:Int)/(k:Int)=(d1:Int):=(by rw[hD,cC]);have qE:d1<4294967296:=bQ (by rw[hD];exact bM _ _) hS;obtain⟨b1,hX⟩:=eX (d1%2);have p7:(d1:Int)%2=(b1:Int):=(by omega);have pY:b1<2:=(by omega);have g4:=Hd (show b1=v1/2^i%2 by rw[hX,hD,r]);obtain⟨d2,hE⟩:=eX (v2/k);have qL:(v2:Int)/(k:Int)=(d2:Int):=(by rw[hE,cC]);have qF:d2<4294967296:=bQ (by rw[hE];exact bM _ _) oM;obtain⟨b2,hY⟩:=eX (d2%2);have p8:(d2:Int)%2=(b2:Int):=(by omega);have pZ:b2<2:=(by omega);have g5:=Hd (show b2=v2/2^i%2 by rw[hY,hE,r]);obtain⟨d4,hF⟩:=eX (I/k);have qM:(I:Int)/(k:Int)=(d4:Int):=(by rw[hF,cC]);have qG:d4<4294967296:=bQ (by rw[hF];exact bM _ _) m;obtain⟨b4,hZ⟩:=eX (d4%2);have p9:(d4:Int)%2=(b4:Int):=(by omega);have p0:b4<2:=(by omega);have g7:=Hd (show b4=I/2^i%2 by rw[hZ,hF,r]);obtain⟨d5,hG⟩:=eX (v5/k);have qN:(v5:Int)/(k:Int)=(d5:Int):=(by rw[hG,cC]);have qH:d5<4294967296:=bQ (by rw[hG];exact bM _ _) oN;obtain⟨b5,h0⟩:=eX (d5%2);have qA:(d5:Int)%2=(b5:Int):=(by omega);have p1:b5<2:=(by omega);have g8:=Hd (show b5=v5/2^i%2 by rw[h0,hG,r]);obtain⟨d6,hH⟩:=eX (v6/k);have qO:(v6:Int)/(k:Int)=(d6:Int):=(by rw[hH,cC]);have qI:d6<4294967296:=bQ (by rw[hH];exact bM _ _) oO;obtain⟨b6,h1⟩:=eX (d6%2);have qB:(d6:Int)%2=(b6:Int):=(by omega);have p2:b6<2:=(by omega);have g9:=Hd (show b6=v6/2^i%2 by rw[h1,hH,r]);obtain⟨p5,hI⟩:=eX (b5*k);obtain⟨p6,hJ⟩:=eX (b6*k);have q5:(b5:Int)*(k:Int)=(p5:Int):=(by rw[hI,fG]);have q6:(b6:Int)*(k:Int)=(p6:Int):=(by rw[hJ,fG]);have qZ:p5<=2147483648:=by rw[hI];rcases(show b5=0\/b5=1 by omega)with h|h<;>rw[h]<;>omega
     have q0:p6<=2147483648:=by rw[hJ];rcases(show b6=0\/b6=1 by omega)with h|h<;>rw[h]<;>omega
     have nO:=Hd hI;have nP:=Hd hJ;clear hi r d3 d7 hI hJ hC hD hE hF hG hH hU hX hY hZ h0 h1;rcases Nat.decEq b4 1 with dY|dY<;>rcases Nat.decLe 2 (b0+b1+b2)with hm|hm
     ·have dZ:((b4:Int)==1)=false:=(by simp;omega);have h9:decide (((b0:Int)+(b1:Int)+(b2:Int))>=2)=false:=(by rw[dN];omega);have d8:decide (2<=((b0:Int)+(b1:Int)+(b2:Int)))=false:=(by rw[dN];omega);go_wp2_with fail
      go_quiet (fail)
      go_wp2_with fail;go_roundg (gk-1);case measure=>have:=HI.out;omega
      case rel=>
       refine⟨i+1,ch+p6,ma,2*k,by have:=HI.out;omega,by rw[C.out,aN,aU],?_,?_,by go_num,by go_num,by go_num,by go_num,md+nq,rfl⟩
       ·rw[mod_succ,chN_bit m hi32,<-g7.out,<-g8.out,<-g9.out,iN dY,<-dU.out,<-C.out,<-nP.out]
       ·rw[mod_succ,majN_bit,<-g3.out,<-g4.out,<-g5.out,iN hm,<-dV.out,<-C.out];omega
     ·have dZ:((b4:Int)==1)=false:=(by simp;omega);have h9:decide (((b0:Int)+(b1:Int)+(b2:Int))>=2)=true:=(by rw[dI];omega);have d8:decide (2<=((b0:Int)+(b1:Int)+(b2:Int)))=true:=(by rw[dI];omega);go_wp2_with fail
      go_quiet (fail)
      go_wp2_with fail;go_roundg (gk-1);case measure=>have:=HI.out;omega
      case rel=>
       refine⟨i+1,ch+p6,ma+k,2*k,by have:=HI.out;omega,by rw[C.out,aN,aU],?_,?_,by go_num,by go_num,by go_num,by go_num,md+nq,rfl⟩
       ·rw[mod_succ,chN_bit m hi32,<-g7.out,<-g8.out,<-g9.out,iN dY,<-dU.out,<-C.out,<-nP.out]
       ·rw[mod_succ,majN_bit,<-g3.out,<-g4.out,<-g5.out,iP hm,<-dV.out,<-C.out];rw[aP]
     ·have dZ:((b4:Int)==1)=true:=(by simp;omega);have h9:decide (((b0:Int)+(b1:Int)+(b2:Int))>=2)=false:=(by rw[dN];omega);have d8:decide (2<=((b0:Int)+(b1:Int)+(b2:Int)))=false:=(by rw[dN];omega);go_wp2_with fail
      go_quiet (fail)
      go_wp2_with fail;go_roundg (gk-1);case measure=>have:=HI.out;omega
      case rel=>
       refine⟨i+1,ch+p5,ma,2*k,by have:=HI.out;omega,by rw[C.out,aN,aU],?_,?_,by go_num,by go_num,by go_num,by go_num,md+nq,rfl⟩
       ·rw[mod_succ,chN_bit m hi32,<-g7.out,<-g8.out,<-g9.out,iP dY,<-dU.out,<-C.out,<-nO.out]
       ·rw[mod_succ,majN_bit,<-g3.out,<-g4.out,<-g5.out,iN hm,<-dV.out,<-C.out];omega
     ·have dZ:((b4:Int)==1)=true:=(by simp;omega);have h9:decide (((b0:Int)+(b1:Int)+(b2:Int))>=2)=true:=(by rw[dI];omega);have d8:decide (2<=((b0:Int)+(b1:Int)+(b2:Int)))=true:=(by rw[dI];omega);go_wp2_with fail
      go_quiet (fail)
      go_wp2_with fail;go_roundg (gk-1);case measure=>have:=HI.out;omega
      case rel=>
       refine⟨i+1,ch+p5,ma+k,2*k,by have:=HI.out;omega,by rw[C.out,aN,aU],?_,?_,by go_num,by go_num,by go_num,by go_num,md+nq,rfl⟩
       ·rw[mod_succ,chN_bit m hi32,<-g7.out,<-g8.out,<-g9.out,iP dY,<-dU.out,<-C.out,<-nO.out]
       ·rw[mod_succ,majN_bit,<-g3.out,<-g4.out,<-g5.out,iP hm,<-dV.out,<-C.out];rw[aP]
    ·obtain rfl:i=32:=(by omega);have aB:ch=chN I v5 v6:=(by rw[d3];exact mod_full (chN_lt m));have aC:ma=majN H v1 v2:=(by rw[d7];exact mod_full (majN_lt G hS));have qP:ch<4294967296:=(by rw[aB];exact chN_lt m);have qU:ma<4294967296:=(by rw[aC];exact majN_lt G hS);have oS:=Hd aB;have oX:=Hd aC;clear hi r d3 d7 aB aC hi32 pI pO nH pP HI C dU dV;obtain⟨r1,hL⟩:=eX (rot I 6);obtain⟨r2,hM⟩:=eX (rot I 11);obtain⟨r3,hN⟩:=eX (rot I 25);obtain⟨r4,hO⟩:=eX (rot H 2);obtain⟨r5,hP⟩:=eX (rot H 13);obtain⟨r6,hQ⟩:=eX (rot H 22);have R1:=Hd (fun W=>Pa I 6 r1 6 rfl m (by omega) hL W);have R2:=Hd (fun W=>Pa I 11 r2 11 rfl m (by omega) hM W);have R3:=Hd (fun W=>Pa I 25 r3 25 rfl m (by omega) hN W);have R4:=Hd (fun W=>Pa H 2 r4 2 rfl G (by omega) hO W);have R5:=Hd (fun W=>Pa H 13 r5 13 rfl G (by omega) hP W);have R6:=Hd (fun W=>Pa H 22 r6 22 rfl G (by omega) hQ W);have y1:r1<4294967296:=(by rw[hL];exact rot_lt m (by omega));have y2:r2<4294967296:=(by rw[hM];exact rot_lt m (by omega));have y3:r3<4294967296:=(by rw[hN];exact rot_lt m (by omega));have y4:r4<4294967296:=(by rw[hO];exact rot_lt G (by omega));have y5:r5<4294967296:=(by rw[hP];exact rot_lt G (by omega));have y6:r6<4294967296:=(by rw[hQ];exact rot_lt G (by omega));have X1:=u64_xor_nat r1 r2 (by omega) (by omega);have X2:=u64_xor_nat (r1^^^r2) r3 (by have:=xor_lt32 y1 y2;omega) (by omega);have X3:=u64_xor_nat r4 r5 (by omega) (by omega);have X4:=u64_xor_nat (r4^^^r5) r6 (by have:=xor_lt32 y4 y5;omega) (by omega);obtain⟨z1,iI⟩:=eX (r1^^^r2);obtain⟨z3,iJ⟩:=eX (r4^^^r5);rw[<-iI]at X1 X2;rw[<-iJ]at X3 X4;obtain⟨sg,iE⟩:=eX (z1^^^r3);obtain⟨s0,iD⟩:=eX (z3^^^r6);rw[<-iE]at X2;rw[<-iD]at X4;have nV:=Hd (show sg=S1N I by rw[iE,iI,hL,hM,hN];rfl);have nU:=Hd (show s0=S0N H by rw[iD,iJ,hO,hP,hQ];rfl);have q8:sg<4294967296:=(by rw[nV.out];exact S1N_lt m);have q7:s0<4294967296:=(by rw[nU.out];exact S0N_lt G);clear hL hM hN hO hP hQ iI iJ iE iD;go_wp2_with fail
     go_quiet ((go_at_call 195;first|with_reducible exact Fd (R1.out _)|with_reducible exact Fd (R2.out _)|with_reducible exact Fd (R3.out _)))
     obtain⟨na,rfl⟩:=eX nq;go_wp2_with fail
     go_quiet ((go_at_call 195;first|with_reducible exact Fd (R4.out _)|with_reducible exact Fd (R5.out _)|with_reducible exact Fd (R6.out _)))
     obtain⟨nd,rfl⟩:=eX nq;go_wp2_with fail;obtain⟨l,oB⟩:∃z:Nat,z=v7+sg+ch+kk+ww:=⟨_,rfl⟩;obtain⟨T,oC⟩:∃z:Nat,z=s0+ma:=⟨_,rfl⟩;have e1:(v7:Int)+(sg:Int)+(ch:Int)+(kk:Int)+(ww:Int)=(l:Int):=(by omega);have e2:(s0:Int)+(ma:Int)=(T:Int):=(by omega);have q9:l<21474836480:=(by omega);have rA:T<8589934592:=(by omega);simp only[e1,e2];obtain⟨wz,F⟩:=eX (((dT.drewN md).drewN na).drewN nd);rw[<-F];have h3:=Hd (show Below A.heap.size A wz by rw[F];exact Ab (Ab (Ab nJ.out _) _) _);have J:b<wz.heap.size:=(by rw[F];exact World.block_lt_of_cell? dT ⟨b,0,rJ⟩ x0);have k0:wz.cell? ⟨b,0,rJ⟩=some (rE rI (H:Int)):=(by rw[F];exact x0);have k1:wz.cell? ⟨b,1,rJ⟩=some (rE rI (v1:Int)):=(by rw[F];exact x1);have k2:wz.cell? ⟨b,2,rJ⟩=some (rE rI (v2:Int)):=(by rw[F];exact x2);have k3:wz.cell? ⟨b,3,rJ⟩=some (rE rI (U:Int)):=(by rw[F];exact x3);have k4:wz.cell? ⟨b,4,rJ⟩=some (rE rI (I:Int)):=(by rw[F];exact x4);have k5:wz.cell? ⟨b,5,rJ⟩=some (rE rI (v5:Int)):=(by rw[F];exact x5);have k6:wz.cell? ⟨b,6,rJ⟩=some (rE rI (v6:Int)):=(by rw[F];exact x6);obtain⟨o1,iA⟩:∃z:Nat,z=(l+T)%4294967296:=⟨_,rfl⟩;obtain⟨o5,iB⟩:∃z:Nat,z=(U+l)%4294967296:=⟨_,rfl⟩;have pA:=Hd (show [o1,H,v1,v2,o5,I,v5,v6]=rndsN W S (t+1) by
      rw[rndsN,<-HV.out,pC.out];unfold rnd;simp only[List.getD_cons_zero,List.getD_cons_succ];rw[<-nV.out,<-nU.out,<-oS.out,<-oX.out,<-oT.out,<-oU.out,<-oB,<-oC,<-iA,<-iB])
     have qX:o1<4294967296:=(by omega);have qY:o5<4294967296:=(by omega);have oZ:=Hd iA;have o2:=Hd iB;clear x0 x1 x2 x3 x4 x5 x6 x7 F oB oC ck cw e1 e2 iA iB;refine Cx [eF (rE rI (l:Nat)),eF (rE rI (T:Nat)),eF (rE rI ((l:Int)+(T:Int))),eF (rE rI (o1:Nat)),eF (rD (some ⟨b,0,rJ⟩) 8 u3),eF (rF (some ⟨b,0,rJ⟩)),eF (rE rI (H:Nat)),eF (rD (some ⟨b,0,rJ⟩) 8 u3),eF (rF (some ⟨b,1,rJ⟩)),eF (rE rI (v1:Nat)),eF (rD (some ⟨b,0,rJ⟩) 8 u3),eF (rF (some ⟨b,2,rJ⟩)),eF (rE rI (v2:Nat)),eF (rD (some ⟨b,0,rJ⟩) 8 u3),eF (rF (some ⟨b,3,rJ⟩)),eF (rE rI (U:Nat)),eF (rE rI (l:Nat)),eF (rE rI ((U:Int)+(l:Int))),eF (rE rI (o5:Nat)),eF (rD (some ⟨b,0,rJ⟩) 8 u3),eF (rF (some ⟨b,4,rJ⟩)),eF (rE rI (I:Nat)),eF (rD (some ⟨b,0,rJ⟩) 8 u3),eF (rF (some ⟨b,5,rJ⟩)),eF (rE rI (v5:Nat)),eF (rD (some ⟨b,0,rJ⟩) 8 u3),eF (rF (some ⟨b,6,rJ⟩)),eF (rE rI (v6:Nat)),fun v w'=>Own w' wz.heap.size 92 v [rE rI (o1:Nat),rE rI (H:Nat),rE rI (v1:Nat),rE rI (v2:Nat),rE rI (o5:Nat),rE rI (I:Nat),rE rI (v5:Nat),rE rI (v6:Nat)],fun v w'=>Own w' wz.heap.size 92 v [rE rI (o1:Nat),rE rI (H:Nat),rE rI (v1:Nat),rE rI (v2:Nat),rE rI (o5:Nat),rE rI (I:Nat),rE rI (v5:Nat),rE rI (v6:Nat)]] (by kernel_rfl) (by kernel_rfl) (by kernel_rfl) (kE (kE (kE (kE (kE (kE (kE (kE (kE (kE (kE (kE (kE (kE (kE (kE (kE (kE (kE (kE (kE (kE (kE (kE (kE (kE (kE (kE (bX (fun v w1 w2 h d=>Own.below h d lR) (bX (fun v w1 w2 h d=>Own.below h d lR) (Ae))))))))))))))))))))))))))))))) ?_ ?_
     ·refine gQ ?_ (gQ ?_ (gB ?_ (gB ?_ (gQ ?_ (gQ ?_ (gQ ?_ (gQ ?_ (gQ ?_ (gQ ?_ (gQ ?_ (gQ ?_ (gQ ?_ (gQ ?_ (gQ ?_ (gQ ?_ (gQ ?_ (gB ?_ (gB ?_ (gQ ?_ (gQ ?_ (gQ ?_ (gQ ?_ (gQ ?_ (gQ ?_ (gQ ?_ (gQ ?_ (gQ ?_ (gB ?_ (gB ?_ .nil)))))))))))))))))))))))))))));all_goals
       intro a wx E ho hf;refine⟨rfl,?_⟩;intro K Z;try have pH:a.tmps[20]?.getD undef=rD (some ⟨b,0,rJ⟩) 8 u3:=ho 20 (by kernel_rfl)
       try have pU:a.tmps[26]?.getD undef=rE rI (l:Nat):=ho 26 (by kernel_rfl)
       try have pV:a.tmps[27]?.getD undef=rE rI (T:Nat):=ho 27 (by kernel_rfl)
       try have E0:=eqn hf.1
       try have E1:=eqn hf.2.1
       try have E2:=eqn hf.2.2.1
       try have E3:=eqn hf.2.2.2.1
       try have E4:=eqn hf.2.2.2.2.1
       try have E5:=eqn hf.2.2.2.2.2.1
       try have E6:=eqn hf.2.2.2.2.2.2.1
       try have E7:=eqn hf.2.2.2.2.2.2.2.1
       try have D0:=(E.cell (p:=⟨b,0,rJ⟩) J).trans k0
       try have D1:=(E.cell (p:=⟨b,1,rJ⟩) J).trans k1
       try have D2:=(E.cell (p:=⟨b,2,rJ⟩) J).trans k2
       try have D3:=(E.cell (p:=⟨b,3,rJ⟩) J).trans k3
       try have D4:=(E.cell (p:=⟨b,4,rJ⟩) J).trans k4
       try have D5:=(E.cell (p:=⟨b,5,rJ⟩) J).trans k5
       try have D6:=(E.cell (p:=⟨b,6,rJ⟩) J).trans k6
       try(refine Hd ?_;go_simp;exact Z _ rfl)
      ·have n:IntKind.u64.wrap (((l:Int)+(T:Int)))=((l:Int)+(T:Int)):=(by rw[IntKind.wrap_u64];omega);have D:(l:Int)+(T:Int)=((l:Int)+(T:Int)):=(by omega);have dW:IntKind.u64.wrap ((l:Int)+(T:Int))=((l:Int)+(T:Int)):=(by rw[D];exact n);go_simp;exact Z _ _ rfl bR
      ·have nZ:((l:Int)+(T:Int))%4294967296=(o1:Int):=(by have:=oZ.out;omega);have n:IntKind.u64.wrap ((o1:Int))=(o1:Int):=(by rw[IntKind.wrap_u64];omega);have D:((l:Int)+(T:Int))%4294967296=(o1:Int):=(by omega);have dW:IntKind.u64.wrap (((l:Int)+(T:Int))%4294967296)=(o1:Int):=(by rw[D];exact n);have dX:eL (((l:Int)+(T:Int))) 4294967296=(o1:Int):=(by rw[eM (by omega)];omega);have n0:IntKind.u64.wrap (eL (((l:Int)+(T:Int))) 4294967296)=(o1:Int):=(by rw[dX];exact n);go_simp;exact Z _ _ rfl bR
      ·have n:IntKind.u64.wrap (((U:Int)+(l:Int)))=((U:Int)+(l:Int)):=(by rw[IntKind.wrap_u64];omega);have D:(U:Int)+(l:Int)=((U:Int)+(l:Int)):=(by omega);have dW:IntKind.u64.wrap ((U:Int)+(l:Int))=((U:Int)+(l:Int)):=(by rw[D];exact n);go_simp;exact Z _ _ rfl bR
      ·have nZ:((U:Int)+(l:Int))%4294967296=(o5:Int):=(by have:=o2.out;omega);have n:IntKind.u64.wrap ((o5:Int))=(o5:Int):=(by rw[IntKind.wrap_u64];omega);have D:((U:Int)+(l:Int))%4294967296=(o5:Int):=(by omega);have dW:IntKind.u64.wrap (((U:Int)+(l:Int))%4294967296)=(o5:Int):=(by rw[D];exact n);have dX:eL (((U:Int)+(l:Int))) 4294967296=(o5:Int):=(by rw[eM (by omega)];omega);have n0:IntKind.u64.wrap (eL (((U:Int)+(l:Int))) 4294967296)=(o5:Int):=(by rw[dX];exact n);go_simp;exact Z _ _ rfl bR
      ·go_simp;exact Z _ _ (Own.full (B:=wz.heap.size) (cs:=#[rE rI (o1:Nat),rE rI (H:Nat),rE rI (v1:Nat),rE rI (v2:Nat),rE rI (o5:Nat),rE rI (I:Nat),rE rI (v5:Nat),rE rI (v6:Nat)]) rfl E.size (by unfold maxLen;simp) rfl) (bR.alloc lR _)
      ·have o0:(fun v w'=>Own w' wz.heap.size 92 v [rE rI (o1:Nat),rE rI (H:Nat),rE rI (v1:Nat),rE rI (v2:Nat),rE rI (o5:Nat),rE rI (I:Nat),rE rI (v5:Nat),rE rI (v6:Nat)]) (a.tmps[300]?.getD undef) wx:=hf.1;obtain⟨H,iF⟩:=eX (a.tmps[300]?.getD undef);rw[<-iF]at o0;have e0:=iF.symm;clear iF;go_simp;exact Z _ _ o0 bR
     ·rintro f w9 dR R;have S9:Own w9 wz.heap.size 92 (f 20) [rE rI (o1:Nat),rE rI (H:Nat),rE rI (v1:Nat),rE rI (v2:Nat),rE rI (o5:Nat),rE rI (I:Nat),rE rI (v5:Nat),rE rI (v6:Nat)]:=R.2.2.2.2.2.2.2.2.2.2.2.2.2.2.2.2.2.2.2.2.2.2.2.2.2.2.2.2.2.1;clear R;simp only[Ak,At,Ei,dG,dH,dJ,dK,Nat.reduceBEq,Nat.reduceAdd,Bool.or_false,Bool.or_true,cond_true,cond_false];obtain⟨u,hu⟩:=eX (f 20);rw[<-hu]at S9|-;have o3:=Hd (show Own w9 A.heap.size 92 u (qvs (rndsN W S (t+1))) by rw[<-pA.out];exact S9.mono h3.out.size);have oP:=Hd (h3.out.trans (dR.mono h3.out.size));clear S9 hu dR;go_wp2_with fail;go_roundg (g6-1);case measure=>have:=nX.out;omega
      case rel=>exact⟨t+1,by have:=nX.out;omega,by go_num,o3.out,oP.out⟩
  ·obtain rfl:t=64:=(by omega);have o9:=Hd c;have nY:=Hd M;have c0:=(h4.out.at).1 0 _ (Hq (L:=S) (i:=0) (by rw[hB.out];omega));have dS:d<A.heap.size:=World.block_lt_of_cell? A ⟨d,0,rJ⟩ c0;have pK:b≠d:=(by omega);have oY:=Hd (show Own dT Bw 92 (rD (some ⟨d,0,rJ⟩) 8 b3) (qvs (Tx S V 0)) by rw[Ty V hB.out];exact h4.out.below O lR);have o6:=Hd (o7.out.below O lR);have pD:=Hd (O.mono n1);have oV:=Hd (show Tx S V 8=stepN S B by rw[HV.out,pG.out,Ze]);clear ht hlt c M O c0 nT nS hV dS;go_wp2_with fail
   go_loopg [28] 8 (fun q iv wr=>∃i:Nat,i+q=8/\iv=rE .i64 (i:Nat)/\Own wr Bw 92 (rD (some ⟨d,0,rJ⟩) 8 b3) (qvs (Tx S V i))/\Own wr A.heap.size 92 (rD (some ⟨b,0,rJ⟩) 8 u3) (qvs V)/\Rd wr (rD (some ⟨mb,0,rJ⟩) N p3) (bvs P)/\Below Bw A wr)
   case atStart=>exact⟨0,rfl,rfl,oY.out,o9.out,o6.out,pD.out⟩
   case round=>
    obtain⟨i,hi,rfl,d9,hR,iC,h8⟩:=hrel;have HI:=Hd hi;have h5:=Hd d9;have pB:=Hd hR;have nR:=Hd iC;have nI:=Hd h8
    by_cases hlt:i<8
    ·have h2:decide ((i:Int)<8)=true:=(by rw[dI];omega);have xs:=getD_lt32 nW.out i;have xv:=getD_lt32 nY.out.2 i;have k1:=(d9.at).1 i _ (Hq (by rw[Fp];exact hlt));have kf:=(d9.at).2 i;have dS:d<wr.heap.size:=World.block_lt_of_cell? wr ⟨d,i,rJ⟩ k1;have k2:=(hR.at).1 i _ (Hq (by rw[nY.out.1];exact hlt));have J:b<wr.heap.size:=World.block_lt_of_cell? wr ⟨b,i,rJ⟩ k2;have qR:(i:Int)<8:=(by omega);have n2:Bw<=wr.heap.size:=(by omega);rw[Jt _ _ _ hlt,iN (Nat.lt_irrefl i)]at k1;have eA:=Tz S V hlt;obtain⟨s,hs⟩:=eX (S.getD i 0);obtain⟨y,hy⟩:=eX (V.getD i 0);rw[<-hs]at k1 xs eA;rw[<-hy]at k2 xv eA;obtain⟨o,ho⟩:=eX ((s+y)%4294967296);have e1:((s:Int)+(y:Int))%4294967296=(o:Int):=(by omega);have qW:o<4294967296:=(by omega);rw[<-ho]at eA;have o8:=Hd eA;clear hi d9 hR iC h8 hs hy ho eA;go_wp2_with fail;refine Bp [eF (rD (some ⟨d,0,rJ⟩) 8 b3),eF (rE .i64 (i:Nat)),eF (rD (some ⟨d,0,rJ⟩) 8 b3),eF (rE .i64 (i:Nat)),eF (rF (some ⟨d,i,rJ⟩)),eF (rE rI (s:Nat)),eF (rD (some ⟨b,0,rJ⟩) 8 u3),eF (rE .i64 (i:Nat)),eF (rF (some ⟨b,i,rJ⟩)),eF (rE rI (y:Nat)),eF (rE rI ((s:Int)+(y:Int))),eF (rE rI (o:Nat)),eF (rF (some ⟨d,i,rJ⟩)),fun v w'=>Own w' Bw 92 (rD (some ⟨d,0,rJ⟩) 8 b3) (qvs (Tx S V (i+1)))/\Own w' A.heap.size 92 (rD (some ⟨b,0,rJ⟩) 8 u3) (qvs V)/\Rd w' (rD (some ⟨mb,0,rJ⟩) N p3) (bvs P)/\Below Bw A w']
      (cJ 14 true) (fun X=>OnlyG d wr X) (fun X Y=>OnlyG d X Y) (some 13) (by kernel_rfl) ?_ ((OnlyG.of_below bR (fE dS)).drewN 1) (fun X Y hx h=>OnlyG.of_below h (eN (fE dS) hx.2.1)) (fun X Y hx hs=>hx.trans hs) (by kernel_rfl) (by kernel_rfl) ?_ ?_
     ·exact kE (kE (kE (kE (kE (kE (kE (kE (kE (kE (kE (kE (kE (Cw (fun v x y h _ hs=>⟨h.1.below hs lR,h.2.1.below hs lR,h.2.2.1.below hs lR,h.2.2.2.trans (hs.mono (eN n1 h.2.2.2.size))⟩) (Ae))))))))))))))
     ·refine gP ?_ rfl (gP ?_ rfl (gP ?_ rfl (gP ?_ rfl (gP ?_ rfl (gP ?_ rfl (gP ?_ rfl (gP ?_ rfl (gP ?_ rfl (gP ?_ rfl (gO ?_ (gO ?_ (gP ?_ rfl (gO ?_ .nil)))))))))))));all_goals
       intro a wx E hq ho hf;have E:OnlyG d wr wx:=E;have aA:Below wr.heap.size wr wx:=hq (by kernel_rfl);clear hq;refine⟨rfl,?_⟩;intro K Z;try have P7:a.tmps[7]?.getD undef=rD (some ⟨d,0,rJ⟩) 8 b3:=ho 7 (by kernel_rfl)
       try have pH:a.tmps[20]?.getD undef=rD (some ⟨b,0,rJ⟩) 8 u3:=ho 20 (by kernel_rfl)
       try have pW:a.tmps[28]?.getD undef=rE .i64 (i:Nat):=ho 28 (by kernel_rfl)
       try have E0:=eqn hf.1
       try have E1:=eqn hf.2.1
       try have D0:=(aA.cell (p:=⟨d,i,rJ⟩) dS).trans k1
       try have D1:=(aA.cell (p:=⟨b,i,rJ⟩) J).trans k2
       try have D2:=(aA.frozen (p:=⟨d,i,rJ⟩) dS).trans kf
       try have D3:=(h5.out.below aA lR).set i (rE rI (o:Int))
       try(refine Hd ?_;go_simp;exact Z _ rfl)
      ·have n:IntKind.u64.wrap (((s:Int)+(y:Int)))=((s:Int)+(y:Int)):=(by rw[IntKind.wrap_u64];omega);have D:(s:Int)+(y:Int)=((s:Int)+(y:Int)):=(by omega);have dW:IntKind.u64.wrap ((s:Int)+(y:Int))=((s:Int)+(y:Int)):=(by rw[D];exact n);go_simp;exact Z _ _ rfl (Af rfl bR)
      ·have nZ:((s:Int)+(y:Int))%4294967296=(o:Int):=e1;have n:IntKind.u64.wrap ((o:Int))=(o:Int):=(by rw[IntKind.wrap_u64];omega);have D:((s:Int)+(y:Int))%4294967296=(o:Int):=(by omega);have dW:IntKind.u64.wrap (((s:Int)+(y:Int))%4294967296)=(o:Int):=(by rw[D];exact n);have dX:eL (((s:Int)+(y:Int))) 4294967296=(o:Int):=(by rw[eM (by omega)];omega);have n0:IntKind.u64.wrap (eL (((s:Int)+(y:Int))) 4294967296)=(o:Int):=(by rw[dX];exact n);go_simp;exact Z _ _ rfl (Af rfl bR)
      ·rw[Zlv,o8.out]at D3;have q2:=(pB.out.below aA lR).setOther (a:=⟨d,i,rJ⟩) (show(Value.slice (some ⟨b,0,rJ⟩) 8 u3).ownBlock≠some d from fun e=>pK (by simpa [Value.ownBlock]using e)) (rE rI (o:Int));have q3:=(nR.out.below aA lR).setOther d i (rE rI (o:Int)) pM;have q4:=(nI.out.trans (aA.mono n2)).setCell (p:=⟨d,i,rJ⟩) pJ (rE rI (o:Int));go_simp;exact Z undef _ ⟨D3,q2,q3,q4⟩ (Cc rfl (OnlyG.setCell i _))
     ·rintro f w9 dR R;have dR:OnlyG d wr w9:=dR;have hT:Own w9 Bw 92 (rD (some ⟨d,0,rJ⟩) 8 b3) (qvs (Tx S V (i+1)))/\Own w9 A.heap.size 92 (rD (some ⟨b,0,rJ⟩) 8 u3) (qvs V)/\Rd w9 (rD (some ⟨mb,0,rJ⟩) N p3) (bvs P)/\Below Bw A w9:=R.2.2.2.2.2.2.2.2.2.2.2.2.2.1;clear R;simp only[Ak,At,Ei,dG,dH,dJ,dK,Nat.reduceBEq,Nat.reduceAdd,Bool.or_false,Bool.or_true,cond_true,cond_false];clear dR;have hA:=Hd hT;clear hT;go_wp2_with fail;go_roundg (gk-1);case measure=>have:=HI.out;omega
      case rel=>exact⟨i+1,by have:=HI.out;omega,by go_num,hA.out.1,hA.out.2.1,hA.out.2.2.1,hA.out.2.2.2⟩
    ·obtain rfl:i=8:=(by omega);have h2:decide (((8:Nat):Int)<8)=false:=(by decide);clear hi d9 hR iC h8 hlt;go_wp2_with fail;rw[oV.out]at h5;refine Zfl _ (fun f=>#[iK,iL,rD a2 64 c2,mT,nC,nD,nE,rD (some ⟨d,0,rJ⟩) 8 b3,nF,nG,eC,eD,eE,eG,rD q1 64 q3,eH,eI,eJ,eK,eO,f 20,f 21,f 22,f 23,f 24,f 25,f 26,f 27,f 28,eP,eQ,eR,eS,eT,eU,eV,eW,eY,eZ,e8,e9,fA,fB,fC,fD,fF,fH,fI,fJ,fK,fL,fM,fN,fO,fP,fQ,fR,fS,fT,fU,fV,fW,fX,fY,fZ,f0,f1,f2,f3,f4,f5,f6,f7,f8,f9,gA,gC,gD,gE,gF,gG,gH,gI,gJ,gK,gL,gM,gN,gR,gS,gT,gU,gV,gW,gX,gY,gZ,g0,g1,g2,aD,aE,aF,aG,aH,aI,aJ,aK,aM,aO,aQ,aR,aS,aT,aV,aW,aX,aY,aZ,a0,a1,a3,a4,a5,a6,a7,a8,a9,bA,bB,bC,bD,bE,bF,bG,bH,bI,bJ,bK,bL,bN,bO,bP,bS,bT,bU,bV,bW,bY,bZ,b7,b8,b9,cA,cB,cD,cE,cF,cG,cH,cI,cK,f 162,f 163,f 164,f 165,f 166,f 167,f 168,f 169,f 170,f 171,f 172,f 173,f 174,f 175,f 176,f 177,f 178,f 179,f 180,f 181,f 182,f 183,f 184,f 185,f 186,f 187,f 188,f 189,f 190,f 191,f 192,f 193,f 194,f 195,f 196,f 197,f 198,f 199,f 200,f 201,f 202,f 203,f 204,f 205,f 206,f 207,f 208,f 209,f 210,f 211,f 212,f 213,f 214,f 215,f 216,f 217,f 218,f 219,f 220,f 221,f 222,f 223,f 224,f 225,f 226,f 227,f 228,f 229,f 230,f 231,f 232,f 233,f 234,f 235,f 236,f 237,f 238,f 239,f 240,f 241,f 242,f 243,f 244,f 245,f 246,f 247,f 248,f 249,f 250,f 251,f 252,f 253,f 254,f 255,f 256,f 257,f 258,f 259,f 260,f 261,f 262,f 263,f 264,f 265,f 266,f 267,f 268,f 269,f 270,f 271,f 272,f 273,f 274,f 275,f 276,f 277,f 278,f 279,f 280,f 281,f 282,f 283,f 284,f 285,f 286,f 287,f 288,f 289,f 290,f 291,f 292,f 293,f 294,f 295,f 296,f 297,f 298,f 299,f 300,f 301,f 302,f 303,f 304,f 305,f 306,f 307,f 308,f 309,f 310,f 311,f 312,f 313,f 314,f 315,f 316,f 317,cL,cM,cN,cO,cP,cQ,cR,cS,cT,cU,cV,cW,cX,cY,cZ,c1,c3,c4,c5,c6,c7,c8,c9,dA,dB,dC,dD,dE,dF,dL,dM,dO,dP,dQ]) (fun f=>o4.out f _ h5.out nR.out nI.out) rfl
