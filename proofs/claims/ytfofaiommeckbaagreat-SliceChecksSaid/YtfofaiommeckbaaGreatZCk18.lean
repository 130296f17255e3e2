import Derived.Test.YtfofaiommeckbaaGreatZCk12
import Derived.StillTailTactics
open Go.Obj renaming cells -> rJ
open Go.Ending renaming returned -> rK
open Go.Value renaming slice -> rC, int -> rD, pointer -> rE
open Go.IntKind renaming u64 -> rH
open Option renaming none -> rI
open List renaming replicate -> eK, append_assoc -> cY, length_append -> bA, length_take -> cQ, take_of_length_le -> cP, flatten_cons -> dA, filterMap_cons -> dG, filterMap_nil -> dH, contains_cons -> dJ, contains_nil -> dK
open Nat renaming pow_succ -> bF, pow_le_pow_right -> bQ, le_of_lt_succ -> gV, mod_one -> gW, mod_lt -> bD, lt_of_le_of_lt -> cJ, div_le_self -> cF, mul_comm -> bL, one_mul -> bV, le_of_lt -> eW, le_trans -> eT
open Int renaming natCast_ediv -> cU, natCast_mul -> eZ, tmod -> eC, tmod_eq_emod_of_nonneg -> eD
set_option linter.unusedVariables false
set_option maxRecDepth 100000
set_option maxHeartbeats 40000000
namespace Go.Proofs.YtfofaiommeckbaaGreat
open Go.RowKit ShaM WireM
theorem Zn (x:Nat):(beN 8 x).length=8:=beN_len 8 x
theorem Zh8 (x:Nat) {i:Nat}(h:i<8):(beN 8 x)[i]? =some (x/256^(7-i)%256):=by
 obtain rfl|rfl|rfl|rfl|rfl|rfl|rfl|rfl:i=0\/i=1\/i=2\/i=3\/i=4\/i=5\/i=6\/i=7:=by omega
 all_goals rfl
theorem Zej (x:Nat) {i:Nat}(h:i<8):(beN 8 x).take (i+1)=(beN 8 x).take i++[x/256^(7-i)%256]:=by
 rw[List.take_add_one,Zh8 x h];rfl
theorem Zne {w:World} {v:Value} {xs:List Value}(h:Rd w v xs):∃a n c,v=.slice a n c:=by
 obtain⟨a,c,e,_⟩:=h;exact⟨_,_,_,e⟩
def Zb5 (L:List Nat)(j:Nat):List Nat:=L++[128]++eK j 0
theorem Zek (L:List Nat):Zb5 L 0=L++[128]:=by simp[Zb5]
theorem Zel (L:List Nat)(j:Nat):Zb5 L (j+1)=Zb5 L j++[0]:=by rw[Zb5,Zb5,List.replicate_succ',cY];simp
theorem Sl (L:List Nat)(j:Nat):(Zb5 L j).length=L.length+1+j:=by simp[Zb5];omega
def Zbn (L:List Nat)(Z i:Nat):List Nat:=Zb5 L Z++(beN 8 (8*L.length)).take i
theorem Zem (L:List Nat)(Z:Nat):Zbn L Z 0=Zb5 L Z:=by simp[Zbn]
theorem Zen (L:List Nat)(Z:Nat) {i:Nat}(h:i<8):Zbn L Z (i+1)=Zbn L Z i++[8*L.length/256^(7-i)%256]:=by
 rw[Zbn,Zbn,Zej _ h,cY]
theorem Zo (L:List Nat)(Z:Nat) {i:Nat}(h:i<=8):(Zbn L Z i).length=L.length+1+Z+i:=by
 rw[Zbn,bA,Sl,cQ,Zn];omega
theorem Zh9 (L:List Nat):Zbn L ((119-L.length%64)%64) 8=padL L:=by
 rw[Zbn,Zb5,padL,tailL,cP (by rw[Zn];omega)];simp
theorem Pm (x n r:Nat)(z:Int)(hz:z=(n:Int))(hx:x<4294967296)(hn:n<=32)(hr:r=rot x n)(w:World):
  Calls Tryz.prog 195 #[rD rH (x:Nat),rD .i64 z] w fun e w'=>e=rK (rD rH (r:Nat))/\w'=w:=by rw[hz,hr];exact Zgt x n w hx hn
theorem Zjw (x n r:Nat)(z:Int)(hz:z=(n:Int))(hx:x<4294967296)(hn:n<=32)(hr:r=x/2^n)(w:World):
  Calls Tryz.prog 196 #[rD rH (x:Nat),rD .i64 z] w fun e w'=>e=rK (rD rH (r:Nat))/\w'=w:=by rw[hz,hr];exact Zcl x n w hx hn
def xN (B:List Nat)(t:Nat):Nat->Nat
 |0=>0
 |i+1=>256*xN B t i+B.getD (4*t+i) 0
theorem Zk5 {B:List Nat}(hB:∀x∈B,x<256)(t:Nat):∀i,xN B t i<256^i
 |0=>by simp[xN]
 |i+1=>by
  have h:=Zk5 hB t i;have g:=Gl hB (by omega) (4*t+i);rw[xN,bF];generalize 256^i=z at h|-;omega
theorem Zl9 {B:List Nat}(hB:∀x∈B,x<256)(t:Nat) {i:Nat}(hi:i<4):xN B t i<16777216:=
 Nat.lt_of_lt_of_le (Zk5 hB t i) (bQ (n:=256) (by decide) (gV hi))
theorem Zma {B:List Nat}(hB:∀x∈B,x<256)(t:Nat):xN B t 4<4294967296:=Zk5 hB t 4
theorem Zk6 {i:Nat}(hi:i<32):2^i<=2147483648:=bQ (n:=2) (by decide) (gV hi)
theorem Zk7 {i:Nat}(hi:i<=32):2^i<=4294967296:=bQ (n:=2) (by decide) hi
theorem Zk8 (B l:List Nat) {t:Nat}(h:t<16):xN B t 4=wNext B l t:=by
 simp only[xN,wNext,iP h,Nat.add_zero];omega
theorem Zk9 (L:List Nat)(i n:Nat):(qvs L).set i (rD rH (n:Int))=qvs (L.set i n):=by simp[qvs,List.map_set]
theorem Rd.setOther {w:World} {b d n c:Nat} {xs:List Value}(h:Rd w (rC (some ⟨b,d,rI⟩) n c) xs)(g i:Nat)(u:Value)(f:b≠g):Rd (w.setCell ⟨g,i,rI⟩ u) (rC (some ⟨b,d,rI⟩) n c) xs:=
 h.onlyG (OnlyG.setCell i u) fun a n c e=>by simp only[Value.slice.injEq,Option.some.injEq]at e;rw[<-e.1];exact f
def Zp (S:List Nat)(i:Nat):List Nat:=((S.take i).map (beN 4)).flatten
theorem Zia {S:List Nat}(h:S.length=8) {i:Nat}(hi:i<=8):(Zp S i).length=4*i:=by
 have e:∀L:List Nat,((L.map (beN 4)).flatten).length=4*L.length:=by
  intro L
  induction L with
  |nil=>rfl
  |cons a L ih=>rw[List.map_cons,dA,bA,ih,beN_len,List.length_cons];omega
 rw[Zp,e,cQ];omega
theorem Zeo {S:List Nat}(h:S.length=8) {i x:Nat}(b:i<8)(hx:x=S.getD i 0)(a:x<4294967296):Zp S (i+1)=Zp S i++[x/16777216,x/65536%256,x/256%256,x%256]:=by
 have e:S.take (i+1)=S.take i++[x]:=by
  rw[List.take_succ_eq_append_getElem (by omega),hx,List.getD_eq_getElem?_getD,List.getElem?_eq_getElem (by omega)];rfl
 rw[Zp,e,List.map_append,List.flatten_append]
 congr 1
 have e2:beN 4 x=[x/16777216%256,x/65536%256,x/256%256,x%256]:=(by simp[beN]);rw[show List.map (beN 4) [x]=[beN 4 x]from rfl,dA,List.flatten_nil,List.append_nil,e2,Nat.mod_eq_of_lt (show x/16777216<256 by omega)]
theorem Zib {S:List Nat}(h:S.length=8):Zp S 8=(S.map (beN 4)).flatten:=by rw[Zp,cP (by omega)]
def Pn:Code->Code
 | .seq _ b=>b
 |c=>c
def Zmb:Code->Code
 | .seq a _=>a
 |c=>c
def inC:Code->Code
 | .block _ c=>c
 | .loop c=>c
 |c=>c
theorem Zep {Q:Exit->Act->World->Prop} {w:World}(a:Act)(G:(Nat->Value)->Array Value)(h:∀f:Nat->Value,Q .normal ⟨G f,[]⟩ w)(e:a=⟨G fun k=>a.tmps.toList.getD k undef,[]⟩):Q .normal a w:=by
 rw[e];exact h _
theorem Zeq (K:Act->World->Prop) (Q:Exit->Act->World->Prop) (iK iL mT nC nD nE nF nG eB eE eG eH eI eJ eL eM eN oD oE oF oG oH oI oJ oK oL eO eP eQ eR eS eU eV eY e8 e9 fA fB fC fD fE fF fG fH fI fJ fK fL fM fN fO fP fQ fR fS fT fU fV fW fX fY fZ f0 f1 f2 f3 f4 f5 f6 f7 f8 f9 gA gC gD gE gF gG gH gI gJ gK gL gM gN gR gS gT gU gV gX gY gZ g0 g1 g2 g3 aD aE aF aG aH aI aJ aK aL aM aN aO aP aQ aR aS aT aU aV aW aX aY aZ a0 a1 a3 a4 a5 a6 a7 a8 a9 bA bB bC bE bG bH bI bJ bK bM bN bO bP bQ bS bT bU bW bY bZ b7 b8 b9 cA cB cC cD cE cG cH iM iO iQ iR iS iT iU iV iW iX iY iZ i0 i1 i4 i5 i6 i7 i8 i9 jA jB jC jD jE jF jG jH jI jJ jK jL jM jN jO jP jQ jR jS jT jU jV jW jX jY jZ j0 j1 j2 j3 j4 j5 j6 j7 j8 j9 kA kB kC kD kF kG kH kI kJ kK kL kM kN kO kP kQ kR kS kT kU kV kW kX kY kZ k7 k8 k9 lA lB lC lD lE lF lG lH lI lJ lK lL lM lN lO lP lQ lS lT lU lV lW lX lY lZ l0 l1 l2 l3 l4 l5 l6 l7 l8 l9 mA mB mC mD mE mF mG mH mI mJ mK mL mM mN mO mP mQ mR mS mU mV mW mX mY mZ m0 m1 m2 m3 m4 m5 m6 m7 m8 m9 nA nB cI cK cL cM cN cO cP cQ cR cS cT cV cW cX cY cZ c1 c3 c4 c5 c6 c7 c8 c9 dA dB dC dD dE dF dL dM dO dP:Value) (A:World) (Bw BO d b3 mb N p3 q3 c2:Nat) (q1 a2:Option Addr) (P S B:List Nat)
  (Z:∀a w,Code.wp Tryz.prog (Pn (Pn (Pn (inC (Zmb (Pn (inC (inC (Pn (Zmb (Pn (Pn (Pn (Pn (Pn (Pn (Tryz.f144.body.getD .skip))))))))))))))))) Q a w->K a w)
  (n7:Own A BO 92 (rC q1 64 q3) (qvs (wL B 64))) (n6:Rd A (rC a2 64 c2) (qvs KL)) (n5:Own A Bw 92 (rC (some ⟨d,0,rI⟩) 8 b3) (qvs S)) (n8:Rd A (rC (some ⟨mb,0,rI⟩) N p3) (bvs P))
  (n3:∀x∈B,x<256) (n9:∀x∈S,x<4294967296) (oA:S.length=8) (pM:mb≠d) (pJ:Bw<=d) (n1:Bw<=A.heap.size)
  (hq:∀(f:Nat->Value) (w':World),Own w' Bw 92 (rC (some ⟨d,0,rI⟩) 8 b3) (qvs (stepN S B))->Rd w' (rC (some ⟨mb,0,rI⟩) N p3) (bvs P)->Below Bw A w'->Q .normal ⟨#[iK,iL,rC a2 64 c2,mT,nC,nD,nE,rC (some ⟨d,0,rI⟩) 8 b3,nF,nG,eB,eE,eG,eH,rC q1 64 q3,eI,eJ,eL,eM,eN,f 20,f 21,f 22,f 23,f 24,f 25,f 26,f 27,f 28,eO,eP,eQ,eR,eS,eU,eV,eY,e8,e9,fA,fB,fC,fD,fE,fF,fG,fH,fI,fJ,fK,fL,fM,fN,fO,fP,fQ,fR,fS,fT,fU,fV,fW,fX,fY,fZ,f0,f1,f2,f3,f4,f5,f6,f7,f8,f9,gA,gC,gD,gE,gF,gG,gH,gI,gJ,gK,gL,gM,gN,gR,gS,gT,gU,gV,gX,gY,gZ,g0,g1,g2,g3,aD,aE,aF,aG,aH,aI,aJ,aK,aL,aM,aN,aO,aP,aQ,aR,aS,aT,aU,aV,aW,aX,aY,aZ,a0,a1,a3,a4,a5,a6,a7,a8,a9,bA,bB,bC,bE,bG,bH,bI,bJ,bK,bM,bN,bO,bP,bQ,bS,bT,bU,bW,bY,bZ,b7,b8,b9,cA,cB,cC,cD,cE,cG,cH,f 162,f 163,f 164,f 165,f 166,f 167,f 168,f 169,f 170,f 171,f 172,f 173,f 174,f 175,f 176,f 177,f 178,f 179,f 180,f 181,f 182,f 183,f 184,f 185,f 186,f 187,f 188,f 189,f 190,f 191,f 192,f 193,f 194,f 195,f 196,f 197,f 198,f 199,f 200,f 201,f 202,f 203,f 204,f 205,f 206,f 207,f 208,f 209,f 210,f 211,f 212,f 213,f 214,f 215,f 216,f 217,f 218,f 219,f 220,f 221,f 222,f 223,f 224,f 225,f 226,f 227,f 228,f 229,f 230,f 231,f 232,f 233,f 234,f 235,f 236,f 237,f 238,f 239,f 240,f 241,f 242,f 243,f 244,f 245,f 246,f 247,f 248,f 249,f 250,f 251,f 252,f 253,f 254,f 255,f 256,f 257,f 258,f 259,f 260,f 261,f 262,f 263,f 264,f 265,f 266,f 267,f 268,f 269,f 270,f 271,f 272,f 273,f 274,f 275,f 276,f 277,f 278,f 279,f 280,f 281,f 282,f 283,f 284,f 285,f 286,f 287,f 288,f 289,f 290,f 291,f 292,f 293,f 294,f 295,f 296,f 297,f 298,f 299,f 300,f 301,f 302,f 303,f 304,f 305,f 306,f 307,f 308,f 309,f 310,f 311,f 312,f 313,f 314,f 315,f 316,f 317,cI,cK,cL,cM,cN,cO,cP,cQ,cR,cS,cT,cV,cW,cX,cY,cZ,c1,c3,c4,c5,c6,c7,c8,c9,dA,dB,dC,dD,dE,dF,dL,dM,dO,dP],[]⟩ w'):
  Code.wp Tryz.prog (Zmb (Pn (Pn (inC (Zmb (Pn (inC (inC (Pn (Zmb (Pn (Pn (Pn (Pn (Pn (Pn (Tryz.f144.body.getD .skip))))))))))))))))) (Exit.then K Q) ⟨#[iK,iL,rC a2 64 c2,mT,nC,nD,nE,rC (some ⟨d,0,rI⟩) 8 b3,nF,nG,eB,eE,eG,eH,rC q1 64 q3,eI,eJ,eL,eM,eN,oD,oE,oF,oG,oH,oI,oJ,oK,oL,eO,eP,eQ,eR,eS,eU,eV,eY,e8,e9,fA,fB,fC,fD,fE,fF,fG,fH,fI,fJ,fK,fL,fM,fN,fO,fP,fQ,fR,fS,fT,fU,fV,fW,fX,fY,fZ,f0,f1,f2,f3,f4,f5,f6,f7,f8,f9,gA,gC,gD,gE,gF,gG,gH,gI,gJ,gK,gL,gM,gN,gR,gS,gT,gU,gV,gX,gY,gZ,g0,g1,g2,g3,aD,aE,aF,aG,aH,aI,aJ,aK,aL,aM,aN,aO,aP,aQ,aR,aS,aT,aU,aV,aW,aX,aY,aZ,a0,a1,a3,a4,a5,a6,a7,a8,a9,bA,bB,bC,bE,bG,bH,bI,bJ,bK,bM,bN,bO,bP,bQ,bS,bT,bU,bW,bY,bZ,b7,b8,b9,cA,cB,cC,cD,cE,cG,cH,iM,iO,iQ,iR,iS,iT,iU,iV,iW,iX,iY,iZ,i0,i1,i4,i5,i6,i7,i8,i9,jA,jB,jC,jD,jE,jF,jG,jH,jI,jJ,jK,jL,jM,jN,jO,jP,jQ,jR,jS,jT,jU,jV,jW,jX,jY,jZ,j0,j1,j2,j3,j4,j5,j6,j7,j8,j9,kA,kB,kC,kD,kF,kG,kH,kI,kJ,kK,kL,kM,kN,kO,kP,kQ,kR,kS,kT,kU,kV,kW,kX,kY,kZ,k7,k8,k9,lA,lB,lC,lD,lE,lF,lG,lH,lI,lJ,lK,lL,lM,lN,lO,lP,lQ,lS,lT,lU,lV,lW,lX,lY,lZ,l0,l1,l2,l3,l4,l5,l6,l7,l8,l9,mA,mB,mC,mD,mE,mF,mG,mH,mI,mJ,mK,mL,mM,mN,mO,mP,mQ,mR,mS,mU,mV,mW,mX,mY,mZ,m0,m1,m2,m3,m4,m5,m6,m7,m8,m9,nA,nB,cI,cK,cL,cM,cN,cO,cP,cQ,cR,cS,cT,cV,cW,cX,cY,cZ,c1,c3,c4,c5,c6,c7,c8,c9,dA,dB,dC,dD,dE,dF,dL,dM,dO,dP],[]⟩ A:=by
 have nL:=Hd Z;have nM:=Hd n7;have oW:=Hd n6;have h5:=Hd n5;have o7:=Hd n8;have oQ:=Hd n3;have nW:=Hd n9;have hC:=Hd oA;have o4:=Hd hq;clear Z n7 n6 n5 n8 n3 n9 oA hq
 conv=>arg 2;whnf
 obtain⟨W,hW⟩:=eX (wL B 64);have iH:=wL_len B 64;have eA:=wL_lt oQ.out 64;rw[<-hW]at nM iH eA;have pG:=Hd hW;have pF:=Hd iH;have pE:=Hd eA;have nQ:=Hd (show Own (A.alloc (rJ #[] 92)) A.heap.size 92 (rC (some ⟨A.heap.size,0,rI⟩) 0 0) []from Own.lit0 rfl lR);have nK:=Hd (h5.out.rd.alloc (rJ #[] 92));clear hW iH eA;go_wp2_with (first|(at_builtin;refine Ak rfl (.tmp 162) (.tmp 163) 181 rfl A.heap.size 92 _ 8 Zmr _ _ rfl nQ.out _ (qvs S) rfl nK.out (Vx _) ?i2 ?i3 ?_));case i2=>rw[hC.out];omega
 rintro vv wv c-n4;have nN:=Hd (show Own wv A.heap.size 92 vv (qvs (rndsN W S 0))from c);have oR:=Hd (((Below.refl A.heap.size A).alloc lR (rJ #[] 92)).trans n4);clear c n4 nQ nK;obtain⟨v1,v2,U,rfl⟩:=Cx nN.out;go_wp2_with fail;refine nL.out _ _ ?_
 conv=>arg 2;whnf
 go_wp2_with fail
 go_loopg [20,21] 64 (fun q vv tv wr=>∃t:Nat,t+q=64/\tv=rD .i64 (t:Nat)/\Own wr A.heap.size 92 vv (qvs (rndsN W S t))/\Below A.heap.size A wr)
 case atStart=>exact⟨0,rfl,rfl,nN.out,oR.out⟩
 case round=>
  obtain⟨t,ht,rfl,c,O⟩:=hrel;have nX:=Hd ht;have pS:=Hd c;have nJ:=Hd O;obtain⟨u1,u2,u3,rfl⟩:=Cx c;obtain⟨dS,rfl⟩:∃dS:World,dS=wr:=⟨_,rfl⟩;obtain⟨g6,rfl⟩:=eX gk;obtain⟨V,hV⟩:=eX (rndsN W S t);have M:=rndsN_ok (W:=W) hC.out nW.out t;rw[<-hV]at M c;have HV:=Hd hV;have nT:=Hd (nM.out.rd.below O lR);have nS:=Hd (oW.out.below O lR);obtain rfl:u2=8:=by
   obtain⟨_,_,e,_⟩:=c.rd;simp only[Value.slice.injEq,qvs_len,M.1]at e;exact e.2.1
  obtain⟨b,pN,qP⟩:∃g,u1=some ⟨g,0,rI⟩/\A.heap.size<=g:=by
   rcases c.2 with⟨e,e0⟩|⟨g,cp,qB,e,d,_⟩
   ·simp only[Value.slice.injEq]at e;omega
   ·simp only[Value.slice.injEq]at e;exact⟨g,e.1,d⟩
  subst pN
  by_cases hlt:t<64
  ·have h3:decide ((t:Int)<64)=true:=(by rw[dI];omega);have XC:=fun(j:Nat) (hj:j<8)=>(c.at).1 j _ (Hl (L:=V) (i:=j) (by rw[M.1];exact hj));have XL:=fun(i:Nat)=>getD_lt32 M.2 i;have ck:=nS.out.at3 (Hl (L:=KL) (i:=t) (by rw[KL_len];exact hlt));have cw:=nT.out.at3 (Hl (L:=W) (i:=t) (by rw[pF.out];exact hlt));have pL:=getD_lt32 KL_lt t;have eA:=getD_lt32 pE.out t;obtain⟨kb,ko,rfl,qS,ck⟩:=ck;obtain⟨ob,oo,rfl,qU,cw⟩:=cw;have x0:=XC 0 (by omega);have G:=XL 0;obtain⟨H,e0⟩:=eX (V.getD 0 0);rw[<-e0]at x0 G;have x1:=XC 1 (by omega);have hT:=XL 1;obtain⟨v1,e1⟩:=eX (V.getD 1 0);rw[<-e1]at x1 hT;have x2:=XC 2 (by omega);have oM:=XL 2;obtain⟨v2,e2⟩:=eX (V.getD 2 0);rw[<-e2]at x2 oM;have x3:=XC 3 (by omega);have pQ:=XL 3;obtain⟨U,e3⟩:=eX (V.getD 3 0);rw[<-e3]at x3 pQ;have x4:=XC 4 (by omega);have m:=XL 4;obtain⟨I,e4⟩:=eX (V.getD 4 0);rw[<-e4]at x4 m;have x5:=XC 5 (by omega);have oN:=XL 5;obtain⟨v5,e5⟩:=eX (V.getD 5 0);rw[<-e5]at x5 oN;have x6:=XC 6 (by omega);have oO:=XL 6;obtain⟨v6,e6⟩:=eX (V.getD 6 0);rw[<-e6]at x6 oO;have x7:=XC 7 (by omega);have pR:=XL 7;obtain⟨v7,e7⟩:=eX (V.getD 7 0);rw[<-e7]at x7 pR;obtain⟨kk,h7⟩:=eX (KL.getD t 0);obtain⟨ww,h8⟩:=eX (W.getD t 0);rw[<-h7]at ck pL;rw[<-h8]at cw eA;have pC:=Hd (show V=[H,v1,v2,U,I,v5,v6,v7]from by
    refine Kj (by rw[M.1];rfl) fun j hj=> ?_;rw[M.1]at hj;rcases(show j=0\/j=1\/j=2\/j=3\/j=4\/j=5\/j=6\/j=7 by omega)with rfl|rfl|rfl|rfl|rfl|rfl|rfl|rfl
    ·exact e0.symm
    ·exact e1.symm
    ·exact e2.symm
    ·exact e3.symm
    ·exact e4.symm
    ·exact e5.symm
    ·exact e6.symm
    ·exact e7.symm)
   have oT:=Hd h7;have oU:=Hd h8;clear e0 e1 e2 e3 e4 e5 e6 e7 h7 h8 XC XL M hV c O ht;go_wp2_with fail
   go_loopg [22,23,24,25] 32 (fun q cv mv uv iv wr=>∃i ch ma k:Nat,i+q=32/\k=2^i/\ch=chN I v5 v6%2^i/\ma=majN H v1 v2%2^i/\cv=rD rH (ch:Nat)/\mv=rD rH (ma:Nat)/\uv=rD rH (k:Nat)/\iv=rD .i64 (i:Nat)/\∃md,wr=dS.drewN md)
   case atStart=>exact⟨0,0,0,1,rfl,rfl,(gW _).symm,(gW _).symm,rfl,rfl,rfl,rfl,0,rfl⟩
   case round=>
    obtain⟨i,ch,ma,k,hi,r,dZ,d3,rfl,rfl,rfl,rfl,md,rfl⟩:=hrel;have HI:=Hd hi;have C:=Hd r;have dT:=Hd dZ;have dU:=Hd d3;have nH:0<k:=(by rw[r];exact Nat.pow_pos (by omega));have pP:k<=4294967296:=(by rw[r];exact Zk7 (by omega));have pI:ch<k:=(by rw[dZ,<-r];exact bD _ nH);have pO:ma<k:=by rw[d3,<-r];exact bD _ nH
    by_cases hi32:i<32
    ·have qR:decide ((i:Int)<32)=true:=(by rw[dI];omega);have rA:k<=2147483648:=(by rw[r];exact Zk6 hi32);have rB:¬k=0:=(by omega);have pT:¬(k:Int)=0:=(by omega);obtain⟨d0,hD⟩:=eX (H/k);have qI:(H:Int)/(k:Int)=(d0:Int):=(by rw[hD,cU]);have qC:d0<4294967296:=cJ (by rw[hD];exact cF _ _) G;obtain⟨b0,hX⟩:=eX (d0%2);have p2:(d0:Int)%2=(b0:Int):=(by omega);have pX:b0<2:=(by omega);have g4:=Hd (show b0=H/2^i%2 by rw[hX,hD,r]);obtain⟨d1,hE⟩:=eX (v1/k);have qJ:(v1:Int)/(k:Int)=(d1:Int):=(by rw[hE,cU]);have qD:d1<4294967296:=cJ (by rw[hE];exact cF _ _) hT;obtain⟨b1,hY⟩:=eX (d1%2);have p4:(d1:Int)%2=(b1:Int):=(by omega);have pY:b1<2:=(by omega);have g5:=Hd (show b1=v1/2^i%2 by rw[hY,hE,r]);obtain⟨d2,hF⟩:=eX (v2/k);have qK:(v2:Int)/(k:Int)=(d2:Int):=(by rw[hF,cU]);have qE:d2<4294967296:=cJ (by rw[hF];exact cF _ _) oM;obtain⟨b2,hZ⟩:=eX (d2%2);have p7:(d2:Int)%2=(b2:Int):=(by omega);have pZ:b2<2:=(by omega);have g7:=Hd (show b2=v2/2^i%2 by rw[hZ,hF,r]);obtain⟨d4,hG⟩:=eX (I/k);have qL:(I:Int)/(k:Int)=(d4:Int):=(by rw[hG,cU]);have qF:d4<4294967296:=cJ (by rw[hG];exact cF _ _) m;obtain⟨b4,h0⟩:=eX (d4%2);have p8:(d4:Int)%2=(b4:Int):=(by omega);have bl4:b4<2:=(by omega);have g8:=Hd (show b4=I/2^i%2 by rw[h0,hG,r]);obtain⟨d5,hH⟩:=eX (v5/k);have qM:(v5:Int)/(k:Int)=(d5:Int):=(by rw[hH,cU]);have qG:d5<4294967296:=cJ (by rw[hH];exact cF _ _) oN;obtain⟨b5,h1⟩:=eX (d5%2);have p9:(d5:Int)%2=(b5:Int):=(by omega);have p0:b5<2:=(by omega);have g9:=Hd (show b5=v5/2^i%2 by rw[h1,hH,r]);obtain⟨d6,hI⟩:=eX (v6/k);have qN:(v6:Int)/(k:Int)=(d6:Int):=(by rw[hI,cU]);have qH:d6<4294967296:=cJ (by rw[hI];exact cF _ _) oO;obtain⟨b6,h2⟩:=eX (d6%2);have qA:(d6:Int)%2=(b6:Int):=(by omega);have p1:b6<2:=(by omega);have hA:=Hd (show b6=v6/2^i%2 by rw[h2,hI,r]);obtain⟨p5,hJ⟩:=eX (b5*k);obtain⟨p6,hL⟩:=eX (b6*k);have q0:(b5:Int)*(k:Int)=(p5:Int):=(by rw[hJ,eZ]);have q5:(b6:Int)*(k:Int)=(p6:Int):=(by rw[hL,eZ]);have qY:p5<=2147483648:=by rw[hJ];rcases(show b5=0\/b5=1 by omega)with h|h<;>rw[h]<;>omega
     have qZ:p6<=2147483648:=by rw[hL];rcases(show b6=0\/b6=1 by omega)with h|h<;>rw[h]<;>omega
     have nO:=Hd hJ;have nP:=Hd hL;clear hi r dZ d3 hJ hL hD hE hF hG hH hI hX hY hZ h0 h1 h2;rcases Nat.decEq b4 1 with dX|dX<;>rcases Nat.decLe 2 (b0+b1+b2)with hm|hm
     ·have dY:((b4:Int)==1)=false:=(by simp;omega);have iA:decide (((b0:Int)+(b1:Int)+(b2:Int))>=2)=false:=(by rw[dN];omega);have d7:decide (2<=((b0:Int)+(b1:Int)+(b2:Int)))=false:=(by rw[dN];omega);go_wp2_with fail
      go_quiet (fail)
      go_wp2_with fail;go_roundg (gk-1);case measure=>have:=HI.out;omega
      case rel=>
       refine⟨i+1,ch+p6,ma,2*k,by have:=HI.out;omega,by rw[C.out,bF,bL],?_,?_,by go_num,by go_num,by go_num,by go_num,md+nq,rfl⟩
       ·rw[mod_succ,chN_bit m hi32,<-g8.out,<-g9.out,<-hA.out,iN dX,<-dT.out,<-C.out,<-nP.out]
       ·rw[mod_succ,majN_bit,<-g4.out,<-g5.out,<-g7.out,iN hm,<-dU.out,<-C.out];omega
     ·have dY:((b4:Int)==1)=false:=(by simp;omega);have iA:decide (((b0:Int)+(b1:Int)+(b2:Int))>=2)=true:=(by rw[dI];omega);have d7:decide (2<=((b0:Int)+(b1:Int)+(b2:Int)))=true:=(by rw[dI];omega);go_wp2_with fail
      go_quiet (fail)
      go_wp2_with fail;go_roundg (gk-1);case measure=>have:=HI.out;omega
      case rel=>
       refine⟨i+1,ch+p6,ma+k,2*k,by have:=HI.out;omega,by rw[C.out,bF,bL],?_,?_,by go_num,by go_num,by go_num,by go_num,md+nq,rfl⟩
       ·rw[mod_succ,chN_bit m hi32,<-g8.out,<-g9.out,<-hA.out,iN dX,<-dT.out,<-C.out,<-nP.out]
       ·rw[mod_succ,majN_bit,<-g4.out,<-g5.out,<-g7.out,iP hm,<-dU.out,<-C.out];rw[bV]
     ·have dY:((b4:Int)==1)=true:=(by simp;omega);have iA:decide (((b0:Int)+(b1:Int)+(b2:Int))>=2)=false:=(by rw[dN];omega);have d7:decide (2<=((b0:Int)+(b1:Int)+(b2:Int)))=false:=(by rw[dN];omega);go_wp2_with fail
      go_quiet (fail)
      go_wp2_with fail;go_roundg (gk-1);case measure=>have:=HI.out;omega
      case rel=>
       refine⟨i+1,ch+p5,ma,2*k,by have:=HI.out;omega,by rw[C.out,bF,bL],?_,?_,by go_num,by go_num,by go_num,by go_num,md+nq,rfl⟩
       ·rw[mod_succ,chN_bit m hi32,<-g8.out,<-g9.out,<-hA.out,iP dX,<-dT.out,<-C.out,<-nO.out]
       ·rw[mod_succ,majN_bit,<-g4.out,<-g5.out,<-g7.out,iN hm,<-dU.out,<-C.out];omega
     ·have dY:((b4:Int)==1)=true:=(by simp;omega);have iA:decide (((b0:Int)+(b1:Int)+(b2:Int))>=2)=true:=(by rw[dI];omega);have d7:decide (2<=((b0:Int)+(b1:Int)+(b2:Int)))=true:=(by rw[dI];omega);go_wp2_with fail
      go_quiet (fail)
      go_wp2_with fail;go_roundg (gk-1);case measure=>have:=HI.out;omega
      case rel=>
       refine⟨i+1,ch+p5,ma+k,2*k,by have:=HI.out;omega,by rw[C.out,bF,bL],?_,?_,by go_num,by go_num,by go_num,by go_num,md+nq,rfl⟩
       ·rw[mod_succ,chN_bit m hi32,<-g8.out,<-g9.out,<-hA.out,iP dX,<-dT.out,<-C.out,<-nO.out]
       ·rw[mod_succ,majN_bit,<-g4.out,<-g5.out,<-g7.out,iP hm,<-dU.out,<-C.out];rw[bV]
    ·obtain rfl:i=32:=(by omega);have aB:ch=chN I v5 v6:=(by rw[dZ];exact mod_full (chN_lt m));have aC:ma=majN H v1 v2:=(by rw[d3];exact mod_full (majN_lt G hT));have qO:ch<4294967296:=(by rw[aB];exact chN_lt m);have qT:ma<4294967296:=(by rw[aC];exact majN_lt G hT);have oS:=Hd aB;have oX:=Hd aC;clear hi r dZ d3 aB aC hi32 pI pO nH pP HI C dT dU;obtain⟨r1,hM⟩:=eX (rot I 6);obtain⟨r2,hN⟩:=eX (rot I 11);obtain⟨r3,hO⟩:=eX (rot I 25);obtain⟨r4,hP⟩:=eX (rot H 2);obtain⟨r5,hQ⟩:=eX (rot H 13);obtain⟨r6,hR⟩:=eX (rot H 22);have R1:=Hd (fun W=>Pm I 6 r1 6 rfl m (by omega) hM W);have R2:=Hd (fun W=>Pm I 11 r2 11 rfl m (by omega) hN W);have R3:=Hd (fun W=>Pm I 25 r3 25 rfl m (by omega) hO W);have R4:=Hd (fun W=>Pm H 2 r4 2 rfl G (by omega) hP W);have R5:=Hd (fun W=>Pm H 13 r5 13 rfl G (by omega) hQ W);have R6:=Hd (fun W=>Pm H 22 r6 22 rfl G (by omega) hR W);have y1:r1<4294967296:=(by rw[hM];exact rot_lt m (by omega));have y2:r2<4294967296:=(by rw[hN];exact rot_lt m (by omega));have y3:r3<4294967296:=(by rw[hO];exact rot_lt m (by omega));have y4:r4<4294967296:=(by rw[hP];exact rot_lt G (by omega));have y5:r5<4294967296:=(by rw[hQ];exact rot_lt G (by omega));have y6:r6<4294967296:=(by rw[hR];exact rot_lt G (by omega));have X1:=u64_xor_nat r1 r2 (by omega) (by omega);have X2:=u64_xor_nat (r1^^^r2) r3 (by have:=xor_lt32 y1 y2;omega) (by omega);have X3:=u64_xor_nat r4 r5 (by omega) (by omega);have X4:=u64_xor_nat (r4^^^r5) r6 (by have:=xor_lt32 y4 y5;omega) (by omega);obtain⟨z1,iI⟩:=eX (r1^^^r2);obtain⟨z3,iJ⟩:=eX (r4^^^r5);rw[<-iI]at X1 X2;rw[<-iJ]at X3 X4;obtain⟨sg,iF⟩:=eX (z1^^^r3);obtain⟨s0,iE⟩:=eX (z3^^^r6);rw[<-iF]at X2;rw[<-iE]at X4;have nV:=Hd (show sg=S1N I by rw[iF,iI,hM,hN,hO];rfl);have nU:=Hd (show s0=S0N H by rw[iE,iJ,hP,hQ,hR];rfl);have q7:sg<4294967296:=(by rw[nV.out];exact S1N_lt m);have q6:s0<4294967296:=(by rw[nU.out];exact S0N_lt G);clear hM hN hO hP hQ hR iI iJ iF iE;go_wp2_with fail
     go_quiet ((go_at_call 195;first|with_reducible exact Eu (R1.out _)|with_reducible exact Eu (R2.out _)|with_reducible exact Eu (R3.out _)))
     obtain⟨na,rfl⟩:=eX nq;go_wp2_with fail
     go_quiet ((go_at_call 195;first|with_reducible exact Eu (R4.out _)|with_reducible exact Eu (R5.out _)|with_reducible exact Eu (R6.out _)))
     obtain⟨nd,rfl⟩:=eX nq;go_wp2_with fail;obtain⟨l,oB⟩:∃z:Nat,z=v7+sg+ch+kk+ww:=⟨_,rfl⟩;obtain⟨T,oC⟩:∃z:Nat,z=s0+ma:=⟨_,rfl⟩;have e1:(v7:Int)+(sg:Int)+(ch:Int)+(kk:Int)+(ww:Int)=(l:Int):=(by omega);have e2:(s0:Int)+(ma:Int)=(T:Int):=(by omega);have q8:l<21474836480:=(by omega);have q9:T<8589934592:=(by omega);simp only[e1,e2];obtain⟨wz,F⟩:=eX (((dS.drewN md).drewN na).drewN nd);rw[<-F];have h4:=Hd (show Below A.heap.size A wz by rw[F];exact Ab (Ab (Ab nJ.out _) _) _);have J:b<wz.heap.size:=(by rw[F];exact World.block_lt_of_cell? dS ⟨b,0,rI⟩ x0);have k0:wz.cell? ⟨b,0,rI⟩=some (rD rH (H:Int)):=(by rw[F];exact x0);have k1:wz.cell? ⟨b,1,rI⟩=some (rD rH (v1:Int)):=(by rw[F];exact x1);have k2:wz.cell? ⟨b,2,rI⟩=some (rD rH (v2:Int)):=(by rw[F];exact x2);have k3:wz.cell? ⟨b,3,rI⟩=some (rD rH (U:Int)):=(by rw[F];exact x3);have k4:wz.cell? ⟨b,4,rI⟩=some (rD rH (I:Int)):=(by rw[F];exact x4);have k5:wz.cell? ⟨b,5,rI⟩=some (rD rH (v5:Int)):=(by rw[F];exact x5);have k6:wz.cell? ⟨b,6,rI⟩=some (rD rH (v6:Int)):=(by rw[F];exact x6);obtain⟨o1,iB⟩:∃z:Nat,z=(l+T)%4294967296:=⟨_,rfl⟩;obtain⟨o5,iC⟩:∃z:Nat,z=(U+l)%4294967296:=⟨_,rfl⟩;have pA:=Hd (show [o1,H,v1,v2,o5,I,v5,v6]=rndsN W S (t+1) by
      rw[rndsN,<-HV.out,pC.out];unfold rnd;simp only[List.getD_cons_zero,List.getD_cons_succ];rw[<-nV.out,<-nU.out,<-oS.out,<-oX.out,<-oT.out,<-oU.out,<-oB,<-oC,<-iB,<-iC])
     have qW:o1<4294967296:=(by omega);have qX:o5<4294967296:=(by omega);have oZ:=Hd iB;have o2:=Hd iC;clear x0 x1 x2 x3 x4 x5 x6 x7 F oB oC ck cw e1 e2 iB iC;refine Dj [eF (rD rH (l:Nat)),eF (rD rH (T:Nat)),eF (rD rH ((l:Int)+(T:Int))),eF (rD rH (o1:Nat)),eF (rC (some ⟨b,0,rI⟩) 8 u3),eF (rE (some ⟨b,0,rI⟩)),eF (rD rH (H:Nat)),eF (rC (some ⟨b,0,rI⟩) 8 u3),eF (rE (some ⟨b,1,rI⟩)),eF (rD rH (v1:Nat)),eF (rC (some ⟨b,0,rI⟩) 8 u3),eF (rE (some ⟨b,2,rI⟩)),eF (rD rH (v2:Nat)),eF (rC (some ⟨b,0,rI⟩) 8 u3),eF (rE (some ⟨b,3,rI⟩)),eF (rD rH (U:Nat)),eF (rD rH (l:Nat)),eF (rD rH ((U:Int)+(l:Int))),eF (rD rH (o5:Nat)),eF (rC (some ⟨b,0,rI⟩) 8 u3),eF (rE (some ⟨b,4,rI⟩)),eF (rD rH (I:Nat)),eF (rC (some ⟨b,0,rI⟩) 8 u3),eF (rE (some ⟨b,5,rI⟩)),eF (rD rH (v5:Nat)),eF (rC (some ⟨b,0,rI⟩) 8 u3),eF (rE (some ⟨b,6,rI⟩)),eF (rD rH (v6:Nat)),fun v w'=>Own w' wz.heap.size 92 v [rD rH (o1:Nat),rD rH (H:Nat),rD rH (v1:Nat),rD rH (v2:Nat),rD rH (o5:Nat),rD rH (I:Nat),rD rH (v5:Nat),rD rH (v6:Nat)],fun v w'=>Own w' wz.heap.size 92 v [rD rH (o1:Nat),rD rH (H:Nat),rD rH (v1:Nat),rD rH (v2:Nat),rD rH (o5:Nat),rD rH (I:Nat),rD rH (v5:Nat),rD rH (v6:Nat)]] (by kernel_rfl) (by kernel_rfl) (by kernel_rfl) (kE (kE (kE (kE (kE (kE (kE (kE (kE (kE (kE (kE (kE (kE (kE (kE (kE (kE (kE (kE (kE (kE (kE (kE (kE (kE (kE (kE (bX (fun v w1 w2 h d=>Own.below h d lR) (bX (fun v w1 w2 h d=>Own.below h d lR) (Ag))))))))))))))))))))))))))))))) ?_ ?_
     ·refine gQ ?_ (gQ ?_ (gB ?_ (gB ?_ (gQ ?_ (gQ ?_ (gQ ?_ (gQ ?_ (gQ ?_ (gQ ?_ (gQ ?_ (gQ ?_ (gQ ?_ (gQ ?_ (gQ ?_ (gQ ?_ (gQ ?_ (gB ?_ (gB ?_ (gQ ?_ (gQ ?_ (gQ ?_ (gQ ?_ (gQ ?_ (gQ ?_ (gQ ?_ (gQ ?_ (gQ ?_ (gB ?_ (gB ?_ .nil)))))))))))))))))))))))))))));all_goals
       intro a wx E ho hf;refine⟨rfl,?_⟩;intro K Z;try have pH:a.tmps[20]?.getD undef=rC (some ⟨b,0,rI⟩) 8 u3:=ho 20 (by kernel_rfl)
       try have pU:a.tmps[26]?.getD undef=rD rH (l:Nat):=ho 26 (by kernel_rfl)
       try have pV:a.tmps[27]?.getD undef=rD rH (T:Nat):=ho 27 (by kernel_rfl)
       try have E0:=eqn hf.1
       try have E1:=eqn hf.2.1
       try have E2:=eqn hf.2.2.1
       try have E3:=eqn hf.2.2.2.1
       try have E4:=eqn hf.2.2.2.2.1
       try have E5:=eqn hf.2.2.2.2.2.1
       try have E6:=eqn hf.2.2.2.2.2.2.1
       try have E7:=eqn hf.2.2.2.2.2.2.2.1
       try have D0:=(E.cell (p:=⟨b,0,rI⟩) J).trans k0
       try have D1:=(E.cell (p:=⟨b,1,rI⟩) J).trans k1
       try have D2:=(E.cell (p:=⟨b,2,rI⟩) J).trans k2
       try have D3:=(E.cell (p:=⟨b,3,rI⟩) J).trans k3
       try have D4:=(E.cell (p:=⟨b,4,rI⟩) J).trans k4
       try have D5:=(E.cell (p:=⟨b,5,rI⟩) J).trans k5
       try have D6:=(E.cell (p:=⟨b,6,rI⟩) J).trans k6
       try(refine Hd ?_;go_simp;exact Z _ rfl)
      ·have n:IntKind.u64.wrap (((l:Int)+(T:Int)))=((l:Int)+(T:Int)):=(by rw[IntKind.wrap_u64];omega);have D:(l:Int)+(T:Int)=((l:Int)+(T:Int)):=(by omega);have dV:IntKind.u64.wrap ((l:Int)+(T:Int))=((l:Int)+(T:Int)):=(by rw[D];exact n);go_simp;exact Z _ _ rfl bR
      ·have nZ:((l:Int)+(T:Int))%4294967296=(o1:Int):=(by have:=oZ.out;omega);have n:IntKind.u64.wrap ((o1:Int))=(o1:Int):=(by rw[IntKind.wrap_u64];omega);have D:((l:Int)+(T:Int))%4294967296=(o1:Int):=(by omega);have dV:IntKind.u64.wrap (((l:Int)+(T:Int))%4294967296)=(o1:Int):=(by rw[D];exact n);have dW:eC (((l:Int)+(T:Int))) 4294967296=(o1:Int):=(by rw[eD (by omega)];omega);have n0:IntKind.u64.wrap (eC (((l:Int)+(T:Int))) 4294967296)=(o1:Int):=(by rw[dW];exact n);go_simp;exact Z _ _ rfl bR
      ·have n:IntKind.u64.wrap (((U:Int)+(l:Int)))=((U:Int)+(l:Int)):=(by rw[IntKind.wrap_u64];omega);have D:(U:Int)+(l:Int)=((U:Int)+(l:Int)):=(by omega);have dV:IntKind.u64.wrap ((U:Int)+(l:Int))=((U:Int)+(l:Int)):=(by rw[D];exact n);go_simp;exact Z _ _ rfl bR
      ·have nZ:((U:Int)+(l:Int))%4294967296=(o5:Int):=(by have:=o2.out;omega);have n:IntKind.u64.wrap ((o5:Int))=(o5:Int):=(by rw[IntKind.wrap_u64];omega);have D:((U:Int)+(l:Int))%4294967296=(o5:Int):=(by omega);have dV:IntKind.u64.wrap (((U:Int)+(l:Int))%4294967296)=(o5:Int):=(by rw[D];exact n);have dW:eC (((U:Int)+(l:Int))) 4294967296=(o5:Int):=(by rw[eD (by omega)];omega);have n0:IntKind.u64.wrap (eC (((U:Int)+(l:Int))) 4294967296)=(o5:Int):=(by rw[dW];exact n);go_simp;exact Z _ _ rfl bR
      ·go_simp;exact Z _ _ (Own.full (B:=wz.heap.size) (cs:=#[rD rH (o1:Nat),rD rH (H:Nat),rD rH (v1:Nat),rD rH (v2:Nat),rD rH (o5:Nat),rD rH (I:Nat),rD rH (v5:Nat),rD rH (v6:Nat)]) rfl E.size (by unfold maxLen;simp) rfl) (bR.alloc lR _)
      ·have o0:(fun v w'=>Own w' wz.heap.size 92 v [rD rH (o1:Nat),rD rH (H:Nat),rD rH (v1:Nat),rD rH (v2:Nat),rD rH (o5:Nat),rD rH (I:Nat),rD rH (v5:Nat),rD rH (v6:Nat)]) (a.tmps[300]?.getD undef) wx:=hf.1;obtain⟨H,iG⟩:=eX (a.tmps[300]?.getD undef);rw[<-iG]at o0;have e0:=iG.symm;clear iG;go_simp;exact Z _ _ o0 bR
     ·rintro f w9 dQ R;have S9:Own w9 wz.heap.size 92 (f 20) [rD rH (o1:Nat),rD rH (H:Nat),rD rH (v1:Nat),rD rH (v2:Nat),rD rH (o5:Nat),rD rH (I:Nat),rD rH (v5:Nat),rD rH (v6:Nat)]:=R.2.2.2.2.2.2.2.2.2.2.2.2.2.2.2.2.2.2.2.2.2.2.2.2.2.2.2.2.2.1;clear R;simp only[Ao,Av,Ej,dG,dH,dJ,dK,Nat.reduceBEq,Nat.reduceAdd,Bool.or_false,Bool.or_true,cond_true,cond_false];obtain⟨u,hu⟩:=eX (f 20);rw[<-hu]at S9|-;have o3:=Hd (show Own w9 A.heap.size 92 u (qvs (rndsN W S (t+1))) by rw[<-pA.out];exact S9.mono h4.out.size);have oP:=Hd (h4.out.trans (dQ.mono h4.out.size));clear S9 hu dQ;go_wp2_with fail;go_roundg (g6-1);case measure=>have:=nX.out;omega
      case rel=>exact⟨t+1,by have:=nX.out;omega,by go_num,o3.out,oP.out⟩
  ·obtain rfl:t=64:=(by omega);have o9:=Hd c;have nY:=Hd M;have c0:=(h5.out.at).1 0 _ (Hl (L:=S) (i:=0) (by rw[hC.out];omega));have dR:d<A.heap.size:=World.block_lt_of_cell? A ⟨d,0,rI⟩ c0;have pK:b≠d:=(by omega);have oY:=Hd (show Own dS Bw 92 (rC (some ⟨d,0,rI⟩) 8 b3) (qvs (Tw S V 0)) by rw[Tx V hC.out];exact h5.out.below O lR);have o6:=Hd (o7.out.below O lR);have pD:=Hd (O.mono n1);have oV:=Hd (show Tw S V 8=stepN S B by rw[HV.out,pG.out,Yn]);clear ht hlt c M O c0 nT nS hV dR;go_wp2_with fail
   go_loopg [28] 8 (fun q iv wr=>∃i:Nat,i+q=8/\iv=rD .i64 (i:Nat)/\Own wr Bw 92 (rC (some ⟨d,0,rI⟩) 8 b3) (qvs (Tw S V i))/\Own wr A.heap.size 92 (rC (some ⟨b,0,rI⟩) 8 u3) (qvs V)/\Rd wr (rC (some ⟨mb,0,rI⟩) N p3) (bvs P)/\Below Bw A wr)
   case atStart=>exact⟨0,rfl,rfl,oY.out,o9.out,o6.out,pD.out⟩
   case round=>
    obtain⟨i,hi,rfl,d8,hS,iD,h9⟩:=hrel;have HI:=Hd hi;have h6:=Hd d8;have pB:=Hd hS;have nR:=Hd iD;have nI:=Hd h9
    by_cases hlt:i<8
    ·have h3:decide ((i:Int)<8)=true:=(by rw[dI];omega);have xs:=getD_lt32 nW.out i;have xv:=getD_lt32 nY.out.2 i;have k1:=(d8.at).1 i _ (Hl (by rw[Fl];exact hlt));have kf:=(d8.at).2 i;have dR:d<wr.heap.size:=World.block_lt_of_cell? wr ⟨d,i,rI⟩ k1;have k2:=(hS.at).1 i _ (Hl (by rw[nY.out.1];exact hlt));have J:b<wr.heap.size:=World.block_lt_of_cell? wr ⟨b,i,rI⟩ k2;have qQ:(i:Int)<8:=(by omega);have n2:Bw<=wr.heap.size:=(by omega);rw[Kk _ _ _ hlt,iN (Nat.lt_irrefl i)]at k1;have d9:=Ty S V hlt;obtain⟨s,hs⟩:=eX (S.getD i 0);obtain⟨y,hy⟩:=eX (V.getD i 0);rw[<-hs]at k1 xs d9;rw[<-hy]at k2 xv d9;obtain⟨o,ho⟩:=eX ((s+y)%4294967296);have e1:((s:Int)+(y:Int))%4294967296=(o:Int):=(by omega);have qV:o<4294967296:=(by omega);rw[<-ho]at d9;have o8:=Hd d9;clear hi d8 hS iD h9 hs hy ho d9;go_wp2_with fail;refine Bd [eF (rC (some ⟨d,0,rI⟩) 8 b3),eF (rD .i64 (i:Nat)),eF (rC (some ⟨d,0,rI⟩) 8 b3),eF (rD .i64 (i:Nat)),eF (rE (some ⟨d,i,rI⟩)),eF (rD rH (s:Nat)),eF (rC (some ⟨b,0,rI⟩) 8 u3),eF (rD .i64 (i:Nat)),eF (rE (some ⟨b,i,rI⟩)),eF (rD rH (y:Nat)),eF (rD rH ((s:Int)+(y:Int))),eF (rD rH (o:Nat)),eF (rE (some ⟨d,i,rI⟩)),fun v w'=>Own w' Bw 92 (rC (some ⟨d,0,rI⟩) 8 b3) (qvs (Tw S V (i+1)))/\Own w' A.heap.size 92 (rC (some ⟨b,0,rI⟩) 8 u3) (qvs V)/\Rd w' (rC (some ⟨mb,0,rI⟩) N p3) (bvs P)/\Below Bw A w']
      (eK 14 true) (fun X=>OnlyG d wr X) (fun X Y=>OnlyG d X Y) (some 13) (by kernel_rfl) ?_ ((OnlyG.of_below bR (eW dR)).drewN 1) (fun X Y hx h=>OnlyG.of_below h (eT (eW dR) hx.2.1)) (fun X Y hx hs=>hx.trans hs) (by kernel_rfl) (by kernel_rfl) ?_ ?_
     ·exact kE (kE (kE (kE (kE (kE (kE (kE (kE (kE (kE (kE (kE (Cp (fun v x y h _ hs=>⟨h.1.below hs lR,h.2.1.below hs lR,h.2.2.1.below hs lR,h.2.2.2.trans (hs.mono (eT n1 h.2.2.2.size))⟩) (Ag))))))))))))))
     ·refine gP ?_ rfl (gP ?_ rfl (gP ?_ rfl (gP ?_ rfl (gP ?_ rfl (gP ?_ rfl (gP ?_ rfl (gP ?_ rfl (gP ?_ rfl (gP ?_ rfl (gO ?_ (gO ?_ (gP ?_ rfl (gO ?_ .nil)))))))))))));all_goals
       intro a wx E hq ho hf;have E:OnlyG d wr wx:=E;have aA:Below wr.heap.size wr wx:=hq (by kernel_rfl);clear hq;refine⟨rfl,?_⟩;intro K Z;try have P7:a.tmps[7]?.getD undef=rC (some ⟨d,0,rI⟩) 8 b3:=ho 7 (by kernel_rfl)
       try have pH:a.tmps[20]?.getD undef=rC (some ⟨b,0,rI⟩) 8 u3:=ho 20 (by kernel_rfl)
       try have pW:a.tmps[28]?.getD undef=rD .i64 (i:Nat):=ho 28 (by kernel_rfl)
       try have E0:=eqn hf.1
       try have E1:=eqn hf.2.1
       try have D0:=(aA.cell (p:=⟨d,i,rI⟩) dR).trans k1
       try have D1:=(aA.cell (p:=⟨b,i,rI⟩) J).trans k2
       try have D2:=(aA.frozen (p:=⟨d,i,rI⟩) dR).trans kf
       try have D3:=(h6.out.below aA lR).set i (rD rH (o:Int))
       try(refine Hd ?_;go_simp;exact Z _ rfl)
      ·have n:IntKind.u64.wrap (((s:Int)+(y:Int)))=((s:Int)+(y:Int)):=(by rw[IntKind.wrap_u64];omega);have D:(s:Int)+(y:Int)=((s:Int)+(y:Int)):=(by omega);have dV:IntKind.u64.wrap ((s:Int)+(y:Int))=((s:Int)+(y:Int)):=(by rw[D];exact n);go_simp;exact Z _ _ rfl (Ai rfl bR)
      ·have nZ:((s:Int)+(y:Int))%4294967296=(o:Int):=e1;have n:IntKind.u64.wrap ((o:Int))=(o:Int):=(by rw[IntKind.wrap_u64];omega);have D:((s:Int)+(y:Int))%4294967296=(o:Int):=(by omega);have dV:IntKind.u64.wrap (((s:Int)+(y:Int))%4294967296)=(o:Int):=(by rw[D];exact n);have dW:eC (((s:Int)+(y:Int))) 4294967296=(o:Int):=(by rw[eD (by omega)];omega);have n0:IntKind.u64.wrap (eC (((s:Int)+(y:Int))) 4294967296)=(o:Int):=(by rw[dW];exact n);go_simp;exact Z _ _ rfl (Ai rfl bR)
      ·rw[Zk9,o8.out]at D3;have q2:=(pB.out.below aA lR).setOther (a:=⟨d,i,rI⟩) (show(Value.slice (some ⟨b,0,rI⟩) 8 u3).ownBlock≠some d from fun e=>pK (by simpa [Value.ownBlock]using e)) (rD rH (o:Int));have q3:=(nR.out.below aA lR).setOther d i (rD rH (o:Int)) pM;have q4:=(nI.out.trans (aA.mono n2)).setCell (p:=⟨d,i,rI⟩) pJ (rD rH (o:Int));go_simp;exact Z undef _ ⟨D3,q2,q3,q4⟩ (Bu rfl (OnlyG.setCell i _))
     ·rintro f w9 dQ R;have dQ:OnlyG d wr w9:=dQ;have hU:Own w9 Bw 92 (rC (some ⟨d,0,rI⟩) 8 b3) (qvs (Tw S V (i+1)))/\Own w9 A.heap.size 92 (rC (some ⟨b,0,rI⟩) 8 u3) (qvs V)/\Rd w9 (rC (some ⟨mb,0,rI⟩) N p3) (bvs P)/\Below Bw A w9:=R.2.2.2.2.2.2.2.2.2.2.2.2.2.1;clear R;simp only[Ao,Av,Ej,dG,dH,dJ,dK,Nat.reduceBEq,Nat.reduceAdd,Bool.or_false,Bool.or_true,cond_true,cond_false];clear dQ;have hB:=Hd hU;clear hU;go_wp2_with fail;go_roundg (gk-1);case measure=>have:=HI.out;omega
      case rel=>exact⟨i+1,by have:=HI.out;omega,by go_num,hB.out.1,hB.out.2.1,hB.out.2.2.1,hB.out.2.2.2⟩
    ·obtain rfl:i=8:=(by omega);have h3:decide (((8:Nat):Int)<8)=false:=(by decide);clear hi d8 hS iD h9 hlt;go_wp2_with fail;rw[oV.out]at h6;refine Zep _ (fun f=>#[iK,iL,rC a2 64 c2,mT,nC,nD,nE,rC (some ⟨d,0,rI⟩) 8 b3,nF,nG,eB,eE,eG,eH,rC q1 64 q3,eI,eJ,eL,eM,eN,f 20,f 21,f 22,f 23,f 24,f 25,f 26,f 27,f 28,eO,eP,eQ,eR,eS,eU,eV,eY,e8,e9,fA,fB,fC,fD,fE,fF,fG,fH,fI,fJ,fK,fL,fM,fN,fO,fP,fQ,fR,fS,fT,fU,fV,fW,fX,fY,fZ,f0,f1,f2,f3,f4,f5,f6,f7,f8,f9,gA,gC,gD,gE,gF,gG,gH,gI,gJ,gK,gL,gM,gN,gR,gS,gT,gU,gV,gX,gY,gZ,g0,g1,g2,g3,aD,aE,aF,aG,aH,aI,aJ,aK,aL,aM,aN,aO,aP,aQ,aR,aS,aT,aU,aV,aW,aX,aY,aZ,a0,a1,a3,a4,a5,a6,a7,a8,a9,bA,bB,bC,bE,bG,bH,bI,bJ,bK,bM,bN,bO,bP,bQ,bS,bT,bU,bW,bY,bZ,b7,b8,b9,cA,cB,cC,cD,cE,cG,cH,f 162,f 163,f 164,f 165,f 166,f 167,f 168,f 169,f 170,f 171,f 172,f 173,f 174,f 175,f 176,f 177,f 178,f 179,f 180,f 181,f 182,f 183,f 184,f 185,f 186,f 187,f 188,f 189,f 190,f 191,f 192,f 193,f 194,f 195,f 196,f 197,f 198,f 199,f 200,f 201,f 202,f 203,f 204,f 205,f 206,f 207,f 208,f 209,f 210,f 211,f 212,f 213,f 214,f 215,f 216,f 217,f 218,f 219,f 220,f 221,f 222,f 223,f 224,f 225,f 226,f 227,f 228,f 229,f 230,f 231,f 232,f 233,f 234,f 235,f 236,f 237,f 238,f 239,f 240,f 241,f 242,f 243,f 244,f 245,f 246,f 247,f 248,f 249,f 250,f 251,f 252,f 253,f 254,f 255,f 256,f 257,f 258,f 259,f 260,f 261,f 262,f 263,f 264,f 265,f 266,f 267,f 268,f 269,f 270,f 271,f 272,f 273,f 274,f 275,f 276,f 277,f 278,f 279,f 280,f 281,f 282,f 283,f 284,f 285,f 286,f 287,f 288,f 289,f 290,f 291,f 292,f 293,f 294,f 295,f 296,f 297,f 298,f 299,f 300,f 301,f 302,f 303,f 304,f 305,f 306,f 307,f 308,f 309,f 310,f 311,f 312,f 313,f 314,f 315,f 316,f 317,cI,cK,cL,cM,cN,cO,cP,cQ,cR,cS,cT,cV,cW,cX,cY,cZ,c1,c3,c4,c5,c6,c7,c8,c9,dA,dB,dC,dD,dE,dF,dL,dM,dO,dP]) (fun f=>o4.out f _ h6.out nR.out nI.out) rfl
