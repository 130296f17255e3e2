/- Walks: the reference's Right of nodes. -/
import Derived.Test.YtfofaiommeckbaaGreatZSliceReadsB
import Derived.Test.YtfofaiommeckbaaGreatZSliceReads10
open List renaming eq_nil_of_length_eq_zero → bH, length_nil → bI, length_append → aG, length_cons → bO, getElem?_toArray → bK, getElem?_cons_zero → bL
open Array renaming size_push → cN
set_option linter.unusedVariables false
set_option maxRecDepth 100000
set_option maxHeartbeats 40000000
namespace Go.Proofs.YtfofaiommeckbaaGreat
open Go.RowKit WireM
def noLeafD:LeafD:=⟨[],[],[],0,[],[]⟩
def noParD:ParD:=⟨[],[],[]⟩
def Ak:NodeD:=⟨0,noLeafD,noParD⟩
theorem Fd (w:World):Rd w (.slice none 0 0) (bvs []):=⟨none,0,rfl,lR,Nat.zero_le _,.inl ⟨rfl,fun _=>rfl⟩⟩
theorem Qc (w:World):Rd w (.slice none 0 0) (ivs .i64 []):=⟨none,0,rfl,lR,Nat.zero_le _,.inl ⟨rfl,fun _=>rfl⟩⟩
theorem Lr (w:World):NodeC w Ak #[.int .u8 0,.slice none 0 0,.slice none 0 0,.slice none 0 0,.int .u8 0,.slice none 0 0,.slice none 0 0,.slice none 0 0,.slice none 0 0,.slice none 0 0]:=
 ⟨none,0,none,0,none,0,none,0,none,0,none,0,none,0,none,0,rfl,Fd w,Fd w,Fd w,Fd w,Fd w,Fd w,Fd w,Qc w⟩
theorem Jf:NodeOk Ak:=by constructor<;>simp[Ak,noLeafD,noParD]
theorem Zew (d:LeafD):Ef ⟨0,d,noParD⟩ Ak=nlB d.box.length d.sign.length d.ident.length d.source d.par.length d.sig.length:=by
 rw[Ef,nlB];apply decide_eq_decide.2;have e:Je d noLeafD=true↔(d.box=[]∧d.sign=[]∧d.ident=[]∧d.source=0∧d.par=[]∧d.sig=[]):=by
  unfold Je;rw[decide_eq_true_iff];exact Iff.rfl
 constructor
 ·rintro⟨_,h,_⟩;obtain⟨h1,h2,h3,h4,h5,h6⟩:=e.1 h;rw[h1,h2,h3,h4,h5,h6];exact⟨rfl,rfl⟩
 ·rintro⟨h1,h2⟩;exact⟨rfl,e.2 ⟨bH (by omega),bH (by omega),bH (by omega),h1,bH (by omega),bH (by omega)⟩,rfl,rfl,rfl⟩
theorem Zex (p:ParD):Ef ⟨0,noLeafD,p⟩ Ak=npB p.box.length p.hash.length p.late.length:=by
 rw[Ef,npB];apply decide_eq_decide.2;have hl:Je noLeafD noLeafD=true:=(by decide);constructor
 ·rintro⟨_,_,h1,h2,h3⟩;have h1':p.box=[]:=h1;have h2':p.hash=[]:=h2;have h3':p.late=[]:=h3;rw[h1',h2',h3']
  rfl
 ·intro h;have h':p.box.length+p.hash.length+p.late.length=0:=h;have q1:p.box=[]:=bH (by omega);have q2:p.hash=[]:=bH (by omega);have q3:p.late=[]:=bH (by omega);exact⟨rfl,hl,q1,q2,q3⟩
theorem Zh1 {W w1:World}(hb:Below W.heap.size W w1):∀b o,b<W.heap.size→w1.cell? ⟨b,o,none⟩=W.cell? ⟨b,o,none⟩:=fun b o h=>hb.cell (p:=⟨b,o,none⟩) h
theorem Yu (d:NodeD)(c:Array Value)(w:World)(h:NodeC w d c)(hk:NodeOk d):
  Calls Tryz.prog 82 #[.agg c] w fun e w'=>e=.returned (.bool (Aq d))∧Below w.heap.size w w':=by
 obtain⟨a1,c1,a2,c2,a3,c3,a4,c4,a5,c5,b1,e1,b2,e2,b3,e3,rfl,h1,h2,h3,h4,h5,h6,h7,h8⟩:=h;have SLF:=fun W (hw:Below w.heap.size w W)=>Gd ⟨0,d.leaf,noParD⟩ Ak _ _ W ⟨a1,c1,a2,c2,a3,c3,a4,c4,a5,c5,none,0,none,0,none,0,rfl,h1.below hw lR,h2.below hw lR,h3.below hw lR,h4.below hw lR,h5.below hw lR,Fd W,Fd W,Qc W⟩
  (Lr W) ⟨by simp,hk.source,hk.box,hk.sign,hk.ident,hk.par,hk.sig,by simp[noParD],by simp[noParD],by simp[noParD]⟩ Jf
 have SPR:=fun W (hw:Below w.heap.size w W)=>Gd ⟨0,noLeafD,d.par⟩ Ak _ _ W ⟨none,0,none,0,none,0,none,0,none,0,b1,e1,b2,e2,b3,e3,rfl,Fd W,Fd W,Fd W,Fd W,Fd W,h6.below hw lR,h7.below hw lR,h8.below hw lR⟩
  (Lr W) ⟨by simp,by simp[noLeafD],by simp[noLeafD],by simp[noLeafD],by simp[noLeafD],by simp[noLeafD],by simp[noLeafD],hk.pbox,hk.hash,hk.late⟩ Jf
 simp only[Zew]at SLF;simp only[Zex]at SPR;have RL:=fun W=>Ih a1 a2 a3 a4 a5 d.leaf.box.length d.leaf.sign.length d.leaf.ident.length d.leaf.par.length d.leaf.sig.length c1 c2 c3 c4 c5 d.leaf.source W;have RP:=fun W (hw:Below w.heap.size w W)=>Gn b1 b2 b3 d.par.box.length d.par.hash.length e1 e2 e3 d.par.late W (h8.below hw lR);have hB:Aq d=(if d.kind=0 then nlB d.leaf.box.length d.leaf.sign.length d.leaf.ident.length d.leaf.source d.leaf.par.length d.leaf.sig.length&&npB d.par.box.length d.par.hash.length d.par.late.length
  else if d.kind=1 then rlB d.leaf.box.length d.leaf.sign.length d.leaf.ident.length d.leaf.source d.leaf.par.length d.leaf.sig.length&&npB d.par.box.length d.par.hash.length d.par.late.length
  else if d.kind=2 then nlB d.leaf.box.length d.leaf.sign.length d.leaf.ident.length d.leaf.source d.leaf.par.length d.leaf.sig.length&&rpB d.par.box.length d.par.hash.length d.par.late else false):=rfl
 rw[hB];simp only[show noLeafD.box=[]from rfl,show noLeafD.sign=[]from rfl,show noLeafD.ident=[]from rfl,show noLeafD.source=0 from rfl,show noLeafD.par=[]from rfl,show noLeafD.sig=[]from rfl,show noParD.box=[]from rfl,show noParD.hash=[]from rfl,show noParD.late=[]from rfl,bI]at SLF SPR;obtain⟨m1,hm1⟩:=eX d.leaf.box.length;obtain⟨m2,hm2⟩:=eX d.leaf.sign.length;obtain⟨m3,hm3⟩:=eX d.leaf.ident.length;obtain⟨m4,hm4⟩:=eX d.leaf.par.length;obtain⟨m5,hm5⟩:=eX d.leaf.sig.length;obtain⟨m6,hm6⟩:=eX d.par.box.length;obtain⟨m7,hm7⟩:=eX d.par.hash.length;obtain⟨m8,hm8⟩:=eX d.par.late.length;obtain⟨src,hsrc⟩:=eX d.leaf.source;obtain⟨kd,hkd⟩:=eX d.kind;rw[←hm1,←hm2,←hm3,←hm4,←hm5,←hsrc]at RL;rw[←hm6,←hm7,←hm8]at RP;rw[←hm1,←hm2,←hm3,←hm4,←hm5,←hsrc]at SLF;rw[←hm6,←hm7,←hm8]at SPR;rw[←hm1,←hm2,←hm3,←hm4,←hm5,←hm6,←hm7,←hm8,←hsrc,←hkd];obtain⟨rl,hrl⟩:=eX (rlB m1 m2 m3 src m4 m5);obtain⟨nl,hnl⟩:=eX (nlB m1 m2 m3 src m4 m5);obtain⟨np,hnp⟩:=eX (npB m6 m7 m8);obtain⟨rp,hrp⟩:=eX (rpB m6 m7 d.par.late);rw[←hrl]at RL⊢;rw[←hnl]at SLF⊢;rw[←hnp]at SPR⊢;rw[←hrp]at RP⊢;have HSLF:=Hd SLF;have HSPR:=Hd SPR;have HRL:=Hd RL;have HRP:=Hd RP;clear SLF SPR RL RP hB h1 h2 h3 h4 h5 h6 h7 h8 hm1 hm2 hm3 hm4 hm5 hm6 hm7 hm8 hsrc hkd hrl hnl hnp hrp hk
 by_cases k0:kd=0
 ·subst k0;rw[if_pos rfl];go_enter Tryz.func82,Tryz.ntmps82;go_wp2_with fail
  go_region
  all_goals
   go_wp2_with fail;refine(HSLF.out _ (by repeat any_goals(first|exact bR|exact lR|refine Below.alloc ?_ ?_ _|refine Below.draw1 ?_|refine Below.setCell ?_ ?_ _|(simp;done)|(simp;omega)))).mono ?_;rintro e w3 ⟨rfl,hb3⟩;have hc3:=Zh1 hb3;have hz3:=hb3.size;have HB3:Hid (Below w.heap.size w w3):=Hd (Below.trans (by repeat any_goals(first|exact bR|exact lR|refine Below.alloc ?_ ?_ _|refine Below.draw1 ?_|refine Below.setCell ?_ ?_ _|(simp;done)|(simp;omega))) (hb3.mono (by simp;omega)));clear hb3;simp only[World.alloc,World.drew,cN]at hz3;cases nl with
   |true=>
    have hg0:w.heap.size<w3.heap.size:=(by omega);have hg1:w.heap.size+1<w3.heap.size:=(by omega);have hg2:w.heap.size+1+1<w3.heap.size:=(by omega);go_wp2_with fail;refine(HSPR.out _ HB3.out).mono ?_;rintro e w4 ⟨rfl,hb4⟩;have HB4:=Hd (HB3.out.trans (hb4.mono (by omega)));clear hb4;go_wp2_with fail;go_ret;exact⟨rfl,HB4.out⟩
   |false=>
    go_wp2_with fail;go_ret;exact⟨rfl,HB3.out⟩
 ·by_cases k1:kd=1
  ·subst k1;rw[if_neg (by omega),if_pos rfl];go_enter Tryz.func82,Tryz.ntmps82;go_wp2_with fail
   go_region
   all_goals
    go_wp2_with fail;refine(HRL.out _).mono ?_;rintro e w3 ⟨rfl,hb3⟩;have hc3:=Zh1 hb3;have hz3:=hb3.size;have HB3:Hid (Below w.heap.size w w3):=Hd (Below.trans (by repeat any_goals(first|exact bR|exact lR|refine Below.alloc ?_ ?_ _|refine Below.draw1 ?_|refine Below.setCell ?_ ?_ _|(simp;done)|(simp;omega))) (hb3.mono (by simp;omega)));clear hb3;simp only[World.alloc,World.drew,cN]at hz3;cases rl with
    |true=>
     have hg0:w.heap.size<w3.heap.size:=(by omega);have hg1:w.heap.size+1<w3.heap.size:=(by omega);have hg2:w.heap.size+1+1<w3.heap.size:=(by omega);go_wp2_with fail;refine(HSPR.out _ HB3.out).mono ?_;rintro e w4 ⟨rfl,hb4⟩;have HB4:=Hd (HB3.out.trans (hb4.mono (by omega)));clear hb4;go_wp2_with fail;go_ret;exact⟨rfl,HB4.out⟩
    |false=>
     go_wp2_with fail;go_ret;exact⟨rfl,HB3.out⟩
  ·by_cases k2:kd=2
   ·subst k2;rw[if_neg (by omega),if_neg (by omega),if_pos rfl,Bool.and_comm];go_enter Tryz.func82,Tryz.ntmps82;go_wp2_with fail
    go_region
    all_goals
     go_wp2_with fail;refine(HRP.out _ (by repeat any_goals(first|exact bR|exact lR|refine Below.alloc ?_ ?_ _|refine Below.draw1 ?_|refine Below.setCell ?_ ?_ _|(simp;done)|(simp;omega)))).mono ?_;rintro e w3 ⟨rfl,hb3⟩;have hc3:=Zh1 hb3;have hz3:=hb3.size;have HB3:Hid (Below w.heap.size w w3):=Hd (Below.trans (by repeat any_goals(first|exact bR|exact lR|refine Below.alloc ?_ ?_ _|refine Below.draw1 ?_|refine Below.setCell ?_ ?_ _|(simp;done)|(simp;omega))) (hb3.mono (by simp;omega)));clear hb3;simp only[World.alloc,World.drew,cN]at hz3;cases rp with
     |true=>
      have hg0:w.heap.size<w3.heap.size:=(by omega);have hg1:w.heap.size+1<w3.heap.size:=(by omega);have hg2:w.heap.size+1+1<w3.heap.size:=(by omega);go_wp2_with fail;refine(HSLF.out _ HB3.out).mono ?_;rintro e w4 ⟨rfl,hb4⟩;have HB4:=Hd (HB3.out.trans (hb4.mono (by omega)));clear hb4;go_wp2_with fail;go_ret;exact⟨rfl,HB4.out⟩
     |false=>
      go_wp2_with fail;go_ret;exact⟨rfl,HB3.out⟩
   ·rw[if_neg k0,if_neg k1,if_neg k2];have t0:((kd:Int)==0)=false:=(by rw[beq_eq_false_iff_ne];omega);have t1:((kd:Int)==1)=false:=(by rw[beq_eq_false_iff_ne];omega);have t2:((kd:Int)==2)=false:=(by rw[beq_eq_false_iff_ne];omega);clear k0 k1 k2;go_enter Tryz.func82,Tryz.ntmps82;go_wp2_with fail
    go_region
    all_goals
     go_wp2_with fail;go_ret;exact⟨rfl,(by repeat any_goals(first|exact bR|exact lR|refine Below.alloc ?_ ?_ _|refine Below.draw1 ?_|refine Below.setCell ?_ ?_ _|(simp;done)|(simp;omega)))⟩
def ltF (i:Int)(d:NodeD):List Nat×Nat:=if i<0∨65535<i then([],1)else if Aq d=false∨d.kind=2 then([],3)else([1]++beN 4 i.toNat++Ci d,0)
def ptF (d:NodeD)(l r:List Nat):List Nat×Nat:=if Aq d=false∨d.kind=1 then([],3)else if l.length≠32∨r.length≠32 then([],1)else([2]++Ci d++Ca l++Ca r,0)
def Za1 (r:List Nat×Nat)(w:World)(e:Ending)(w':World):Prop:=
 Below w.heap.size w w'∧∃v,e=.returned (.tuple #[v,.int .u8 (r.2:Nat)])∧Own w' w.heap.size 5 v (bvs r.1)
theorem Dx (n:Nat)(w w':World)(hb:Below w.heap.size w w'):Za1 ([],n) w (.returned (.tuple #[.slice none 0 0,.int .u8 (n:Nat)])) w':=⟨hb,_,rfl,Own.nil _ _ _⟩
theorem Zey {d:ParD}(h1:d.box.length≤200)(h2:d.hash.length≤200)(h3:d.late.length≤1000):(Zha d).length≤4800:=by
 have a:=Ds d.box (by omega);have b:=Ds d.hash (by omega);have l:=Di d.late;have c:=Ds (Dw d.late) (by omega);unfold Zha;rw[aG,aG];omega
theorem Mn {d:NodeD}(hs:Cb d=true):(Ci d).length≤6000:=by
 have hsm:=of_decide_eq_true hs;have hsl:Wj d.leaf:=⟨hsm.1,hsm.2.1,hsm.2.2.1,hsm.2.2.2.1,hsm.2.2.2.2.1⟩;have h1:=Wo hsl;have h2:=Ds d.leaf.sig (by have:=hsl.2.2.2.2;omega);have h3:=Zey hsm.2.2.2.2.2.1 hsm.2.2.2.2.2.2.1 hsm.2.2.2.2.2.2.2;have h4:=hsl.2.2.2.2;unfold Ci
 split
 ·rw[bO,aG];omega
 ·split
  ·rw[bO];omega
  ·simp
theorem On (d:NodeD)(c:Array Value)(w:World)(h:NodeC w d c)(hk:NodeOk d)(hs:Cb d=true):
  Calls Tryz.prog 108 #[.agg c] w (Ep d w):=by
 cases hr:Aq d with
 |true=>exact Sc d c w h hk hs hr
 |false=>exact Om d c w h hs hr
theorem Sd (i:Int)(d:NodeD)(c:Array Value)(w:World)(h:NodeC w d c)(hk:NodeOk d)(hs:Cb d=true):
  Calls Tryz.prog 149 #[.int .i64 i,.agg c] w (Za1 (ltF i d) w):=by
 have HNB:=Hd (On d c _ (h.below ((Below.refl w.heap.size w).alloc lR (.cells c 52)) lR) hk hs);have hlen:=Mn hs;have hF:ltF i d=if i<0∨65535<i then([],1)else if Aq d=false∨d.kind=2 then([],3)else([1]++beN 4 i.toNat++Ci d,0):=rfl;obtain⟨a1,c1,a2,c2,a3,c3,a4,c4,a5,c5,b1,e1,b2,e2,b3,e3,rfl,-⟩:=h;obtain⟨m1,hm1⟩:=eX d.leaf.box.length;obtain⟨m2,hm2⟩:=eX d.leaf.sign.length;obtain⟨m3,hm3⟩:=eX d.leaf.ident.length;obtain⟨m4,hm4⟩:=eX d.leaf.par.length;obtain⟨m5,hm5⟩:=eX d.leaf.sig.length;obtain⟨m6,hm6⟩:=eX d.par.box.length;obtain⟨m7,hm7⟩:=eX d.par.hash.length;obtain⟨m8,hm8⟩:=eX d.par.late.length;obtain⟨kd,hkd⟩:=eX d.kind;obtain⟨src,hsrc⟩:=eX d.leaf.source;obtain⟨NB,hNB⟩:=eX (Ci d);obtain⟨rb,hrb⟩:=eX (Aq d);rw[←hm1,←hm2,←hm3,←hm4,←hm5,←hm6,←hm7,←hm8,←hkd,←hsrc]at HNB⊢;unfold Ep at HNB;rw[←hNB,←hrb]at HNB;rw[←hNB]at hlen;simp only[←hNB,←hrb,←hkd]at hF;rw[hF];have hb0:=(Below.refl w.heap.size w).alloc lR (.cells #[.int .u8 (kd:Nat),.slice a1 m1 c1,.slice a2 m2 c2,.slice a3 m3 c3,.int .u8 (src:Nat),.slice a4 m4 c4,.slice a5 m5 c5,.slice b1 m6 e1,.slice b2 m7 e2,.slice b3 m8 e3] 52);have HB0:=Hd hb0;clear hF hk hs hm1 hm2 hm3 hm4 hm5 hm6 hm7 hm8 hkd hsrc hNB hrb hb0
 by_cases k0:i<0
 ·rw[if_pos (.inl k0)];have HE:=Hd (Dx 1 w _ HB0.out);go_enter Tryz.func149,Tryz.ntmps149;go_wp2_with fail;go_ret2;exact HE.out
 ·by_cases k1:65535<i
  ·rw[if_pos (.inr k1)];have HE:=Hd (Dx 1 w _ HB0.out);have k2:65536≤i:=(by omega);have k3:0≤i:=(by omega);clear k0 k1;go_enter Tryz.func149,Tryz.ntmps149;go_wp2_with fail;go_ret2;exact HE.out
  ·rw[if_neg (by omega)];have k2:i<65536:=(by omega);have k3:0≤i:=(by omega);clear k0 k1;cases rb with
   |false=>
    rw[if_pos (.inl rfl)];simp only[Bool.false_eq_true,if_false]at HNB;go_enter Tryz.func149,Tryz.ntmps149;go_wp2_with fail;refine HNB.out.mono ?_;rintro e w1 ⟨hb1,v1,rfl,hown⟩;have hbk:=(Blk.new w 52 _).below hb1 (by simp);have x0:=hbk.cell 0;simp only[bK,bL]at x0;have hz:=hb1.size;simp only[World.alloc]at hz;have hgx:w.heap.size<w1.heap.size:=(by simp at hz;omega);have HB1:=Hd (((Below.refl w.heap.size w).alloc lR (.cells #[.int .u8 (kd:Nat),.slice a1 m1 c1,.slice a2 m2 c2,.slice a3 m3 c3,.int .u8 (src:Nat),.slice a4 m4 c4,.slice a5 m5 c5,.slice b1 m6 e1,.slice b2 m7 e2,.slice b3 m8 e3] 52)).trans (hb1.mono (by simp)));clear hbk hb1 hz;have HE:=Hd (Dx 3 w _ HB1.out);clear hown;go_wp2_with fail;go_ret2;exact HE.out
   |true=>
    simp only[if_true]at HNB
    by_cases k4:kd=2
    ·have t4:((kd:Int)==2)=true:=(by rw[beq_iff_eq];omega);rw[if_pos (.inr k4)];clear k4;go_enter Tryz.func149,Tryz.ntmps149;go_wp2_with fail;refine HNB.out.mono ?_;rintro e w1 ⟨hb1,v1,rfl,hown⟩;have hbk:=(Blk.new w 52 _).below hb1 (by simp);have x0:=hbk.cell 0;simp only[bK,bL]at x0;have hz:=hb1.size;simp only[World.alloc]at hz;have hgx:w.heap.size<w1.heap.size:=(by simp at hz;omega);have HB1:=Hd (((Below.refl w.heap.size w).alloc lR (.cells #[.int .u8 (kd:Nat),.slice a1 m1 c1,.slice a2 m2 c2,.slice a3 m3 c3,.int .u8 (src:Nat),.slice a4 m4 c4,.slice a5 m5 c5,.slice b1 m6 e1,.slice b2 m7 e2,.slice b3 m8 e3] 52)).trans (hb1.mono (by simp)));clear hbk hb1 hz;have HE:=Hd (Dx 3 w _ HB1.out);clear hown;go_wp2_with fail;go_ret2;exact HE.out
    ·rw[if_neg (by simp[k4])];have t4:((kd:Int)==2)=false:=(by rw[beq_eq_false_iff_ne];omega);have PN:∀(N:Nat) (W:World),Rd W (.slice (some ⟨N,0,none⟩) 1 1) (bvs [1])→Calls Tryz.prog 60 #[.slice (some ⟨N,0,none⟩) 1 1,.int .i64 4,.int .u64 i] W fun e w'=>∃v',e=.returned v'∧Own w' W.heap.size 5 v' (bvs ([1]++beN 4 i.toNat))∧Below W.heap.size W w':=by
      intro N W hr;have:=Gx (.slice (some ⟨N,0,none⟩) 1 1) [1] 4 i.toNat W hr (by simp) rfl (by omega);rw[Int.toNat_of_nonneg k3]at this;exact this
     have HPN0:=Hd PN;obtain⟨BN,hBN⟩:=eX (beN 4 i.toNat);have hbl:BN.length=4:=(by rw[hBN,beN_len]);rw[←hBN]at HPN0⊢;have HBL:=Hd hbl;clear k4 PN hBN hbl;go_enter Tryz.func149,Tryz.ntmps149;go_wp2_with fail;refine HNB.out.mono ?_;rintro e w1 ⟨hb1,v1,rfl,hown⟩;have hbk:=(Blk.new w 52 _).below hb1 (by simp);have x0:=hbk.cell 0;simp only[bK,bL]at x0;have hz:=hb1.size;simp only[World.alloc]at hz;have hgx:w.heap.size<w1.heap.size:=(by simp at hz;omega);have HB1:=Hd (((Below.refl w.heap.size w).alloc lR (.cells #[.int .u8 (kd:Nat),.slice a1 m1 c1,.slice a2 m2 c2,.slice a3 m3 c3,.int .u8 (src:Nat),.slice a4 m4 c4,.slice a5 m5 c5,.slice b1 m6 e1,.slice b2 m7 e2,.slice b3 m8 e3] 52)).trans (hb1.mono (by simp)));clear hbk hb1 hz;have HO:=Hd hown;have HPN:=Hd (HPN0.out w1.heap.size _ (Zjh (w:=w1) (cs:=#[.int .u8 1]) (L:=[1]) rfl rfl (by simp)));clear hown;go_wp2_with fail;refine HPN.out.mono ?_;rintro e w2 ⟨v2,rfl,hown2,hb2⟩;have hbt:=(HB1.out.alloc HB1.out.size (.cells #[.int .u8 1] 5)).trans (hb2.mono (by simp;omega));have HB2:=Hd hbt;have HO1:=Hd (((HO.out.alloc (.cells #[.int .u8 1] 5)).below hb2 lR).rd);have HO2:=Hd (hown2.mono (show w.heap.size≤_ by simp;omega));have hz2:=hbt.size;clear hown2 hb2 hbt;go_wp2_with (at_builtin;refine Bd rfl (.tmp 29) (.tmp 30) 28 rfl w.heap.size 5 _ 1 Fk _ _ rfl HO2.out _ (bvs NB) rfl HO1.out (Fz _) ?c1 ?c2 ?_);case c1=>rw[bvs_len,bvs_len,aG,HBL.out];simp only[bO,bI];omega
     case c2=>exact hz2
     rintro v3 w3 hown3-hb3;have HO3:=Hd hown3;have HB3:=Hd (HB2.out.trans hb3);clear hown3 hb3;go_wp2_with fail;go_ret2;refine⟨HB3.out,_,rfl,?_⟩;have:=HO3.out;rw[←Jy]at this;exact this
theorem Od (d:NodeD)(c:Array Value)(vl vr:Value)(l r:List Nat)(w:World)(h:NodeC w d c)(hk:NodeOk d)(hs:Cb d=true)(hl:Rd w vl (bvs l))(hr:Rd w vr (bvs r)):
  Calls Tryz.prog 150 #[.agg c,vl,vr] w (Za1 (ptF d l r) w):=by
 have HNB:=Hd (On d c _ (h.below ((Below.refl w.heap.size w).alloc lR (.cells c 52)) lR) hk hs);have hlen:=Mn hs;have hF:ptF d l r=if Aq d=false∨d.kind=1 then([],3)else if l.length≠32∨r.length≠32 then([],1)else([2]++Ci d++Ca l++Ca r,0):=rfl;obtain⟨a1,c1,a2,c2,a3,c3,a4,c4,a5,c5,b1,e1,b2,e2,b3,e3,rfl,-⟩:=h;obtain⟨m1,hm1⟩:=eX d.leaf.box.length;obtain⟨m2,hm2⟩:=eX d.leaf.sign.length;obtain⟨m3,hm3⟩:=eX d.leaf.ident.length;obtain⟨m4,hm4⟩:=eX d.leaf.par.length;obtain⟨m5,hm5⟩:=eX d.leaf.sig.length;obtain⟨m6,hm6⟩:=eX d.par.box.length;obtain⟨m7,hm7⟩:=eX d.par.hash.length;obtain⟨m8,hm8⟩:=eX d.par.late.length;obtain⟨kd,hkd⟩:=eX d.kind;obtain⟨src,hsrc⟩:=eX d.leaf.source;obtain⟨NB,hNB⟩:=eX (Ci d);obtain⟨rb,hrb⟩:=eX (Aq d);rw[←hm1,←hm2,←hm3,←hm4,←hm5,←hm6,←hm7,←hm8,←hkd,←hsrc]at HNB⊢;unfold Ep at HNB;rw[←hNB,←hrb]at HNB;rw[←hNB]at hlen;simp only[←hNB,←hrb,←hkd]at hF;rw[hF];have hb0:=(Below.refl w.heap.size w).alloc lR (.cells #[.int .u8 (kd:Nat),.slice a1 m1 c1,.slice a2 m2 c2,.slice a3 m3 c3,.int .u8 (src:Nat),.slice a4 m4 c4,.slice a5 m5 c5,.slice b1 m6 e1,.slice b2 m7 e2,.slice b3 m8 e3] 52);have HB0:=Hd hb0;obtain⟨al,cl,rfl,-⟩:=id hl;obtain⟨ar,cr,rfl,-⟩:=id hr;rw[bvs_len]at hl hr⊢;rw[bvs_len];obtain⟨nl,hnl⟩:=eX l.length;obtain⟨nr,hnr⟩:=eX r.length;rw[←hnl]at hl⊢;rw[←hnr]at hr⊢;have HL:=Hd hl;have HR:=Hd hr;have HN:=Hd (show nl=l.length∧nr=r.length from⟨hnl,hnr⟩);clear hF hk hs hm1 hm2 hm3 hm4 hm5 hm6 hm7 hm8 hkd hsrc hNB hrb hb0 hl hr hnl hnr;cases rb with
 |false=>
  rw[if_pos (.inl rfl)];simp only[Bool.false_eq_true,if_false]at HNB;go_enter Tryz.func150,Tryz.ntmps150;go_wp2_with fail;refine HNB.out.mono ?_;rintro e w1 ⟨hb1,v1,rfl,hown⟩;have hbk:=(Blk.new w 52 _).below hb1 (by simp);have x0:=hbk.cell 0;simp only[bK,bL]at x0;have hz:=hb1.size;simp only[World.alloc]at hz;have hgx:w.heap.size<w1.heap.size:=(by simp at hz;omega);have HB1:=Hd (((Below.refl w.heap.size w).alloc lR (.cells #[.int .u8 (kd:Nat),.slice a1 m1 c1,.slice a2 m2 c2,.slice a3 m3 c3,.int .u8 (src:Nat),.slice a4 m4 c4,.slice a5 m5 c5,.slice b1 m6 e1,.slice b2 m7 e2,.slice b3 m8 e3] 52)).trans (hb1.mono (by simp)));clear hbk hb1 hz;have HE:=Hd (Dx 3 w _ HB1.out);clear hown;go_wp2_with fail;go_ret2;exact HE.out
 |true=>
  simp only[if_true]at HNB
  by_cases k4:kd=1
  ·have t4:((kd:Int)==1)=true:=(by rw[beq_iff_eq];omega);rw[if_pos (.inr k4)];clear k4;go_enter Tryz.func150,Tryz.ntmps150;go_wp2_with fail;refine HNB.out.mono ?_;rintro e w1 ⟨hb1,v1,rfl,hown⟩;have hbk:=(Blk.new w 52 _).below hb1 (by simp);have x0:=hbk.cell 0;simp only[bK,bL]at x0;have hz:=hb1.size;simp only[World.alloc]at hz;have hgx:w.heap.size<w1.heap.size:=(by simp at hz;omega);have HB1:=Hd (((Below.refl w.heap.size w).alloc lR (.cells #[.int .u8 (kd:Nat),.slice a1 m1 c1,.slice a2 m2 c2,.slice a3 m3 c3,.int .u8 (src:Nat),.slice a4 m4 c4,.slice a5 m5 c5,.slice b1 m6 e1,.slice b2 m7 e2,.slice b3 m8 e3] 52)).trans (hb1.mono (by simp)));clear hbk hb1 hz;have HE:=Hd (Dx 3 w _ HB1.out);clear hown;go_wp2_with fail;go_ret2;exact HE.out
  ·rw[if_neg (by simp[k4])];have t4:((kd:Int)==1)=false:=(by rw[beq_eq_false_iff_ne];omega);clear k4
   by_cases k5:nl=32
   ·have t5:((nl:Int) !=32)=false:=by rw[bne_eq_false_iff_eq];omega
    by_cases k6:nr=32
    ·have t6:((nr:Int) !=32)=false:=(by rw[bne_eq_false_iff_eq];omega);rw[if_neg (by omega)];have HN2:=Hd (show l.length=32∧r.length=32 from⟨by rw[←HN.out.1];exact k5,by rw[←HN.out.2];exact k6⟩);clear k5 k6;go_enter Tryz.func150,Tryz.ntmps150;go_wp2_with fail;refine HNB.out.mono ?_;rintro e w1 ⟨hb1,v1,rfl,hown⟩;have hbk:=(Blk.new w 52 _).below hb1 (by simp);have x0:=hbk.cell 0;simp only[bK,bL]at x0;have hz:=hb1.size;simp only[World.alloc]at hz;have hgx:w.heap.size<w1.heap.size:=(by simp at hz;omega);have HB1:=Hd (((Below.refl w.heap.size w).alloc lR (.cells #[.int .u8 (kd:Nat),.slice a1 m1 c1,.slice a2 m2 c2,.slice a3 m3 c3,.int .u8 (src:Nat),.slice a4 m4 c4,.slice a5 m5 c5,.slice b1 m6 e1,.slice b2 m7 e2,.slice b3 m8 e3] 52)).trans (hb1.mono (by simp)));clear hbk hb1 hz;have HO:=Hd hown;have HL1:=Hd (HL.out.below HB1.out lR);have HR1:=Hd (HR.out.below HB1.out lR);have hz1:=HB1.out.size;clear hown;go_wp2_with (at_builtin;refine Bd rfl (.tmp 32) (.tmp 33) 28 rfl w.heap.size 5 _ 1 Fk _ (bvs [2]) rfl (Own.full (w:=w1) (B:=w.heap.size) (e:=5) (cs:=#[.int .u8 2]) rfl hz1 (by unfold maxLen;simp) (n:=1) rfl) _ (bvs NB) rfl (HO.out.rd.alloc _) (Fz _) ?c1 ?c2 ?_);case c1=>rw[bvs_len,bvs_len];simp only[bO,bI];omega
     case c2=>simp;omega
     rintro v3 w3 hown3-hb3;rw[←Jy]at hown3;have hbt:=(HB1.out.alloc hz1 (.cells #[.int .u8 2] 5)).trans hb3;have HB3:=Hd hbt;have hz3:=hbt.size;have HP1:=Hd (Dd v3 _ _ l w3 hown3.rd (HL.out.below hbt lR) (by rw[aG];simp only[bO,bI];omega) (by have:=HN2.out;omega));clear hown3 hb3 hbt;go_wp2_with fail;refine HP1.out.mono ?_;rintro e w4 ⟨v4,rfl,hown4,hb4⟩;have hbt4:=HB3.out.trans (hb4.mono hz3);have HB4:=Hd hbt4;have hz4:=hbt4.size;have hvl:=Ds l (by have:=HN2.out;omega);have HP2:=Hd (Dd v4 _ _ r w4 hown4.rd (HR.out.below hbt4 lR) (by have:=HN2.out;rw[aG,aG];simp only[bO,bI];omega) (by have:=HN2.out;omega));clear hown4 hb4 hbt4 hvl;go_wp2_with fail;refine HP2.out.mono ?_;rintro e w5 ⟨v5,rfl,hown5,hb5⟩;have HO5:=Hd (hown5.mono hz4);have HB5:=Hd (HB4.out.trans (hb5.mono hz4));clear hown5 hb5;go_wp2_with fail;go_ret2;exact⟨HB5.out,_,rfl,HO5.out⟩
    ·have t6:((nr:Int) !=32)=true:=(by rw[bne_iff_ne];omega);rw[if_pos (.inr k6)];clear k5 k6;go_enter Tryz.func150,Tryz.ntmps150;go_wp2_with fail;refine HNB.out.mono ?_;rintro e w1 ⟨hb1,v1,rfl,hown⟩;have hbk:=(Blk.new w 52 _).below hb1 (by simp);have x0:=hbk.cell 0;simp only[bK,bL]at x0;have hz:=hb1.size;simp only[World.alloc]at hz;have hgx:w.heap.size<w1.heap.size:=(by simp at hz;omega);have HB1:=Hd (((Below.refl w.heap.size w).alloc lR (.cells #[.int .u8 (kd:Nat),.slice a1 m1 c1,.slice a2 m2 c2,.slice a3 m3 c3,.int .u8 (src:Nat),.slice a4 m4 c4,.slice a5 m5 c5,.slice b1 m6 e1,.slice b2 m7 e2,.slice b3 m8 e3] 52)).trans (hb1.mono (by simp)));clear hbk hb1 hz;have HE:=Hd (Dx 1 w _ HB1.out);clear hown;go_wp2_with fail;go_ret2;exact HE.out
   ·have t5:((nl:Int) !=32)=true:=(by rw[bne_iff_ne];omega);rw[if_pos (.inl k5)];clear k5;go_enter Tryz.func150,Tryz.ntmps150;go_wp2_with fail;refine HNB.out.mono ?_;rintro e w1 ⟨hb1,v1,rfl,hown⟩;have hbk:=(Blk.new w 52 _).below hb1 (by simp);have x0:=hbk.cell 0;simp only[bK,bL]at x0;have hz:=hb1.size;simp only[World.alloc]at hz;have hgx:w.heap.size<w1.heap.size:=(by simp at hz;omega);have HB1:=Hd (((Below.refl w.heap.size w).alloc lR (.cells #[.int .u8 (kd:Nat),.slice a1 m1 c1,.slice a2 m2 c2,.slice a3 m3 c3,.int .u8 (src:Nat),.slice a4 m4 c4,.slice a5 m5 c5,.slice b1 m6 e1,.slice b2 m7 e2,.slice b3 m8 e3] 52)).trans (hb1.mono (by simp)));clear hbk hb1 hz;have HE:=Hd (Dx 1 w _ HB1.out);clear hown;go_wp2_with fail;go_ret2;exact HE.out
theorem Zh2 (d:LeafD):Rw d=(Ca d.box++Ca d.sign)++(Ca d.ident++[d.source])++(if d.source=3 then Ca d.par else []):=by
 unfold Rw Ob;simp[List.append_assoc]
end Go.Proofs.YtfofaiommeckbaaGreat
