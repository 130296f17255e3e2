/- Walks: a reader's length. -/
import Derived.Test.YtfofaiommeckbaaGreatZSliceReadsB
import Derived.Test.YtfofaiommeckbaaGreatZSliceReads17
set_option linter.unusedVariables false
set_option maxRecDepth 100000
set_option maxHeartbeats 40000000
namespace Go.Proofs.YtfofaiommeckbaaGreat
open Go.RowKit WireM
def Oh (b:Nat)(M:List Nat):Option Nat×List Nat×Nat:=
 if b/64=3 then(none,M,3)
 else if M.length<2^(b/64)-1 then(none,M,4)
 else if lenS (Ct (b%64::M.take (2^(b/64)-1)):Nat)=2^(b/64)then(some (Ct (b%64::M.take (2^(b/64)-1))),M.drop (2^(b/64)-1),0)
 else(none,M.drop (2^(b/64)-1),3)
def Zla (B b k:Nat)(M:List Nat)(w:World)(a':Act)(w':World):Prop:=
 ∃(i:Nat) (v:Value) (sz kd:Int),i≤k∧RdK w' B v (bvs [b])∧RS w' B M 0∧Only B w w'∧sz=((2^i:Nat):Int)∧kd=((k-i:Nat):Int)∧
  ∃(x1 x2 x3 x5 x8 x9 x10 x11 x12 x13 x14 x15 x16 x17 x18 x19 x20 x21 x22 x23 x24 x25 x26 x27 x28 x29 x30 x31 x32 x33 x34 x35 x36 x37 x38 x39 x40 x41 x42 x43 x44 x45 x46 x47 x48 x49 x50 x51 x52 x53 x54 x55:Value),a'= {tmps:=#[.pointer (some ⟨B,0,none⟩),x1,x2,x3,v,x5,.int .i64 sz,.int .u8 kd,x8,x9,x10,x11,x12,x13,x14,x15,x16,x17,x18,x19,x20,x21,x22,x23,x24,x25,x26,x27,x28,x29,x30,x31,x32,x33,x34,x35,x36,x37,x38,x39,x40,x41,x42,x43,x44,x45,x46,x47,x48,x49,x50,x51,x52,x53,x54,x55],defers:=[]}
def Zk4 (B:Nat)(w:World)(r:Option Nat×List Nat×Nat)(e:Ending)(w':World):Prop:=
 e=.returned (.tuple #[.int .i64 ((r.1.getD 0:Nat):Int),.bool r.1.isSome])∧RS w' B r.2.1 r.2.2∧Only B w w'
theorem Ur (B b:Nat)(M:List Nat)(w:World)(h:RS w B (b::M) 0)(hL:∀n∈b::M,n<256):
  Calls Tryz.prog 282 #[.pointer (some ⟨B,0,none⟩)] w (Zk4 B w (Oh b M)):=by
 have hb:b<256:=hL b (by simp);have hM:∀n∈M,n<256:=fun n hn=>hL n (by simp[hn]);have T1:=Pv B (b::M) 1 w h (by simp);simp only[List.take_succ_cons,List.take_zero,List.drop_succ_cons,List.drop_zero]at T1;obtain⟨k,hk⟩:=eX (b/64);have hk3:k≤3:=(by omega);have hkz:(b:Int)/64=(k:Int):=(by omega);have and63:bits .and .u8 (b:Int) 63=((b%64:Nat):Int):=by
  have:=u8_and_nat b 63 hb (by omega);rw[show(63:Nat)=2^6-1 from rfl,Nat.and_two_pow_sub_one_eq_mod]at this;exact this
 have HT1:=Hd T1;have HAND:=Hd and63;have HM:=Hd hM;have HK:=Hd hk;clear T1 hk hL h and63 hM;go_enter Tryz.func282,Tryz.ntmps282;go_wp2_with fail;refine Em 0 (Zla B b k M w) (fun ac _=>(intOf (ac.tmps.getD 7 undef)).toNat) rfl ?_ ?_
 ·rintro ac wx ⟨i,v,sz,kd,hi,hrd,hrs,honly,hsz,hkd,hf⟩
  iterate 52 (obtain⟨_,hf⟩:=hf)
  subst hf;have HRD:=Hd hrd;have HRS:=Hd hrs;have HO:=Hd honly;clear hrd hrs honly
  by_cases hik:i<k
  ·have hp:2^i≤2^2:=At (by omega);have he:2^(i+1)=2^i*2:=Nat.pow_succ _ _;obtain⟨p,hpp⟩:=eX (2^i);obtain⟨j,hj⟩:∃j,k-i=j+1:=⟨k-i-1,by omega⟩;rw[←hpp]at hp he hsz;rw[hj]at hkd;have hkd':kd=(j:Int)+1:=(by omega);have hj3:j≤3:=(by omega);subst hsz hkd';have HE:=Hd he;have HJ:=Hd hj;clear hpp he hj hkd;go_wp2_with fail;refine wp_goto ⟨rfl,⟨i+1,v,_,_,by omega,HRD.out,HRS.out,HO.out,?c1,?c2,_,_,_,_,_,_,_,_,_,_,_,_,_,_,_,_,_,_,_,_,_,_,_,_,_,_,_,_,_,_,_,_,_,_,_,_,_,_,_,_,_,_,_,_,_,_,_,_,_,_,_,_,rfl⟩,?_⟩;case c1=>rw[HE.out];omega
   case c2=>have:=HJ.out;omega
   show(j:Int).toNat<((j:Int)+1).toNat;omega
  ·obtain rfl:i=k:=(by omega);have hkd':kd=0:=(by omega);subst hkd';clear hkd hik;obtain⟨b1,o1,c1,_,_,_,rfl,_,hc0⟩:∃b1 o1 c1,0<(1:Nat)∧1≤c1∧c1≤maxLen∧v=.slice (some ⟨b1,o1,none⟩) 1 c1∧b1<B∧wx.cell? ⟨b1,o1,none⟩=some (.int .u8 (b:Nat)):=by
    obtain⟨a',cap',e1,e2,e3,e4|⟨b1,o1,e4,e5,e6⟩⟩:=HRD.out
    ·exact absurd e4.1 (by simp[bvs])
    ·exact⟨b1,o1,cap',by omega,by simpa using e2,e3,by rw[e1,e4];rfl,e5,e6 0 _ rfl⟩
   by_cases h3:i=3
   ·have e8:sz=8:=(by rw[hsz,h3];rfl);subst e8;have hF:=Hd (Fl B M 3 wx HRS.out (by omega));have el:Hid (Oh b M=(none,M,3)):=Hd (by rw[Oh,if_pos (by have:=HK.out;omega)]);clear hsz h3;go_wp2_with fail;refine hF.out.mono ?_;rintro e w2 ⟨rfl,h1,h2,-⟩;have H1:=Hd h1;have H2:=Hd h2;clear h1 h2;go_wp2_with fail;simp only[Exit.jump];go_ret2;rw[el.out];exact⟨rfl,H1.out,HO.out.trans H2.out⟩
   ·obtain⟨s,hs⟩:=eX (2^i-1);have hpi:=two_pow_pos i;have hp2:2^i≤2^2:=At (by omega);have es:sz=(s:Int)+1:=(by omega);have h2i:2^i=s+1:=(by omega);subst es;have hs3:s≤3:=(by omega);have hbk:¬b/64=3:=(by have:=HK.out;omega);have H2I:=Hd h2i;have HS:=Hd hs;have HBK:=Hd hbk;clear hsz h3 hs hpi hp2 h2i hbk
    by_cases hMs:M.length<s
    ·have hT:=Hd (Lo B M (s:Int) wx HRS.out (by omega));have el:Hid (Oh b M=(none,M,4)):=Hd (by rw[Oh,if_neg HBK.out,if_pos (by rw[←HK.out,←HS.out];exact hMs)]);go_wp2_with fail;refine hT.out.mono ?_;rintro e w2 ⟨rfl,h1,h2,-⟩;have H1:=Hd h1;have H2:=Hd h2;clear h1 h2;go_wp2_with fail;simp only[Exit.jump];go_ret2;rw[el.out];exact⟨rfl,H1.out,HO.out.trans H2.out⟩
    ·have hT:=Hd (Pv B M s wx HRS.out (by omega));go_wp2_with fail;refine hT.out.mono ?_;rintro e w2 ⟨⟨v2,rfl,hrd2⟩,h1,h2,hz⟩;have hlt:=HRS.out.lt;have hc2:=(h2.cell (p:=⟨b1,o1,none⟩) (by assumption) (by omega)).trans hc0;have H1:=Hd h1;have H2:=Hd (HO.out.trans h2);have HRD2:=Hd hrd2;clear h1 h2 hrd2 hz hlt hc0;have hand:=HAND.out;go_wp2_with (at_builtin;refine Bd rfl (.tmp 44) (.tmp 45) 28 rfl w2.heap.size 5 _ 1 Fk _ [.int .u8 ((b%64:Nat):Int)] rfl ?c1 _ (bvs (M.take s)) rfl (HRD2.out.rd.alloc _) (Fz _) ?c2 ?c3 ?_);case c1=>exact Own.full (cs:=#[.int .u8 ((b%64:Nat):Int)]) rfl lR (by unfold maxLen;simp) rfl
     case c2=>simp[bvs_len];omega
     case c3=>simp
     rintro v3 w3 hown3-hb3;have hb3':Below w2.heap.size w2 w3:=(bR.alloc lR _).trans hb3;have hM':=HM.out;have hlen3:(b%64::M.take s).length=s+1:=(by rw[List.length_cons,List.length_take];omega);have hlt3:∀n∈b%64::M.take s,n<256:=by
      intro n hn;simp only[List.mem_cons]at hn;rcases hn with rfl|hn
      ·omega
      ·exact hM' n (List.mem_of_mem_take hn)
     have hN:=Kf v3 (b%64::M.take s) w3 hown3.rd (by omega) hlt3;have hnv:=Mr (s+1) _ hlen3 hlt3;have hp4:256^(s+1)≤256^4:=Nat.pow_le_pow_right (by omega) (by omega);obtain⟨n',hn'⟩:∃n',n'=Ct (b%64::M.take s):=⟨_,rfl⟩;rw[←hn']at hN hnv;have hn4:n'≤4294967295:=(by omega);have hS:=Mi (n':Int);have el:Hid (Oh b M=if lenS (n':Nat)=s+1 then(some n',M.drop s,0)else(none,M.drop s,3)):=Hd (by
      have e1:2^(b/64)=s+1:=(by rw[←HK.out,H2I.out]);rw[Oh,if_neg HBK.out,e1,Nat.add_sub_cancel,if_neg hMs,←hn'])
     obtain⟨z,hz⟩:=eX (lenS (n':Int));rw[←hz]at hS el;have hz4:z≤4:=(by rw[hz];unfold lenS;split<;>(try split)<;>(try split)<;>omega);have H3:=Hd (H1.out.below hb3');have H4:=Hd (H2.out.trans (Only.of hb3'));have HN:=Hd hN;have HSz:=Hd hS;clear hown3 hb3 hb3' hM' hlt3 hlen3 hN hnv hp4 hn' hS hz hand;go_wp2_with fail;refine HN.out.mono ?_;rintro e w' ⟨rfl,rfl⟩;go_wp2_with fail;refine(HSz.out _).mono ?_;rintro e w' ⟨rfl,rfl⟩
     by_cases hzs:z=s+1
     ·subst hzs;go_wp2_with fail;simp only[Exit.jump];go_ret2;rw[el.out,if_pos trivial];exact⟨rfl,H3.out,H4.out⟩
     ·have hc:((z:Int) !=(s:Int)+1)=true:=(by simp;omega);have hF:=Hd (Fl B (M.drop s) 3 _ H3.out (by omega));have HZS:=Hd hzs;clear hzs;go_wp2_with fail;refine hF.out.mono ?_;rintro e w5 ⟨rfl,h1,h2,-⟩;have H5:=Hd h1;have H6:=Hd h2;clear h1 h2;go_wp2_with fail;simp only[Exit.jump];go_ret2;rw[el.out,if_neg HZS.out];exact⟨rfl,H5.out,H4.out.trans H6.out⟩
 ·intro pass;have HP:=Hd pass;clear pass;go_wp2_with fail;refine HT1.out.mono ?_;rintro e w1 ⟨⟨v1,rfl,hrd⟩,hrs,honly,hsz⟩;have HRD:=Hd hrd;have HRS:=Hd hrs;have HO:=Hd honly;obtain⟨b1,o1,c1,_,_,_,rfl,_,hc0⟩:∃b1 o1 c1,0<(1:Nat)∧1≤c1∧c1≤maxLen∧v1=.slice (some ⟨b1,o1,none⟩) 1 c1∧b1<w1.heap.size∧w1.cell? ⟨b1,o1,none⟩=some (.int .u8 (b:Nat)):=by
   rcases hrd.rd.cases with⟨_,_,_,h0⟩|⟨b1,o1,c1,h1,h2,h3,h4,h5,h6⟩
   ·simp at h0
   ·exact⟨b1,o1,c1,h1,h2,h3,h4,h5,h6 0 (by simp)⟩
  clear hrd hrs honly hsz;go_wp2_with fail;go_step3;simp only[Exit.then]
  apply_assumption
  refine HP.out _ _ ⟨0,_,_,_,by omega,HRD.out,HRS.out,HO.out,rfl,rfl,_,_,_,_,_,_,_,_,_,_,_,_,_,_,_,_,_,_,_,_,_,_,_,_,_,_,_,_,_,_,_,_,_,_,_,_,_,_,_,_,_,_,_,_,_,_,_,_,_,_,_,_,rfl⟩
def Bh (L:List Nat)(er:Nat):Option Nat×List Nat×Nat:=
 if er≠0 then(none,L,er)else match L with
  |[]=>(none,[],4)
  |b::M=>Oh b M
theorem Zh (B:Nat)(L:List Nat)(er:Nat)(w:World)(h:RS w B L er)(hL:∀n∈L,n<256):
  Calls Tryz.prog 282 #[.pointer (some ⟨B,0,none⟩)] w (Zk4 B w (Bh L er)):=by
 by_cases he:er=0
 ·subst he;cases L with
  |cons b M=>
   rw[Bh,if_neg (by simp)];exact Ur B b M w h hL
  |nil=>
   rw[Bh,if_neg (by simp)];have HT:=Hd (Lo B [] 1 w h (by simp));clear h;go_enter Tryz.func282,Tryz.ntmps282;go_wp2_with fail;go_step3;go_wp2_with fail;refine HT.out.mono ?_;rintro e w1 ⟨rfl,h1,h2,-⟩;have H1:=Hd h1;have H2:=Hd h2;clear h1 h2;go_wp2_with fail;simp only[Exit.noGoto];go_ret2;exact⟨rfl,H1.out,H2.out⟩
 ·have e0:Bh L er=(none,L,er):=(by unfold Bh;rw[if_pos he]);rw[e0];clear e0;have HT:=Hd (Pu B L er 1 w h he);have HR:=Hd h;clear h he;go_enter Tryz.func282,Tryz.ntmps282;go_wp2_with fail;go_step3;go_wp2_with fail;refine HT.out.mono ?_;rintro e w1 ⟨rfl,rfl⟩;go_wp2_with fail;simp only[Exit.noGoto];go_ret2;exact⟨rfl,HR.out,Only.refl _ _⟩
def Bw (L:List Nat)(er:Nat)(n:Int):List Nat×List Nat×Nat:=
 if er≠0 then([],L,er)else if n<0 then([],L,1)else if(L.length:Int)<n then([],L,4)else(L.take n.toNat,L.drop n.toNat,0)
def Lk (B:Nat)(w:World)(r:List Nat×List Nat×Nat)(e:Ending)(w':World):Prop:=
 ∃v,e=.returned v∧Own w' w.heap.size 5 v (bvs r.1)∧RS w' B r.2.1 r.2.2∧Only B w w'
def Zkv (B:Nat)(w:World)(r:List Nat×List Nat×Nat)(e:Ending)(w':World):Prop:=
 ∃v b,e=.returned (.tuple #[v,.bool b])∧RdK w' B v (bvs r.1)∧RS w' B r.2.1 r.2.2∧Only B w w'
theorem Us (w:World)(B:Nat):RdK w B (.slice none 0 0) (bvs []):=⟨none,0,rfl,lR,Nat.zero_le _,.inl ⟨rfl,fun _=>rfl⟩⟩
theorem Ql (B:Nat)(L:List Nat)(er:Nat)(n:Int)(w:World)(h:RS w B L er):
  Calls Tryz.prog 200 #[.pointer (some ⟨B,0,none⟩),.int .i64 n] w (Zkv B w (Bw L er n)):=by
 unfold Bw
 by_cases he:er=0
 ·subst he;rw[if_neg (by simp)]
  by_cases hn:n<0
  ·rw[if_pos hn];refine(Zeq B L n w h hn).mono ?_;rintro e w' ⟨rfl,h1,h2,-⟩;exact⟨_,_,rfl,Us _ _,h1,h2⟩
  ·rw[if_neg hn]
   by_cases hl:(L.length:Int)<n
   ·rw[if_pos hl];refine(Lo B L n w h hl).mono ?_;rintro e w' ⟨rfl,h1,h2,-⟩;exact⟨_,_,rfl,Us _ _,h1,h2⟩
   ·rw[if_neg hl];obtain⟨k,rfl⟩:∃k:Nat,n=(k:Int):=⟨n.toNat,by omega⟩;refine(Pv B L k w h (by omega)).mono ?_;rintro e w' ⟨⟨v,rfl,hr⟩,h1,h2,-⟩;exact⟨_,_,rfl,hr,h1,h2⟩
 ·rw[if_pos he];refine(Pu B L er n w h he).mono ?_;rintro e w' ⟨rfl,rfl⟩;exact⟨_,_,rfl,Us _ _,h,Only.refl _ _⟩
theorem Zbw (L:List Nat)(er:Nat)(n:Int):(Bw L er n).1.length≤L.length:=by
 unfold Bw
 split
 ·simp
 ·split
  ·simp
  ·split
   ·simp
   ·simp;omega
theorem Sk (B:Nat)(L:List Nat)(er:Nat)(n:Int)(w:World)(h:RS w B L er)(hl:L.length<1099511627776):
  Calls Tryz.prog 178 #[.pointer (some ⟨B,0,none⟩),.int .i64 n] w (Lk B w (Bw L er n)):=by
 have HT:=Hd (Ql B L er n w h);have hlen:=Zbw L er n;obtain⟨r,hr⟩:=eX (Bw L er n);rw[←hr]at HT hlen⊢;clear h hr;go_enter Tryz.func178,Tryz.ntmps178;go_wp2_with fail;refine HT.out.mono ?_;rintro e w1 ⟨v,b,rfl,h1,h2,h3⟩;have HC:=Hd (Cr v r.1 w1 h1.rd (by omega));have H2:=Hd h2;have H3:=Hd h3;clear h1 h2 h3;go_wp2_with fail;refine HC.out.mono ?_;rintro e w2 ⟨v2,rfl,hown,hb⟩;have HO:=Hd hown;have HB:=Hd hb;clear hown hb;go_wp2_with fail;go_ret;exact⟨_,rfl,HO.out.mono H3.out.size,H2.out.below HB.out,H3.out.trans (Only.of HB.out)⟩
def Bf (L:List Nat)(er:Nat):List Nat×List Nat×Nat:=
 match Bh L er with
 |(none,M,e)=>([],M,e)
 |(some n,M,e)=>Bw M e (n:Int)
theorem Zfq (b:Nat)(M:List Nat):(Oh b M).2.1.length≤M.length:=by
 unfold Oh
 split
 ·exact lR
 ·split
  ·exact lR
  ·split<;>simp
theorem Ut (L:List Nat)(er:Nat):(Bh L er).2.1.length≤L.length:=by
 unfold Bh
 split
 ·exact lR
 ·split
  ·exact lR
  ·rename_i b M
   have:=Zfq b M
   simp;omega
theorem Zbx (B:Nat)(L:List Nat)(er:Nat)(w:World)(h:RS w B L er)(hl:L.length<1099511627776)(hL:∀n∈L,n<256):
  Calls Tryz.prog 254 #[.pointer (some ⟨B,0,none⟩)] w (Lk B w (Bf L er)):=by
 have HN:=Hd (Zh B L er w h hL);have hlen:=Ut L er;unfold Bf;obtain⟨r,hr⟩:=eX (Bh L er);rw[←hr]at HN hlen⊢;clear h hr hL;obtain⟨o,M,e⟩:=r;cases o with
 |none=>
  go_enter Tryz.func254,Tryz.ntmps254;go_wp2_with fail;refine HN.out.mono ?_;rintro e' w1 ⟨rfl,h1,h2⟩;have H1:=Hd h1;have H2:=Hd h2;clear h1 h2;go_wp2_with fail;go_ret;exact⟨_,rfl,Own.nil _ _ _,H1.out,H2.out⟩
 |some n=>
  have T:=fun w h=>Sk B M e (n:Int) w h (by simp only at hlen;omega);have HT:=Hd T;clear T;go_enter Tryz.func254,Tryz.ntmps254;go_wp2_with fail;refine HN.out.mono ?_;rintro e' w1 ⟨rfl,h1,h2⟩;have H2:=Hd h2;have HT1:=Hd (HT.out w1 h1);clear h1 h2;go_wp2_with fail;refine HT1.out.mono ?_;rintro e' w2 ⟨v2,rfl,hown,h1,h3⟩;have H1:=Hd h1;have H3:=Hd h3;have HO:=Hd hown;clear h1 h3 hown;go_wp2_with fail;go_ret;exact⟨_,rfl,HO.out.mono H2.out.size,H1.out,H2.out.trans H3.out⟩
end Go.Proofs.YtfofaiommeckbaaGreat
