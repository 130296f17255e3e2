/- Walks: a reader's length. -/
import Derived.Test.YtfofaiommeckbaaGreatZSliceSoundB
import Derived.Test.YtfofaiommeckbaaGreatZSliceSound03
set_option linter.unusedVariables false
set_option maxRecDepth 100000
set_option maxHeartbeats 40000000
namespace Go.Proofs.YtfofaiommeckbaaGreat
open Go.RowKit WireM
def Of (b:Nat)(M:List Nat):Option Nat×List Nat×Nat:=
 if b/64=3 then(none,M,3)
 else if M.length<2^(b/64)-1 then(none,M,4)
 else if lenS (Ds (b%64::M.take (2^(b/64)-1)):Nat)=2^(b/64)then(some (Ds (b%64::M.take (2^(b/64)-1))),M.drop (2^(b/64)-1),0)
 else(none,M.drop (2^(b/64)-1),3)
def Zne (B b k:Nat)(M:List Nat)(w:World)(a':Act)(w':World):Prop:=
 ∃(i:Nat) (v:Value) (sz kd:Int),i≤k∧RdK w' B v (bvs [b])∧RS w' B M 0∧Only B w w'∧sz=((2^i:Nat):Int)∧kd=((k-i:Nat):Int)∧
  ∃(x1 x2 x3 x5 x8 x9 x10 x11 x12 x13 x14 x15 x16 x17 x18 x19 x20 x21 x22 x23 x24 x25 x26 x27 x28 x29 x30 x31 x32 x33 x34 x35 x36 x37 x38 x39 x40 x41 x42 x43 x44 x45 x46 x47 x48 x49 x50 x51 x52 x53 x54 x55:Value),a'= {tmps:=#[.pointer (some ⟨B,0,none⟩),x1,x2,x3,v,x5,.int .i64 sz,.int .u8 kd,x8,x9,x10,x11,x12,x13,x14,x15,x16,x17,x18,x19,x20,x21,x22,x23,x24,x25,x26,x27,x28,x29,x30,x31,x32,x33,x34,x35,x36,x37,x38,x39,x40,x41,x42,x43,x44,x45,x46,x47,x48,x49,x50,x51,x52,x53,x54,x55],defers:=[]}
def Zm9 (B:Nat)(w:World)(r:Option Nat×List Nat×Nat)(e:Ending)(w':World):Prop:=
 e=.returned (.tuple #[.int .i64 ((r.1.getD 0:Nat):Int),.bool r.1.isSome])∧RS w' B r.2.1 r.2.2∧Only B w w'
theorem Vw (B b:Nat)(M:List Nat)(w:World)(h:RS w B (b::M) 0)(hL:∀n∈b::M,n<256):
  Calls Tryz.prog 282 #[.pointer (some ⟨B,0,none⟩)] w (Zm9 B w (Of b M)):=by
 have hb:b<256:=hL b (by simp);have hM:∀n∈M,n<256:=fun n H=>hL n (by simp[H]);have T1:=Qn B (b::M) 1 w h (by simp);simp only[List.take_succ_cons,List.take_zero,List.drop_succ_cons,List.drop_zero]at T1;obtain⟨k,hk⟩:=eX (b/64);have aM:k≤3:=(by omega);have aK:(b:Int)/64=(k:Int):=(by omega);have y:bits .and .u8 (b:Int) 63=((b%64:Nat):Int):=by
  have:=u8_and_nat b 63 hb (by omega);rw[show(63:Nat)=2^6-1 from rfl,Nat.and_two_pow_sub_one_eq_mod]at this;exact this
 have aF:=Hd T1;have Q:=Hd y;have HM:=Hd hM;have Y:=Hd hk;clear T1 hk hL h y hM;go_enter Tryz.func282,Tryz.ntmps282;go_wp2_with fail;refine Fi 0 (Zne B b k M w) (fun ac _=>(intOf (ac.tmps.getD 7 undef)).toNat) rfl ?_ ?_
 ·rintro ac Z ⟨i,v,sz,kd,hi,g,u,a,d,G,hf⟩
  iterate 52 (obtain⟨_,hf⟩:=hf)
  subst hf;have A:=Hd g;have c:=Hd u;have I:=Hd a;clear g u a
  by_cases hik:i<k
  ·have hp:2^i≤2^2:=Ba (by omega);have he:2^(i+1)=2^i*2:=Nat.pow_succ _ _;obtain⟨p,J⟩:=eX (2^i);obtain⟨j,hj⟩:∃j,k-i=j+1:=⟨k-i-1,by omega⟩;rw[←J]at hp he d;rw[hj]at G;have r:kd=(j:Int)+1:=(by omega);have aO:j≤3:=(by omega);subst d r;have HE:=Hd he;have HJ:=Hd hj;clear J he hj G;go_wp2_with fail;refine wp_goto ⟨rfl,⟨i+1,v,_,_,by omega,A.out,c.out,I.out,?c1,?c2,_,_,_,_,_,_,_,_,_,_,_,_,_,_,_,_,_,_,_,_,_,_,_,_,_,_,_,_,_,_,_,_,_,_,_,_,_,_,_,_,_,_,_,_,_,_,_,_,_,_,_,_,rfl⟩,?_⟩;case c1=>rw[HE.out];omega
   case c2=>have:=HJ.out;omega
   show(j:Int).toNat<((j:Int)+1).toNat;omega
  ·obtain rfl:i=k:=(by omega);have r:kd=0:=(by omega);subst r;clear G hik;obtain⟨f,m,c1,_,_,_,rfl,_,D⟩:∃f m c1,0<(1:Nat)∧1≤c1∧c1≤maxLen∧v=.slice (some ⟨f,m,none⟩) 1 c1∧f<B∧Z.cell? ⟨f,m,none⟩=some (.int .u8 (b:Nat)):=by
    obtain⟨a',cap',e1,e2,e3,e4|⟨f,m,e4,e5,e6⟩⟩:=A.out
    ·exact absurd e4.1 (by simp[bvs])
    ·exact⟨f,m,cap',by omega,by simpa using e2,e3,by rw[e1,e4];rfl,e5,e6 0 _ rfl⟩
   by_cases h3:i=3
   ·have e8:sz=8:=(by rw[d,h3];rfl);subst e8;have hF:=Hd (Gk B M 3 Z c.out (by omega));have F:Hid (Of b M=(none,M,3)):=Hd (by rw[Of,if_pos (by have:=Y.out;omega)]);clear d h3;go_wp2_with fail;refine hF.out.mono ?_;rintro e X ⟨rfl,l,h2,-⟩;have K:=Hd l;have N:=Hd h2;clear l h2;go_wp2_with fail;simp only[Exit.jump];go_ret2;rw[F.out];exact⟨rfl,K.out,I.out.trans N.out⟩
   ·obtain⟨s,hs⟩:=eX (2^i-1);have aA:=two_pow_pos i;have aD:2^i≤2^2:=Ba (by omega);have es:sz=(s:Int)+1:=(by omega);have U:2^i=s+1:=(by omega);subst es;have aJ:s≤3:=(by omega);have V:¬b/64=3:=(by have:=Y.out;omega);have aG:=Hd U;have HS:=Hd hs;have P:=Hd V;clear d h3 hs aA aD U V
    by_cases hMs:M.length<s
    ·have hT:=Hd (Lx B M (s:Int) Z c.out (by omega));have F:Hid (Of b M=(none,M,4)):=Hd (by rw[Of,if_neg P.out,if_pos (by rw[←Y.out,←HS.out];exact hMs)]);go_wp2_with fail;refine hT.out.mono ?_;rintro e X ⟨rfl,l,h2,-⟩;have K:=Hd l;have N:=Hd h2;clear l h2;go_wp2_with fail;simp only[Exit.jump];go_ret2;rw[F.out];exact⟨rfl,K.out,I.out.trans N.out⟩
    ·have hT:=Hd (Qn B M s Z c.out (by omega));go_wp2_with fail;refine hT.out.mono ?_;rintro e X ⟨⟨v2,rfl,C⟩,l,h2,O⟩;have aC:=c.out.lt;have aN:=(h2.cell (p:=⟨f,m,none⟩) (by assumption) (by omega)).trans D;have K:=Hd l;have N:=Hd (I.out.trans h2);have L:=Hd C;clear l h2 C O aC D;have W:=Q.out;go_wp2_with (at_builtin;refine At rfl (.tmp 44) (.tmp 45) 28 rfl X.heap.size 5 _ 1 Bu _ [.int .u8 ((b%64:Nat):Int)] rfl ?c1 _ (bvs (M.take s)) rfl (L.out.rd.alloc _) (Bp _) ?c2 ?c3 ?_);case c1=>exact Own.full (cs:=#[.int .u8 ((b%64:Nat):Int)]) rfl lR (by unfold maxLen;simp) rfl
     case c2=>simp[bvs_len];omega
     case c3=>simp
     rintro v3 w3 t-S;have x:Below X.heap.size X w3:=(bR.alloc lR _).trans S;have R:=HM.out;have q:(b%64::M.take s).length=s+1:=(by rw[List.length_cons,List.length_take];omega);have o:∀n∈b%64::M.take s,n<256:=by
      intro n H;simp only[List.mem_cons]at H;rcases H with rfl|H
      ·omega
      ·exact R n (List.mem_of_mem_take H)
     have hN:=Kn v3 (b%64::M.take s) w3 t.rd (by omega) o;have T:=Mt (s+1) _ q o;have aE:256^(s+1)≤256^4:=Nat.pow_le_pow_right (by omega) (by omega);obtain⟨n',E⟩:∃n',n'=Ds (b%64::M.take s):=⟨_,rfl⟩;rw[←E]at hN T;have aI:n'≤4294967295:=(by omega);have hS:=Mp (n':Int);have F:Hid (Of b M=if lenS (n':Nat)=s+1 then(some n',M.drop s,0)else(none,M.drop s,3)):=Hd (by
      have e1:2^(b/64)=s+1:=(by rw[←Y.out,aG.out]);rw[Of,if_neg P.out,e1,Nat.add_sub_cancel,if_neg hMs,←E])
     obtain⟨z,O⟩:=eX (lenS (n':Int));rw[←O]at hS F;have aL:z≤4:=(by rw[O];unfold lenS;split<;>(try split)<;>(try split)<;>omega);have H3:=Hd (K.out.below x);have H4:=Hd (N.out.trans (Only.of x));have HN:=Hd hN;have aH:=Hd hS;clear t S x R o q hN T aE E hS O W;go_wp2_with fail;refine HN.out.mono ?_;rintro e w' ⟨rfl,rfl⟩;go_wp2_with fail;refine(aH.out _).mono ?_;rintro e w' ⟨rfl,rfl⟩
     by_cases hzs:z=s+1
     ·subst hzs;go_wp2_with fail;simp only[Exit.jump];go_ret2;rw[F.out,if_pos trivial];exact⟨rfl,H3.out,H4.out⟩
     ·have hc:((z:Int) !=(s:Int)+1)=true:=(by simp;omega);have hF:=Hd (Gk B (M.drop s) 3 _ H3.out (by omega));have aB:=Hd hzs;clear hzs;go_wp2_with fail;refine hF.out.mono ?_;rintro e w5 ⟨rfl,l,h2,-⟩;have H5:=Hd l;have H6:=Hd h2;clear l h2;go_wp2_with fail;simp only[Exit.jump];go_ret2;rw[F.out,if_neg aB.out];exact⟨rfl,H5.out,H4.out.trans H6.out⟩
 ·intro pass;have HP:=Hd pass;clear pass;go_wp2_with fail;refine aF.out.mono ?_;rintro e w1 ⟨⟨v1,rfl,g⟩,u,a,d⟩;have A:=Hd g;have c:=Hd u;have I:=Hd a;obtain⟨f,m,c1,_,_,_,rfl,_,D⟩:∃f m c1,0<(1:Nat)∧1≤c1∧c1≤maxLen∧v1=.slice (some ⟨f,m,none⟩) 1 c1∧f<w1.heap.size∧w1.cell? ⟨f,m,none⟩=some (.int .u8 (b:Nat)):=by
   rcases g.rd.cases with⟨_,_,_,h0⟩|⟨f,m,c1,l,h2,h3,h4,h5,h6⟩
   ·simp at h0
   ·exact⟨f,m,c1,l,h2,h3,h4,h5,h6 0 (by simp)⟩
  clear g u a d;go_wp2_with fail;go_step3;simp only[Exit.then]
  apply_assumption
  refine HP.out _ _ ⟨0,_,_,_,by omega,A.out,c.out,I.out,rfl,rfl,_,_,_,_,_,_,_,_,_,_,_,_,_,_,_,_,_,_,_,_,_,_,_,_,_,_,_,_,_,_,_,_,_,_,_,_,_,_,_,_,_,_,_,_,_,_,_,_,_,_,_,_,rfl⟩
def Br (L:List Nat)(er:Nat):Option Nat×List Nat×Nat:=
 if er≠0 then(none,L,er)else match L with
  |[]=>(none,[],4)
  |b::M=>Of b M
theorem Za5 (B:Nat)(L:List Nat)(er:Nat)(w:World)(h:RS w B L er)(g:∀n∈L,n<256):
  Calls Tryz.prog 282 #[.pointer (some ⟨B,0,none⟩)] w (Zm9 B w (Br L er)):=by
 by_cases he:er=0
 ·subst he;cases L with
  |cons b M=>
   rw[Br,if_neg (by simp)];exact Vw B b M w h g
  |nil=>
   rw[Br,if_neg (by simp)];have a:=Hd (Lx B [] 1 w h (by simp));clear h;go_enter Tryz.func282,Tryz.ntmps282;go_wp2_with fail;go_step3;go_wp2_with fail;refine a.out.mono ?_;rintro e f ⟨rfl,c,h2,-⟩;have k:=Hd c;have i:=Hd h2;clear c h2;go_wp2_with fail;simp only[Exit.noGoto];go_ret2;exact⟨rfl,k.out,i.out⟩
 ·have d:Br L er=(none,L,er):=(by unfold Br;rw[if_pos he]);rw[d];clear d;have a:=Hd (Qm B L er 1 w h he);have j:=Hd h;clear h he;go_enter Tryz.func282,Tryz.ntmps282;go_wp2_with fail;go_step3;go_wp2_with fail;refine a.out.mono ?_;rintro e f ⟨rfl,rfl⟩;go_wp2_with fail;simp only[Exit.noGoto];go_ret2;exact⟨rfl,j.out,Only.refl _ _⟩
def Cm (L:List Nat)(er:Nat)(n:Int):List Nat×List Nat×Nat:=
 if er≠0 then([],L,er)else if n<0 then([],L,1)else if(L.length:Int)<n then([],L,4)else(L.take n.toNat,L.drop n.toNat,0)
def Ls (B:Nat)(w:World)(r:List Nat×List Nat×Nat)(e:Ending)(w':World):Prop:=
 ∃v,e=.returned v∧Own w' w.heap.size 5 v (bvs r.1)∧RS w' B r.2.1 r.2.2∧Only B w w'
def Zmv (B:Nat)(w:World)(r:List Nat×List Nat×Nat)(e:Ending)(w':World):Prop:=
 ∃v b,e=.returned (.tuple #[v,.bool b])∧RdK w' B v (bvs r.1)∧RS w' B r.2.1 r.2.2∧Only B w w'
theorem Vx (w:World)(B:Nat):RdK w B (.slice none 0 0) (bvs []):=⟨none,0,rfl,lR,Nat.zero_le _,.inl ⟨rfl,fun _=>rfl⟩⟩
theorem Ra (B:Nat)(L:List Nat)(er:Nat)(n:Int)(w:World)(h:RS w B L er):
  Calls Tryz.prog 200 #[.pointer (some ⟨B,0,none⟩),.int .i64 n] w (Zmv B w (Cm L er n)):=by
 unfold Cm
 by_cases he:er=0
 ·subst he;rw[if_neg (by simp)]
  by_cases hn:n<0
  ·rw[if_pos hn];refine(Zgk B L n w h hn).mono ?_;rintro e w' ⟨rfl,a,h2,-⟩;exact⟨_,_,rfl,Vx _ _,a,h2⟩
  ·rw[if_neg hn]
   by_cases hl:(L.length:Int)<n
   ·rw[if_pos hl];refine(Lx B L n w h hl).mono ?_;rintro e w' ⟨rfl,a,h2,-⟩;exact⟨_,_,rfl,Vx _ _,a,h2⟩
   ·rw[if_neg hl];obtain⟨k,rfl⟩:∃k:Nat,n=(k:Int):=⟨n.toNat,by omega⟩;refine(Qn B L k w h (by omega)).mono ?_;rintro e w' ⟨⟨v,rfl,b⟩,a,h2,-⟩;exact⟨_,_,rfl,b,a,h2⟩
 ·rw[if_pos he];refine(Qm B L er n w h he).mono ?_;rintro e w' ⟨rfl,rfl⟩;exact⟨_,_,rfl,Vx _ _,h,Only.refl _ _⟩
theorem Zdg (L:List Nat)(er:Nat)(n:Int):(Cm L er n).1.length≤L.length:=by
 unfold Cm
 split
 ·simp
 ·split
  ·simp
  ·split
   ·simp
   ·simp;omega
theorem Tp (B:Nat)(L:List Nat)(er:Nat)(n:Int)(w:World)(h:RS w B L er)(t:L.length<1099511627776):
  Calls Tryz.prog 178 #[.pointer (some ⟨B,0,none⟩),.int .i64 n] w (Ls B w (Cm L er n)):=by
 have f:=Hd (Ra B L er n w h);have c:=Zdg L er n;obtain⟨r,d⟩:=eX (Cm L er n);rw[←d]at f c⊢;clear h d;go_enter Tryz.func178,Tryz.ntmps178;go_wp2_with fail;refine f.out.mono ?_;rintro e l ⟨v,b,rfl,k,h2,h3⟩;have m:=Hd (Cq v r.1 l k.rd (by omega));have p:=Hd h2;have j:=Hd h3;clear k h2 h3;go_wp2_with fail;refine m.out.mono ?_;rintro e q ⟨s,rfl,a,g⟩;have o:=Hd a;have i:=Hd g;clear a g;go_wp2_with fail;go_ret;exact⟨_,rfl,o.out.mono j.out.size,p.out.below i.out,j.out.trans (Only.of i.out)⟩
def By (L:List Nat)(er:Nat):List Nat×List Nat×Nat:=
 match Br L er with
 |(none,M,e)=>([],M,e)
 |(some n,M,e)=>Cm M e (n:Int)
theorem Zhh (b:Nat)(M:List Nat):(Of b M).2.1.length≤M.length:=by
 unfold Of
 split
 ·exact lR
 ·split
  ·exact lR
  ·split<;>simp
theorem Vy (L:List Nat)(er:Nat):(Br L er).2.1.length≤L.length:=by
 unfold Br
 split
 ·exact lR
 ·split
  ·exact lR
  ·rename_i b M
   have:=Zhh b M
   simp;omega
theorem Zdh (B:Nat)(L:List Nat)(er:Nat)(w:World)(h:RS w B L er)(v:L.length<1099511627776)(l:∀n∈L,n<256):
  Calls Tryz.prog 254 #[.pointer (some ⟨B,0,none⟩)] w (Ls B w (By L er)):=by
 have f:=Hd (Za5 B L er w h l);have a:=Vy L er;unfold By;obtain⟨r,k⟩:=eX (Br L er);rw[←k]at f a⊢;clear h k l;obtain⟨o,M,e⟩:=r;cases o with
 |none=>
  go_enter Tryz.func254,Tryz.ntmps254;go_wp2_with fail;refine f.out.mono ?_;rintro m j ⟨rfl,c,h2⟩;have g:=Hd c;have d:=Hd h2;clear c h2;go_wp2_with fail;go_ret;exact⟨_,rfl,Own.nil _ _ _,g.out,d.out⟩
 |some n=>
  have T:=fun w h=>Tp B M e (n:Int) w h (by simp only at a;omega);have p:=Hd T;clear T;go_enter Tryz.func254,Tryz.ntmps254;go_wp2_with fail;refine f.out.mono ?_;rintro m j ⟨rfl,c,h2⟩;have d:=Hd h2;have i:=Hd (p.out j c);clear c h2;go_wp2_with fail;refine i.out.mono ?_;rintro m t ⟨u,rfl,b,c,h3⟩;have g:=Hd c;have s:=Hd h3;have q:=Hd b;clear c h3 b;go_wp2_with fail;go_ret;exact⟨_,rfl,q.out.mono d.out.size,g.out,d.out.trans s.out⟩
end Go.Proofs.YtfofaiommeckbaaGreat
