import Derived.Test.YtfofaiommeckbaaGreatZSliceProves03
open Go.Value renaming slice → q9, int → rA, pointer → rB
open Option renaming none → rF
open Go.Proofs.Tryz
set_option linter.unusedVariables false
set_option maxRecDepth 100000
set_option maxHeartbeats 40000000
namespace Go.Proofs.YtfofaiommeckbaaGreat
open Go.RowKit WireM
def Zg (b:Nat)(M:List Nat):Option Nat×List Nat×Nat:=
 if b/64=3 then(none,M,3)
 else if M.length<2^(b/64)-1 then(none,M,4)
 else if lenS (Gr (b%64::M.take (2^(b/64)-1)):Nat)=2^(b/64)then(some (Gr (b%64::M.take (2^(b/64)-1))),M.drop (2^(b/64)-1),0)
 else(none,M.drop (2^(b/64)-1),3)
def Znr (B b k:Nat)(M:List Nat)(w:World)(a':Act)(w':World):Prop:=
 ∃(i:Nat) (v:Value) (sz kd:Int),i≤k∧RdK w' B v (bvs [b])∧RS w' B M 0∧Only B w w'∧sz=((2^i:Nat):Int)∧kd=((k-i:Nat):Int)∧
  ∃(x1 x2 x3 x5 x8 x9 x10 x11 x12 x13 x14 x15 x16 x17 x18 x19 x20 x21 x22 x23 x24 x25 x26 x27 x28 x29 x30 x31 x32 x33 x34 x35 x36 x37 x38 x39 x40 x41 x42 x43 x44 x45 x46 x47 x48 x49 x50 x51 x52 x53 x54 x55:Value),a'= {tmps:=#[rB (some ⟨B,0,rF⟩),x1,x2,x3,v,x5,rA .i64 sz,rA .u8 kd,x8,x9,x10,x11,x12,x13,x14,x15,x16,x17,x18,x19,x20,x21,x22,x23,x24,x25,x26,x27,x28,x29,x30,x31,x32,x33,x34,x35,x36,x37,x38,x39,x40,x41,x42,x43,x44,x45,x46,x47,x48,x49,x50,x51,x52,x53,x54,x55],defers:=[]}
def Znm (B:Nat)(w:World)(r:Option Nat×List Nat×Nat)(e:Ending)(w':World):Prop:=
 e=.returned (.tuple #[rA .i64 ((r.1.getD 0:Nat):Int),.bool r.1.isSome])∧RS w' B r.2.1 r.2.2∧Only B w w'
theorem Xb (B b:Nat)(M:List Nat)(w:World)(h:RS w B (b::M) 0)(hL:∀n∈b::M,n<256):
  Calls prog 282 #[rB (some ⟨B,0,rF⟩)] w (Znm B w (Zg b M)):=by
 have hb:b<256:=hL b (by simp);have hM:∀n∈M,n<256:=fun n G=>hL n (by simp[G]);have T1:=Rn B (b::M) 1 w h (by simp);simp only[List.take_succ_cons,List.take_zero,List.drop_succ_cons,List.drop_zero]at T1;obtain⟨k,hk⟩:=eX (b/64);have aL:k≤3:=(by omega);have aI:(b:Int)/64=(k:Int):=(by omega);have m:bits .and .u8 (b:Int) 63=((b%64:Nat):Int):=by
  have:=u8_and_nat b 63 hb (by omega);rw[show(63:Nat)=2^6-1 from rfl,Nat.and_two_pow_sub_one_eq_mod]at this;exact this
 have aA:=Hd T1;have W:=Hd m;have HM:=Hd hM;have Y:=Hd hk;clear T1 hk hL h m hM;go_enter func282,ntmps282;go_wp2_with fail;refine Fk 0 (Znr B b k M w) (fun ac _=>(intOf (ac.tmps.getD 7 undef)).toNat) rfl ?_ ?_
 ·rintro ac X ⟨i,v,sz,kd,hi,g,q,a,c,D,hf⟩
  iterate 52 (obtain⟨_,hf⟩:=hf)
  subst hf;have y:=Hd g;have d:=Hd q;have H:=Hd a;clear g q a
  by_cases hik:i<k
  ·have hp:2^i≤2^2:=Av (by omega);have he:2^(i+1)=2^i*2:=Nat.pow_succ _ _;obtain⟨p,L⟩:=eX (2^i);obtain⟨j,hj⟩:∃j,k-i=j+1:=⟨k-i-1,by omega⟩;rw[←L]at hp he c;rw[hj]at D;have o:kd=(j:Int)+1:=(by omega);have aM:j≤3:=(by omega);subst c o;have HE:=Hd he;have HJ:=Hd hj;clear L he hj D;go_wp2_with fail;refine wp_goto ⟨rfl,⟨i+1,v,_,_,by omega,y.out,d.out,H.out,?c1,?c2,_,_,_,_,_,_,_,_,_,_,_,_,_,_,_,_,_,_,_,_,_,_,_,_,_,_,_,_,_,_,_,_,_,_,_,_,_,_,_,_,_,_,_,_,_,_,_,_,_,_,_,_,rfl⟩,?_⟩;case c1=>rw[HE.out];omega
   case c2=>have:=HJ.out;omega
   show(j:Int).toNat<((j:Int)+1).toNat;omega
  ·obtain rfl:i=k:=(by omega);have o:kd=0:=(by omega);subst o;clear D hik;obtain⟨f,l,c1,_,_,_,rfl,_,F⟩:∃f l c1,0<(1:Nat)∧1≤c1∧c1≤maxLen∧v=q9 (some ⟨f,l,rF⟩) 1 c1∧f<B∧X.cell? ⟨f,l,rF⟩=some (rA .u8 (b:Nat)):=by
    obtain⟨a',cap',e1,e2,e3,e4|⟨f,l,e4,e5,e6⟩⟩:=y.out
    ·exact absurd e4.1 (by simp[bvs])
    ·exact⟨f,l,cap',by omega,by simpa using e2,e3,by rw[e1,e4];rfl,e5,e6 0 _ rfl⟩
   by_cases h3:i=3
   ·have e8:sz=8:=(by rw[c,h3];rfl);subst e8;have hF:=Hd (Gq B M 3 X d.out (by omega));have E:Hid (Zg b M=(none,M,3)):=Hd (by rw[Zg,if_pos (by have:=Y.out;omega)]);clear c h3;go_wp2_with fail;refine hF.out.mono ?_;rintro e V ⟨rfl,h1,h2,-⟩;have Q:=Hd h1;have T:=Hd h2;clear h1 h2;go_wp2_with fail;simp only[Exit.jump];go_ret2;rw[E.out];exact⟨rfl,Q.out,H.out.trans T.out⟩
   ·obtain⟨s,hs⟩:=eX (2^i-1);have aG:=two_pow_pos i;have aD:2^i≤2^2:=Av (by omega);have es:sz=(s:Int)+1:=(by omega);have N:2^i=s+1:=(by omega);subst es;have aN:s≤3:=(by omega);have I:¬b/64=3:=(by have:=Y.out;omega);have aF:=Hd N;have HS:=Hd hs;have S:=Hd I;clear c h3 hs aG aD N I
    by_cases hMs:M.length<s
    ·have hT:=Hd (My B M (s:Int) X d.out (by omega));have E:Hid (Zg b M=(none,M,4)):=Hd (by rw[Zg,if_neg S.out,if_pos (by rw[←Y.out,←HS.out];exact hMs)]);go_wp2_with fail;refine hT.out.mono ?_;rintro e V ⟨rfl,h1,h2,-⟩;have Q:=Hd h1;have T:=Hd h2;clear h1 h2;go_wp2_with fail;simp only[Exit.jump];go_ret2;rw[E.out];exact⟨rfl,Q.out,H.out.trans T.out⟩
    ·have hT:=Hd (Rn B M s X d.out (by omega));go_wp2_with fail;refine hT.out.mono ?_;rintro e V ⟨⟨v2,rfl,A⟩,h1,h2,K⟩;have aC:=d.out.lt;have aK:=(h2.cell (p:=⟨f,l,rF⟩) (by assumption) (by omega)).trans F;have Q:=Hd h1;have T:=Hd (H.out.trans h2);have P:=Hd A;clear h1 h2 A K aC F;have U:=W.out;go_wp2_with (at_builtin;refine Aj rfl (.tmp 44) (.tmp 45) 28 rfl V.heap.size 5 _ 1 Bz _ [rA .u8 ((b%64:Nat):Int)] rfl ?c1 _ (bvs (M.take s)) rfl (P.out.rd.alloc _) (Bu _) ?c2 ?c3 ?_);case c1=>exact Own.full (cs:=#[rA .u8 ((b%64:Nat):Int)]) rfl lR (by unfold maxLen;simp) rfl
     case c2=>simp[bvs_len];omega
     case c3=>simp
     rintro v3 w3 r-R;have t:Below V.heap.size V w3:=(bR.alloc lR _).trans R;have O:=HM.out;have x:(b%64::M.take s).length=s+1:=(by rw[List.length_cons,List.length_take];omega);have u:∀n∈b%64::M.take s,n<256:=by
      intro n G;simp only[List.mem_cons]at G;rcases G with rfl|G
      ·omega
      ·exact O n (List.mem_of_mem_take G)
     have Z:=Lj v3 (b%64::M.take s) w3 r.rd (by omega) u;have J:=Ro (s+1) _ x u;have aB:256^(s+1)≤256^4:=Nat.pow_le_pow_right (by omega) (by omega);obtain⟨n',C⟩:∃n',n'=Gr (b%64::M.take s):=⟨_,rfl⟩;rw[←C]at Z J;have aJ:n'≤4294967295:=(by omega);have hS:=Nv (n':Int);have E:Hid (Zg b M=if lenS (n':Nat)=s+1 then(some n',M.drop s,0)else(none,M.drop s,3)):=Hd (by
      have e1:2^(b/64)=s+1:=(by rw[←Y.out,aF.out]);rw[Zg,if_neg S.out,e1,Nat.add_sub_cancel,if_neg hMs,←C])
     obtain⟨z,K⟩:=eX (lenS (n':Int));rw[←K]at hS E;have aO:z≤4:=(by rw[K];unfold lenS;split<;>(try split)<;>(try split)<;>omega);have H3:=Hd (Q.out.below t);have H4:=Hd (T.out.trans (Only.of t));have HN:=Hd Z;have aH:=Hd hS;clear r R t O u x Z J aB C hS K U;go_wp2_with fail;refine HN.out.mono ?_;rintro e w' ⟨rfl,rfl⟩;go_wp2_with fail;refine(aH.out _).mono ?_;rintro e w' ⟨rfl,rfl⟩
     by_cases hzs:z=s+1
     ·subst hzs;go_wp2_with fail;simp only[Exit.jump];go_ret2;rw[E.out,if_pos trivial];exact⟨rfl,H3.out,H4.out⟩
     ·have hc:((z:Int) !=(s:Int)+1)=true:=(by simp;omega);have hF:=Hd (Gq B (M.drop s) 3 _ H3.out (by omega));have aE:=Hd hzs;clear hzs;go_wp2_with fail;refine hF.out.mono ?_;rintro e w5 ⟨rfl,h1,h2,-⟩;have H5:=Hd h1;have H6:=Hd h2;clear h1 h2;go_wp2_with fail;simp only[Exit.jump];go_ret2;rw[E.out,if_neg aE.out];exact⟨rfl,H5.out,H4.out.trans H6.out⟩
 ·intro pass;have HP:=Hd pass;clear pass;go_wp2_with fail;refine aA.out.mono ?_;rintro e w1 ⟨⟨v1,rfl,g⟩,q,a,c⟩;have y:=Hd g;have d:=Hd q;have H:=Hd a;obtain⟨f,l,c1,_,_,_,rfl,_,F⟩:∃f l c1,0<(1:Nat)∧1≤c1∧c1≤maxLen∧v1=q9 (some ⟨f,l,rF⟩) 1 c1∧f<w1.heap.size∧w1.cell? ⟨f,l,rF⟩=some (rA .u8 (b:Nat)):=by
   rcases g.rd.cases with⟨_,_,_,h0⟩|⟨f,l,c1,h1,h2,h3,h4,h5,h6⟩
   ·simp at h0
   ·exact⟨f,l,c1,h1,h2,h3,h4,h5,h6 0 (by simp)⟩
  clear g q a c;go_wp2_with fail;go_step3;simp only[Exit.then]
  apply_assumption
  refine HP.out _ _ ⟨0,_,_,_,by omega,y.out,d.out,H.out,rfl,rfl,_,_,_,_,_,_,_,_,_,_,_,_,_,_,_,_,_,_,_,_,_,_,_,_,_,_,_,_,_,_,_,_,_,_,_,_,_,_,_,_,_,_,_,_,_,_,_,_,_,_,_,_,rfl⟩
def Do (L:List Nat)(er:Nat):Option Nat×List Nat×Nat:=
 if er≠0 then(none,L,er)else match L with
  |[]=>(none,[],4)
  |b::M=>Zg b M
theorem Zbo (B:Nat)(L:List Nat)(er:Nat)(w:World)(h:RS w B L er)(f:∀n∈L,n<256):
  Calls prog 282 #[rB (some ⟨B,0,rF⟩)] w (Znm B w (Do L er)):=by
 by_cases he:er=0
 ·subst he;cases L with
  |cons b M=>
   rw[Do,if_neg (by simp)];exact Xb B b M w h f
  |nil=>
   rw[Do,if_neg (by simp)];have a:=Hd (My B [] 1 w h (by simp));clear h;go_enter func282,ntmps282;go_wp2_with fail;go_step3;go_wp2_with fail;refine a.out.mono ?_;rintro e i ⟨rfl,h1,h2,-⟩;have g:=Hd h1;have d:=Hd h2;clear h1 h2;go_wp2_with fail;simp only[Exit.noGoto];go_ret2;exact⟨rfl,g.out,d.out⟩
 ·have c:Do L er=(none,L,er):=(by unfold Do;rw[if_pos he]);rw[c];clear c;have a:=Hd (Rm B L er 1 w h he);have j:=Hd h;clear h he;go_enter func282,ntmps282;go_wp2_with fail;go_step3;go_wp2_with fail;refine a.out.mono ?_;rintro e i ⟨rfl,rfl⟩;go_wp2_with fail;simp only[Exit.noGoto];go_ret2;exact⟨rfl,j.out,Only.refl _ _⟩
def Dd (L:List Nat)(er:Nat)(n:Int):List Nat×List Nat×Nat:=
 if er≠0 then([],L,er)else if n<0 then([],L,1)else if(L.length:Int)<n then([],L,4)else(L.take n.toNat,L.drop n.toNat,0)
def Ms (B:Nat)(w:World)(r:List Nat×List Nat×Nat)(e:Ending)(w':World):Prop:=
 ∃v,e=.returned v∧Own w' w.heap.size 5 v (bvs r.1)∧RS w' B r.2.1 r.2.2∧Only B w w'
def Zng (B:Nat)(w:World)(r:List Nat×List Nat×Nat)(e:Ending)(w':World):Prop:=
 ∃v b,e=.returned (.tuple #[v,.bool b])∧RdK w' B v (bvs r.1)∧RS w' B r.2.1 r.2.2∧Only B w w'
theorem Xc (w:World)(B:Nat):RdK w B (q9 rF 0 0) (bvs []):=⟨none,0,rfl,lR,Nat.zero_le _,.inl ⟨rfl,fun _=>rfl⟩⟩
theorem Sb (B:Nat)(L:List Nat)(er:Nat)(n:Int)(w:World)(h:RS w B L er):
  Calls prog 200 #[rB (some ⟨B,0,rF⟩),rA .i64 n] w (Zng B w (Dd L er n)):=by
 unfold Dd
 by_cases he:er=0
 ·subst he;rw[if_neg (by simp)]
  by_cases hn:n<0
  ·rw[if_pos hn];refine(Zha B L n w h hn).mono ?_;rintro e w' ⟨rfl,h1,h2,-⟩;exact⟨_,_,rfl,Xc _ _,h1,h2⟩
  ·rw[if_neg hn]
   by_cases hl:(L.length:Int)<n
   ·rw[if_pos hl];refine(My B L n w h hl).mono ?_;rintro e w' ⟨rfl,h1,h2,-⟩;exact⟨_,_,rfl,Xc _ _,h1,h2⟩
   ·rw[if_neg hl];obtain⟨k,rfl⟩:∃k:Nat,n=(k:Int):=⟨n.toNat,by omega⟩;refine(Rn B L k w h (by omega)).mono ?_;rintro e w' ⟨⟨v,rfl,a⟩,h1,h2,-⟩;exact⟨_,_,rfl,a,h1,h2⟩
 ·rw[if_pos he];refine(Rm B L er n w h he).mono ?_;rintro e w' ⟨rfl,rfl⟩;exact⟨_,_,rfl,Xc _ _,h,Only.refl _ _⟩
theorem Zd1 (L:List Nat)(er:Nat)(n:Int):(Dd L er n).1.length≤L.length:=by
 unfold Dd
 split
 ·simp
 ·split
  ·simp
  ·split
   ·simp
   ·simp;omega
theorem Un (B:Nat)(L:List Nat)(er:Nat)(n:Int)(w:World)(h:RS w B L er)(q:L.length<1099511627776):
  Calls prog 178 #[rB (some ⟨B,0,rF⟩),rA .i64 n] w (Ms B w (Dd L er n)):=by
 have g:=Hd (Sb B L er n w h);have c:=Zd1 L er n;obtain⟨r,i⟩:=eX (Dd L er n);rw[←i]at g c⊢;clear h i;go_enter func178,ntmps178;go_wp2_with fail;refine g.out.mono ?_;rintro e l ⟨v,b,rfl,h1,h2,h3⟩;have o:=Hd (Cu v r.1 l h1.rd (by omega));have m:=Hd h2;have d:=Hd h3;clear h1 h2 h3;go_wp2_with fail;refine o.out.mono ?_;rintro e p ⟨s,rfl,a,j⟩;have k:=Hd a;have f:=Hd j;clear a j;go_wp2_with fail;go_ret;exact⟨_,rfl,k.out.mono d.out.size,m.out.below f.out,d.out.trans (Only.of f.out)⟩
def Fc (L:List Nat)(er:Nat):List Nat×List Nat×Nat:=
 match Do L er with
 |(none,M,e)=>([],M,e)
 |(some n,M,e)=>Dd M e (n:Int)
theorem Zh7 (b:Nat)(M:List Nat):(Zg b M).2.1.length≤M.length:=by
 unfold Zg
 split
 ·exact lR
 ·split
  ·exact lR
  ·split<;>simp
theorem Xd (L:List Nat)(er:Nat):(Do L er).2.1.length≤L.length:=by
 unfold Do
 split
 ·exact lR
 ·split
  ·exact lR
  ·rename_i b M
   have:=Zh7 b M
   simp;omega
theorem Zd2 (B:Nat)(L:List Nat)(er:Nat)(w:World)(h:RS w B L er)(t:L.length<1099511627776)(j:∀n∈L,n<256):
  Calls prog 254 #[rB (some ⟨B,0,rF⟩)] w (Ms B w (Fc L er)):=by
 have d:=Hd (Zbo B L er w h j);have a:=Xd L er;unfold Fc;obtain⟨r,l⟩:=eX (Do L er);rw[←l]at d a⊢;clear h l j;obtain⟨o,M,e⟩:=r;cases o with
 |none=>
  go_enter func254,ntmps254;go_wp2_with fail;refine d.out.mono ?_;rintro k i ⟨rfl,h1,h2⟩;have f:=Hd h1;have c:=Hd h2;clear h1 h2;go_wp2_with fail;go_ret;exact⟨_,rfl,Own.nil _ _ _,f.out,c.out⟩
 |some n=>
  have T:=fun w h=>Un B M e (n:Int) w h (by simp only at a;omega);have q:=Hd T;clear T;go_enter func254,ntmps254;go_wp2_with fail;refine d.out.mono ?_;rintro k i ⟨rfl,h1,h2⟩;have c:=Hd h2;have g:=Hd (q.out i h1);clear h1 h2;go_wp2_with fail;refine g.out.mono ?_;rintro k s ⟨u,rfl,b,h1,h3⟩;have f:=Hd h1;have p:=Hd h3;have m:=Hd b;clear h1 h3 b;go_wp2_with fail;go_ret;exact⟨_,rfl,m.out.mono c.out.size,f.out,c.out.trans p.out⟩
end Go.Proofs.YtfofaiommeckbaaGreat
