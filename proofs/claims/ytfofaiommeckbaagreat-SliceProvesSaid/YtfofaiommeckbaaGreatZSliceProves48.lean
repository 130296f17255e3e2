import Derived.Test.YtfofaiommeckbaaGreatZSliceProves47
import Derived.Test.YtfofaiommeckbaaGreatZSliceProves39
open Go.Value renaming pointer → rB
open Option renaming none → rF
open List renaming getElem?_toArray → bZ, getElem?_cons_zero → cA, getElem?_cons_succ → cB, length_append → aG, length_cons → bY, length_nil → bT
set_option linter.unusedVariables false
set_option maxRecDepth 100000
set_option maxHeartbeats 40000000
namespace Go.Proofs.YtfofaiommeckbaaGreat
open Go.RowKit WalkM ShaM WireM
open Go.Maps
theorem Zm4 {n:Nat}(h:n≤65536):IntKind.u64.wrap ((n:Nat):Int)=(n:Int):=by rw[IntKind.wrap_u64];omega
theorem Znk {n:Nat}(h:n≤65536):wrap64 ((n:Nat):Int)=(n:Int):=by unfold wrap64;omega
theorem Vy (v:Value)(s:SparseD)(only:Bool)(m:Nat)(w:World)(h:SparseR w v s)(aD:SparseOk s)(hs:Dh s=true)(hr:Ay s only=true):
  Calls Tryz.prog 34 #[v,.int .u8 (m:Nat)] w fun e w'=>∃u,e=.returned u∧Rd w' u (bvs (bytesOf s m))∧Below w.heap.size w w':=by
 obtain⟨hP,d,i,hd,h1,h2,h3,h4,h5⟩:=Kb hr aD hs;have z:2^d≤65536:=Nat.le_trans (Nat.pow_le_pow_right (by omega) hd) (by decide);have aB:=Nat.two_pow_pos d;obtain⟨o,g,rfl,ho,hg⟩:=h;have k:=fun(W:World) (hw:Below w.heap.size w W)=>Zfm _ _ hP d hd (2^d-1) s.leaves s.own o g W (Ca d) (by omega) (ho.below hw lR) (hg.below hw lR);have N:=La hP d (2^d-1);have BS:bytesOf s m=([m]++(beN 4 (2^d)++beN 4 i))++putS (Ag s.op) (Ax s.sh) d (2^d-1):=by
  unfold bytesOf Le;rw[h4,h5];simp
 obtain⟨Y,hY⟩:=eX (putS (Ag s.op) (Ax s.sh) d (2^d-1));rw[←hY]at BS N;simp only[←hY]at k;rw[BS];obtain⟨x,hx⟩:=eX (2^d-1);rw[←hx]at k;rw[h1,h2]at k⊢;obtain⟨n,hn⟩:=eX (2^d);rw[←hn]at z aB hx N h3⊢;simp only[←hn]at k;have aK:=Hd (show Y.length≤800000000 by omega);have aV:((n:Nat):Int)-1=(x:Int):=(by omega);have aQ:=Znk (show x≤65536 by omega);have aW:=Zm4 z;have G:i≤65536:=Nat.le_trans (Nat.le_of_lt h3) z;have aT:=Zm4 G;have A:=Hd (fun(q:Nat) (hq:q≤65536) (W:World)=>(show Calls Tryz.prog 64 #[.int .i64 4,.int .u64 (q:Nat)] W fun e w'=>∃v,e=.returned v∧Own w' W.heap.size 5 v (bvs (beN 4 q))∧Below W.heap.size W w' from Rl 4 q W (by omega) (by omega)));have HN:=Hd (A.out n z);have HI:=Hd (A.out i G);have S:=beN_len 4 n;have U:=beN_len 4 i;obtain⟨r,aF⟩:=eX (beN 4 n);obtain⟨bi,aI⟩:=eX (beN 4 i);rw[←aF]at HN S⊢;rw[←aI]at HI U⊢;have T:=Hd (show r.length=4∧bi.length=4 from⟨S,U⟩);have aC:=Hd k;obtain⟨p,hp⟩:=eX w.heap.size;have aN:=Hd hp;have M:=Hd ((Below.refl w.heap.size w).alloc lR (.cells #[.int .i64 (n:Nat),.int .i64 (i:Nat),o,g] 25));have l:=Hd (Blk.new w 25 #[.int .i64 (n:Nat),.int .i64 (i:Nat),o,g]);clear k BS hY hx h1 h2 h3 h4 h5 hd hn ho hg aD hs hr hP aB hp N z A S U aF aI;go_enter Tryz.func34,Tryz.ntmps34;go_wp2_with fail;rw[←aN.out]at l⊢;generalize hw1:w.alloc (.cells #[.int .i64 (n:Nat),.int .i64 (i:Nat),o,g] 25)=w1 at l M⊢;clear hw1;refine Dv [eF (.int .u8 (m:Nat)),fun u w'=>Rd w' u (bvs [m]),eF (rB (some ⟨p,0,rF⟩)),eF (.int .i64 (n:Nat)),eF (.int .u64 (n:Nat)),fun u w'=>Rd w' u (bvs r),eF (rB (some ⟨p,1,rF⟩)),eF (.int .i64 (i:Nat)),eF (.int .u64 (i:Nat)),fun u w'=>Rd w' u (bvs bi),fun u w'=>Rd w' u (bvs (r++bi)),fun u w'=>Rd w' u (bvs ([m]++(r++bi))),fun u w'=>Rd w' u (bvs ([m]++(r++bi)))] (by kernel_rfl) (by kernel_rfl) (by kernel_rfl)
  (kE (bX (fun v x y h B=>Rd.below h B lR) (kE (kE (kE (bX (fun v x y h B=>Rd.below h B lR) (kE (kE (kE (bX (fun v x y h B=>Rd.below h B lR) (bX (fun v x y h B=>Rd.below h B lR) (bX (fun v x y h B=>Rd.below h B lR) (bX (fun v x y h B=>Rd.below h B lR) (Ah)))))))))))))) ?_ ?_
 ·refine gQ ?_ (gB ?_ (gQ ?_ (gQ ?_ (gQ ?_ (gB ?_ (gQ ?_ (gQ ?_ (gQ ?_ (gB ?_ (gB ?_ (gB ?_ (gB ?_ .nil))))))))))));all_goals
   intro a D aM ha O;refine⟨rfl,?_⟩;intro K Q;try have aR:a.tmps[1]?.getD undef=.int .u8 (m:Nat):=ha 1 (by kernel_rfl)
   try have aY:a.tmps[2]?.getD undef=rB (some ⟨p,0,rF⟩):=ha 2 (by kernel_rfl)
   try have aU:=eqn O.1
   try have aX:=eqn O.2.1
   have aA:=l.out.below aM l.out.lt;try(have aO:=aA.cell 0;simp only[bZ,cA]at aO)
   try(have aJ:=aA.cell 1;simp only[bZ,cA,cB]at aJ)
   try(refine Hd ?_;go_simp;exact Q _ rfl)
  ·go_simp;exact Q _ _ (Blk.rdV (cs:=[.int .u8 (m:Nat)]) (Blk.new _ _ _) (by unfold maxLen;simp)) (bR.alloc lR _)
  ·go_simp;refine(HN.out D).mono ?_;rintro e w7 ⟨u,rfl,C,j⟩;exact Q _ _ C.rd j
  ·go_simp;refine(HI.out D).mono ?_;rintro e w7 ⟨u,rfl,C,j⟩;exact Q _ _ C.rd j
  ·have o1:Rd D (a.tmps[11]?.getD undef) (bvs r):=O.1;have X:Rd D (a.tmps[15]?.getD undef) (bvs bi):=O.2.1;obtain⟨v1,b⟩:=eX (a.tmps[11]?.getD undef);obtain⟨v2,c⟩:=eX (a.tmps[15]?.getD undef);rw[←b]at o1;rw[←c]at X;have e1:=b.symm;have e2:=c.symm;clear b c;go_simp;refine(El v1 v2 r bi D o1 X (by have:=T.out;omega)).mono ?_;rintro e w7 ⟨u,rfl,C,j⟩;exact Q _ _ C.rd j
  ·have o1:Rd D (a.tmps[7]?.getD undef) (bvs [m]):=O.1;have X:Rd D (a.tmps[16]?.getD undef) (bvs (r++bi)):=O.2.1;obtain⟨v1,b⟩:=eX (a.tmps[7]?.getD undef);obtain⟨v2,c⟩:=eX (a.tmps[16]?.getD undef);rw[←b]at o1;rw[←c]at X;have e1:=b.symm;have e2:=c.symm;clear b c;go_simp;refine(El v1 v2 [m] (r++bi) D o1 X (by have:=T.out;simp only[aG,bY,bT];omega)).mono ?_;rintro e w7 ⟨u,rfl,C,j⟩;exact Q _ _ C.rd j
  ·have o0:Rd D (a.tmps[17]?.getD undef) (bvs ([m]++(r++bi))):=O.1;obtain⟨v1,b⟩:=eX (a.tmps[17]?.getD undef);rw[←b]at o0;have e1:=b.symm;clear b;go_simp;exact Q _ _ o0 bR
 ·rintro f w9 R I;have S5:Rd w9 (f 5) (bvs ([m]++(r++bi))):=I.2.2.2.2.2.2.2.2.2.2.2.2.1;clear I;simp only[Am,Az,Ex,List.filterMap_cons,List.filterMap_nil,List.contains_cons,List.contains_nil,Nat.reduceBEq,Nat.reduceAdd,Bool.or_false,Bool.or_true,cond_true,cond_false];obtain⟨u,C⟩:=eX (f 5);rw[←C]at S5⊢;have aP:=Hd S5;have P:=Hd (M.out.trans (R.mono M.out.size));have E:=Hd (l.out.below R l.out.lt);have k0:=E.out.cell 0;have k1:=E.out.cell 1;have k2:=E.out.cell 2;have k3:=E.out.cell 3;simp only[bZ,cA,cB]at k0 k1 k2 k3;clear S5 C R;go_wp2_with fail;refine(aC.out w9 P.out).mono ?_;rintro e aL ⟨u10,rfl,J,t⟩;have aH:=Hd J.rd;have aE:=Hd (aP.out.below t lR);have F:=Hd (P.out.trans (t.mono P.out.size));clear J t k0 k1 k2 k3;go_wp2_with fail;refine(El u u10 ([m]++(r++bi)) Y aL aE.out aH.out (by have:=T.out;have:=aK.out;simp only[aG,bY,bT];omega)).mono ?_;rintro e aS ⟨u11,rfl,H,L⟩;have V:=Hd H.rd;have Z:=Hd (F.out.trans (L.mono F.out.size));clear H L;go_wp2_with fail;go_ret;exact⟨_,rfl,V.out,Z.out⟩
end Go.Proofs.YtfofaiommeckbaaGreat
