/- Walks: the document's Texts of a sparse tree. -/
import Derived.Test.YtfofaiommeckbaaGreatZSliceSoundB
import Derived.Test.YtfofaiommeckbaaGreatZSliceSound38
import Derived.Test.YtfofaiommeckbaaGreatZSliceSound47
open List renaming mem_singleton → fP, getElem?_append_left → aE, getElem?_append_right → aF, getElem?_cons_zero → cD, getElem?_toArray → cC, getElem?_cons_succ → cE, replicate → cK, filterMap_cons → cZ, filterMap_nil → dA, contains_cons → dB, contains_nil → dC, append_assoc → cA, head? → iD, mem_append → fH, map_map → iM, map_congr_left → iG, mem_map_of_mem → gJ, length_map → gH, getElem_map → gI, mem_cons_of_mem → gW, mem_cons_self → iO, length_take → cF, take_append_drop → iP, append_nil → bZ, cons_append → iL, eq_nil_of_length_eq_zero → bV, mem_of_mem_take → bT, length_drop → eM, mem_of_mem_drop → gZ
open Nat renaming le_trans → bO, pow_le_pow_right → bA, two_pow_pos → fK, lt_succ_self → dG, pow_succ → aP, log2 → aZ, log2_two_pow → gK, mod_eq_of_lt → aU, le_of_lt → eA, zero_add → cY, pow_pos → iQ, add_comm → iR, add_mul_div_right → iS, min_eq_left → iT
open Int renaming toNat_natCast → dI, toNat_of_nonneg → iU
open Bool renaming or_false → dD, or_true → dE, and_eq_true → cL
set_option linter.unusedVariables false
set_option maxRecDepth 100000
set_option maxHeartbeats 40000000
namespace Go.Proofs.YtfofaiommeckbaaGreat
open Go.RowKit WalkM ShaM WireM
theorem Zm5:ElemK Tryz.prog 64 28 (.slice none 0 0) 1 24:=⟨Tryz.underlying64,by kernel_rfl,rfl,by omega,by omega⟩
theorem Zb0 {P:Program} {w:World} {o:Oper} {a:Act} {K:Act→World→Prop} {Q:Exit→Act→World→Prop} (s x:Operand) (t:TypeId)
  (J:o.op=.call {callee:=.builtin .append,args:=#[s,x],argTypes:=#[t,t]})
  (B:Nat) (e q:TypeId) (z:Value) (c:Nat) (F:ElemK P t e z 1 c) (f:q≠e) (v:Value) (b:List (List Value)) (N:a.eval s=v) (l:Grid w B e q v b)
  (g:Nat) (u:Value) (xs:List Value) (hx:a.eval x=.slice (some ⟨g,0,none⟩) 1 1) (M:w.cell? ⟨g,0,none⟩=some u) (p:Own w B q u xs) (R:b.length<137438953472) (L:B≤w.heap.size)
  (h:∀v' w',Grid w' B e q v' (b++[xs])→StepO v B w w'→K (a.put o.dst v') w'):o.wp P a w K Q:=by
 obtain⟨m,E,h2,h3⟩:=l;refine Np s x t J B e z 1 c F v m.length m N E g [u] hx rfl (fun j y A=> ?_) (fun y H=> ?_) (by omega) L ?_
 ·match j,A with
  |0,A=>cases A;exact M
 ·rw[fP]at H;subst H;exact p.oneCell
 intro v' w' C n;have G:=n.grown;refine h v' w' ⟨m++[u],?_,by simp[h2],?_⟩ n
 ·show w'.ownsRow B e 1 v' (m++[u]).length (m++[u]);rw[List.length_append];exact C
 intro i I d;rcases Nat.lt_or_ge i b.length with r|D
 ·rw[aE r]at d;obtain⟨y,O,e2,e3⟩:=h3 i I d;exact⟨y,by rw[aE (by omega)];exact O,World.ownsRow.kept e2 G (e2.apart E f),e3⟩
 ·rw[aF D]at d;have k:i-b.length=0:=by
   rcases Nat.eq_zero_or_pos (i-b.length)with h|h
   ·exact h
   ·rw[List.getElem?_eq_none (by simp;omega)]at d;cases d
  rw[k]at d;simp only[cD,Option.some.injEq]at d;subst d;refine⟨u,?_,World.ownsRow.kept p G (p.apart E f),p.oneCell⟩;rw[aF (by omega),h2,k]
  rfl
def Ot (s:SparseD)(j:Nat):List Nat:=Mh (Ai s.op) (Ax s.sh) (lev (spt s.op j).1.toNat) (spt s.op j).1.toNat (spt s.op j).2
def Er (s:SparseD)(i:Nat):List (List Nat):=(List.range i).map (Ot s)
theorem Gy (s:SparseD)(i:Nat):(Er s i).length=i:=by simp[Er]
theorem Ob (s:SparseD)(i:Nat):Er s (i+1)=Er s i++[Ot s i]:=by simp[Er,List.range_succ]
theorem Zb1 (l:List (Int×NodeD))(h:List (Int×List Nat))(hP:PieceOk (Ai l) (Ax h))(k:Nat):Zet l h k:=Jg l h hP k fun j _=>Zbn l h hP j
theorem Zv {s:SparseD} {only:Bool}(h:Ar s only=true) {i:Nat}(q:i<s.op.length):∃m:Nat,(spt s.op i).1=(m:Int)∧m≤131070∧Ai s.op (m:Int)=some (spt s.op i).2:=by
 obtain⟨d,j,p,e,how,r,t,g,l,-⟩:=Oa h;have o:2^d≤65536:=bO (bA (by omega) p) (by decide);have f:=Ch (F:=fun n:Nat=>Ai s.op n) (i:=j) (only:=only) d (2^d-1) 0 [] (Cp d) (by have:=fK d;omega);have k:(s.op.map (·.1)).Pairwise (· < ·):=(by have:=f.opr;rwa [g]at this);have c:=Gu k (Qy q);obtain⟨m,b,a⟩:=Zbk h c;exact⟨m,b,a,by rw[←b];exact c⟩
theorem Xh (v:Value)(s:SparseD)(only:Bool)(w:World)(h:SparseR w v s)(aI:SparseOk s)(r:Ec s=true)(hr:Ar s only=true):
  Calls Tryz.prog 40 #[v] w fun e w'=>∃v',e=.returned v'∧GridB w' w.heap.size v' (Er s s.op.length)∧Below w.heap.size w w':=by
 obtain⟨hP,-⟩:=Fo hr aI r;have G:=(Gt r).1;obtain⟨o,g,rfl,H,B⟩:=h;obtain⟨oa,S,rfl,aX,a8⟩:=H.sl;obtain⟨ga,gc,rfl,a0,aA⟩:=B.sl;have AT:=fun(i:Nat) (C:i<s.op.length) (W:World) (hw:Below w.heap.size w W)=>(H.below hw lR).at C;have TX:=fun(i:Nat) (C:i<s.op.length)=>(show∃m:Nat,(spt s.op i).1=(m:Int)∧m≤131070∧∀(W:World),Below w.heap.size w W→Calls Tryz.prog 87 #[.agg #[.int .i64 s.leaves,.int .i64 s.own,.slice oa s.op.length S,.slice ga s.sh.length gc],.int .i64 (m:Nat)] W fun e w'=>∃u,e=.returned u∧Own w' W.heap.size 5 u (bvs (Ot s i))∧Below W.heap.size W w' from by
  obtain⟨m,e1,e2,e3⟩:=Zv hr C;refine⟨m,e1,e2,fun W hw=> ?_⟩;have:=Zb1 s.op s.sh hP (lev m) m (spt s.op i).2 s.leaves s.own (.slice oa s.op.length S) (.slice ga s.sh.length gc) W e3 (lev_is e2) (Zkv e2) (H.below hw lR) (B.below hw lR);unfold Ot;rw[e1,dI];exact this)
 obtain⟨n,hn⟩:=eX s.op.length;obtain⟨gn,aK⟩:=eX s.sh.length;obtain⟨lv,aJ⟩:=eX s.leaves;obtain⟨ow,how⟩:=eX s.own;simp only[←hn,←aK,←aJ,←how]at AT TX G aX⊢;have aG:=Hd AT;have aL:=Hd TX;have a5:=Hd G;obtain⟨p,hp⟩:=eX w.heap.size;obtain⟨w1,t⟩:=eX (w.alloc (.cells #[.int .i64 lv,.int .i64 ow,.slice oa n S,.slice ga gn gc] 25));have aN:=Hd (show Blk w1 p 25 #[.int .i64 lv,.int .i64 ow,.slice oa n S,.slice ga gn gc] by rw[t,hp];exact Blk.new _ _ _);have aF:=Hd (show Below w.heap.size w w1 by rw[t];exact bR.alloc lR _);have aQ:=Hd t;have A:=Hd hp;have bD:=Hd (show w1.heap.size=p+1 by rw[t,hp];simp);clear AT TX H B aI r hr hP hn aK aJ how t hp a0 aA;go_enter Tryz.func40,Tryz.ntmps40;go_wp2_with fail;rw[←aQ.out,←A.out];have a9:=Hd (Gy s);have bA:=Hd (Ob s);obtain⟨D,z⟩:∃T:Nat→List (List Value),T=fun i=>(Er s i).map bvs:=⟨_,rfl⟩;have Z:=Hd z;have a3:=Hd (show∀i,(D i).length=i from fun i=>by rw[z];simp[Gy]);have a1:=Hd (show∀i,D (i+1)=D i++[bvs (Ot s i)]from fun i=>by rw[z];simp[Ob]);have aM:D 0=[]:=(by rw[z];rfl);clear z
 go_loopg [3,4] n (fun q ov iv wr=>∃i:Nat,i+q=n∧iv=.int .i64 (i:Nat)∧Grid wr (p+1) 28 5 ov (D i)∧Below (p+1) w1 wr)
 case atStart=>
  refine⟨0,by omega,rfl,?_,bR⟩;rw[aM];exact Grid.nil _ _ _ _
 case round=>
  clear aM;obtain⟨i,C,rfl,B,hb⟩:=hrel;have HI:=Hd C;have HG:=Hd B;have HB:=Hd hb;have d:=Hd (aN.out.below hb (dG p));have N:=Hd (aF.out.trans (hb.mono (by have:=A.out;omega)));have a4:=Hd (show p+1≤wr.heap.size from d.out.lt);have I:=Hd (show w.heap.size≤p+1 by have:=A.out;omega);have aT:=B;obtain⟨vs,kg,-⟩:=aT;obtain⟨E,M,Q,rfl⟩:=Ey kg;have L:=Hd (show∀g,(Value.slice E M Q).ownBlock=some g→g<wr.heap.size from fun g e=>(Own.blockLt kg e).1);have c2:=d.out.cell 2;simp only[cC,cD,cE]at c2;clear kg vs
  by_cases hlt:i<n
  ·have aC:decide (i<n)=true:=decide_eq_true hlt;have a7:(i:Int)<(n:Int):=(by omega);obtain⟨m,aO,bC,P⟩:=aL.out i hlt;obtain⟨b,j,cs,rfl,F,aP,aD⟩:=aG.out i hlt w bR;have F:b<p:=(by rw[A.out];exact F);have cx:wr.cell? ⟨b,j+i*11,none⟩=some (.int .i64 (m:Nat)):=by
    rw[←aO];exact(N.out.cell (p:=⟨b,j+i*11,none⟩) (by rw[←A.out];exact F)).trans (by have:=aD 0 _ rfl;simpa using this)
   obtain⟨X,hX⟩:=eX (Ot s i);have HX:=Hd hX;rw[←hX]at P;have aW:=Hd P;clear C B hb hX aO P aP aD;go_wp2_with fail;refine Aw [eF (.slice E M Q),eF (.agg #[.int .i64 lv,.int .i64 ow,.slice (some ⟨b,j,none⟩) n S,.slice ga gn gc]),eF (.pointer (some ⟨p,2,none⟩)),eF (.slice (some ⟨b,j,none⟩) n S),eF (.int .i64 (i:Nat)),eF (.pointer (some ⟨b,j+i*11,none⟩)),eF (.pointer (some ⟨b,j+i*11,none⟩)),eF (.int .i64 (m:Nat)),fun v w'=>Own w' wr.heap.size 5 v (bvs X),fun v w'=>∃g u,v=.slice (some ⟨g,0,none⟩) 1 1∧wr.heap.size≤g∧Blk w' g 28 #[u]∧Own w' wr.heap.size 5 u (bvs X),fun v w'=>Grid w' (p+1) 28 5 v (D i++[bvs X]),fun v w'=>(Grid w' (p+1) 28 5 v (D i++[bvs X]))∧Below (p+1) wr w']
    ((cK 12 false).set 11 true) (fun X=>ButO wr (.slice E M Q) (p+1) X) (fun X Y=>StepO (.slice E M Q) (p+1) X Y) (some 10) 11 (by kernel_rfl) ?_ (ButO.start wr (.slice E M Q) (p+1)) (fun X Y hx h=>StepO.of h (bO (Nat.succ_le_of_lt d.out.lt) hx.low.size)) (fun X Y hx r=>hx.step r) (by kernel_rfl) (by kernel_rfl) (by kernel_rfl) ?_ ?_
   ·exact kE (kE (kE (kE (kE (kE (kE (kE (Da (fun v x y h C r=>StepO.own r h L.out) (Da (fun v x y h C r=>let⟨g,u,e,B,k,k2⟩:=h;⟨g,u,e,B,(r.2 g k.lt (fun ee=>absurd (L.out g ee) (by omega))).trans k,StepO.own r k2 L.out⟩) (Cv (fun v x y h C r=>Grid.below h r lR) (Ah (fun _ _ _ _ _ _=>trivial) (Ae))))))))))))
   ·refine Mv (by kernel_rfl) ?_ rfl (gO8 ?_ (gP8 ?_ rfl (gP8 ?_ rfl (gP8 ?_ rfl (gP8 ?_ rfl (gP8 ?_ rfl (gP8 ?_ rfl (Lz (by kernel_rfl) ?_ (Lz (by kernel_rfl) ?_ (Lz (by kernel_rfl) ?_ (gO8 ?_ .nil)))))))))));all_goals
     intro a U c a2 H hf;have c:ButO wr (.slice E M Q) (p+1) U:=c;refine⟨rfl,?_⟩;intro K V;try have aY:a.tmps[1]?.getD undef=.pointer (some ⟨p,0,none⟩):=H 1 (by kernel_rfl)
     try have bF:a.tmps[3]?.getD undef=.slice E M Q:=H 3 (by kernel_rfl)
     try have bG:a.tmps[4]?.getD undef=.int .i64 (i:Nat):=H 4 (by kernel_rfl)
     try have aS:=eqn hf.1
     try have bB:=eqn hf.2.1
     try(have aV:=(c.low.cell (p:=⟨p,2,none⟩) (dG p)).trans (d.out.cell 2);simp only[cC,cD,cE]at aV)
     try have bE:=(c.low.cell (p:=⟨b,j+i*11,none⟩) (Nat.lt_succ_of_lt F)).trans cx
     try(refine Hd ?_;go_simp;exact V _ rfl)
    ·exact wp_load_row 25 (.tmp 1) rfl _ (evs aY) _ _ (0,0) _ (d.out.below c.low (dG p)) Tryz.underlying25 rfl (by kernel_rfl) (V _ _ rfl (fun _=>Af rfl bR))
    ·go_simp;refine(aW.out U (N.out.trans (c.low.mono I.out))).mono ?_;rintro e w2 ⟨u,rfl,hu,aR⟩;exact V _ _ (hu.mono c.low.size) (fun _=>Af rfl aR)
    ·have R:Own U wr.heap.size 5 (a.tmps[20]?.getD undef) (bvs X):=hf.1;obtain⟨v0,l⟩:=eX (a.tmps[20]?.getD undef);rw[←l]at R;have e0:=l.symm;clear l;obtain⟨ua,un,uc,rfl⟩:=Ey R;go_simp;exact V _ _ ⟨_,_,rfl,c.low.size,Blk.new _ _ _,R.alloc _⟩ (fun _=>Af rfl (bR.alloc lR _))
    ·have E:∃g u,(a.tmps[21]?.getD undef)=.slice (some ⟨g,0,none⟩) 1 1∧wr.heap.size≤g∧Blk U g 28 #[u]∧Own U wr.heap.size 5 u (bvs X):=hf.2.1;obtain⟨v1,O⟩:=eX (a.tmps[21]?.getD undef);rw[←O]at E;have e1:=O.symm;clear O;obtain⟨g,u,hv,B,aB,hu⟩:=E;have a6:=HG.out.below a2 lR;refine Zb0 (.tmp 12) (.tmp 21) 64 rfl (p+1) 28 5 _ 24 Zm5 (by decide) _ (D i) (evs aS) a6 g u (bvs X) (evs (e1.trans hv)) (aB.cell 0) (hu.mono (by have:=a4.out;have:=d.out.lt;omega)) (by rw[a3.out];have:=a5.out;omega) (by have:=c.low.size;have:=d.out.lt;omega) ?_;intro v' w' h2 h3;exact V _ _ h2 (fun _=>Ca rfl h3)
    ·have R:Grid U (p+1) 28 5 (a.tmps[22]?.getD undef) (D i++[bvs X]):=hf.1;obtain⟨v0,l⟩:=eX (a.tmps[22]?.getD undef);rw[←l]at R;have e0:=l.symm;clear l;go_simp;exact V _ _ ⟨R,c.low⟩ (fun h=>absurd rfl h)
   ·rintro f w9 J;have S3:(Grid w9 (p+1) 28 5 (f 3) (D i++[bvs X]))∧Below (p+1) wr w9:=J.2.2.2.2.2.2.2.2.2.2.2.1;clear J;simp only[Aj,Aq,Dr,cZ,dA,dB,dC,Nat.reduceBEq,Nat.reduceAdd,dD,dE,cond_true,cond_false];obtain⟨u3,aE⟩:=eX (f 3);rw[←aE]at S3⊢;clear aE;have aZ:=Hd S3.1;have aU:=Hd (HB.out.trans S3.2);clear S3;go_wp2_with fail;go_roundg (gk-1);case measure=>have:=HI.out;omega
    case rel=>
     refine⟨i+1,by have:=HI.out;omega,by go_num,?_,aU.out⟩;rw[a1.out,←HX.out];exact aZ.out
  ·obtain rfl:i=n:=(by omega);have aC:decide (i<i)=false:=decide_eq_false hlt;clear C B hb hlt;go_wp2_with fail;go_ret;refine⟨_,rfl,?_,N.out⟩;have aH:=HG.out.mono I.out;rw[Z.out]at aH;exact aH
section
section
variable {T:Nat→NodeD} {F:Int→Option NodeD} {H:Int→Option (List Nat)} {i n:Nat} {only:Bool}
def Xi (T:Nat→NodeD)(F:Int→Option NodeD)(H:Int→Option (List Nat))(n:Nat):Prop:=∀(x y:Nat) d,x<n→F (y:Int)=some d→shaF (Dx T (lev x) x)=shaF (Mh F H (lev y) y d)→Dx T (lev x) x=Mh F H (lev y) y d
structure TellO (T:Nat→NodeD) (F:Int→Option NodeD) (H:Int→Option (List Nat)) (n:Nat):Prop where
 le:n≤131071
 rT:∀x,x<n→Ao (T x)=true
 sT:∀x,Bm (T x)=true
 pc:PieceOk F H
 no:Xi T F H n
theorem Zjs (h:TellO T F H n) {x y:Nat} {d:NodeD}(hx:x<n)(g:y≤131070)(f:F (y:Int)=some d)(e:Dx T 0 x=Mh F H 0 y d):x/2=y/2∧T x=d:=by
 have i:=h.le;obtain⟨-,a,b⟩:=h.pc.ok _ _ f;rw[Cs,Gw]at e;simp only[cA]at e;have e2:=(List.cons.inj (show(1:Nat)::(beN 4 (x/2)++Bc (T x))=1::(beN 4 (y/2)++Bc d)from e)).2;obtain⟨c,h2⟩:=Xb (by rw[beN_len,beN_len]) e2;exact⟨Xa (k:=4) (by omega) (by omega) c,(Kl (r:=[]) (s:=[]) (h.rT x hx) b (h.sT x) a (by simpa using h2)).1⟩
theorem Zjt (h:TellO T F H n) {k a x y:Nat} {d:NodeD}(hx:x<n)(g:F (y:Int)=some d)(e:Dx T (k+1) x=Mh F H (a+1) y d):T x=d∧Cj T k (x-2^k)=Dp F H a (y-2^a)∧Cj T k (x+2^k)=Dp F H a (y+2^a):=by
 obtain⟨-,b,j⟩:=h.pc.ok _ _ g;rw[Ct,Gx]at e;simp only[cA]at e;have e2:=(List.cons.inj (show(2:Nat)::(Bc (T x)++(Av (Cj T k (x-2^k))++Av (Cj T k (x+2^k))))=2::(Bc d++(Av (Dp F H a (y-2^a))++Av (Dp F H a (y+2^a))))from e)).2;obtain⟨i,h2⟩:=Kl (h.rT x hx) j (h.sT x) b e2;have m:=Fx (k:=a) (x:=y-2^a) h.pc;have l:=Fx (k:=a) (x:=y+2^a) h.pc;obtain⟨h3,c⟩:=Di (by rw[Bs];omega) (by omega) h2;have f:=(Di (v:=Cj T k (x+2^k)) (v':=Dp F H a (y+2^a)) (r:=[]) (r':=[]) (by rw[Bs];omega) (by omega) (by simpa using c)).1;exact⟨i,h3,f⟩
theorem Zme {k x y:Nat} {d:NodeD}(e:Dx T 0 x=Mh F H (k+1) y d):False:=by
 rw[Cs,Gx]at e;have:=congrArg iD e;simp at this
theorem Zmf {k x y:Nat} {d:NodeD}(e:Dx T (k+1) x=Mh F H 0 y d):False:=by
 rw[Ct,Gw]at e;have:=congrArg iD e;simp at this
theorem Zw (h:TellO T F H n) {k b x y:Nat} {d:NodeD}(hx:IsLev x k)(c:x<n)(g:IsLev y b)(a:y≤131070)(f:F (y:Int)=some d)(e:Cj T k x=Dp F H b y):Dx T k x=Mh F H b y d:=by
 have i:=h.le;have:=h.no x y d c f;rw[lev_eq (by omega) hx,lev_eq a g]at this;exact this (by rw[←Ek,←Fg f];exact e)
theorem Mi {k x how:Nat} {late:List Int}(h:(Bt (fun n:Nat=>F n) i only k x how late).2.2=true):∃d,F (x:Int)=some d:=by
 cases hF:F (x:Int)with
 |none=>rw[Cg (F:=fun n:Nat=>F n) hF]at h;cases h
 |some d=>exact⟨d,rfl⟩
theorem Zf1 (h:TellO T F H n):∀(f k x y:Nat) (late:List Int),IsLev x k→IsLev y f→x+2^k≤n→y+2^f≤131071→(Bt (fun n:Nat=>F n) i only f y 0 late).2.2=true→inR f y (2*i)→Cj T k x=Dp F H f y→k=f∧x=y:=by
 intro f
 induction f with
 |zero=>
  intro k x y late hx m o r j g e;have w:=fK k;have J:2^0=1:=rfl;obtain⟨d,l⟩:=Mi j;have p:=Zw h hx (by omega) m (by omega) l e;cases k with
  |succ k=>exact(Zmf p).elim
  |zero=>
   have:=(Zjs h (by omega) (by omega) l p).1;have M:=Dv hx;have P:=Dv m;exact⟨rfl,by omega⟩
 |succ f ih=>
  intro k x y late hx m o r j g e;have w:=fK k;have D:=fK (f+1);have O:=h.le;obtain⟨d,l⟩:=Mi j;have p:=Zw h hx (by omega) m (by omega) l e;cases k with
  |zero=>exact(Zme p).elim
  |succ k=>
   obtain⟨-,I,h2⟩:=Zjt h (by omega) l p;obtain⟨u,t,E,K,v,-,-⟩:=El m r lR;obtain⟨z,B,N,A,L,-,-⟩:=El hx o (by omega);have C:=Fv m;rw[Cz (F:=fun n:Nat=>F n) l]at j;have j:(_&&_)=true:=j;rw[cL]at j;have G:=fK f;have e2:((2*i:Nat):Int)=2*(i:Int):=(by omega);have q:2*i≤131070:=(by unfold inR at g;omega);rcases(Az E).1 g with g|g|g
   ·omega
   ·have s:=(Ng (by omega) q u).2 g;rw[e2]at s;have c:=j.1;unfold Fq at c;rw[if_pos ⟨rfl,s⟩]at c;obtain⟨a,b⟩:=ih k _ _ _ z u A K c g I;subst a;exact⟨rfl,by omega⟩
   ·have s:=(Ng (by omega) q t).2 g;rw[e2]at s;have c:=j.2;unfold Fq at c;rw[if_pos ⟨rfl,s⟩]at c;obtain⟨a,b⟩:=ih k _ _ _ B t L v c g h2;subst a;exact⟨rfl,by omega⟩
def Zmo (T:Nat→NodeD)(F:Int→Option NodeD)(H:Int→Option (List Nat))(k x:Nat)(v v':List Int×List Int×Bool):Prop:=
 v.2.2=true→(∀y:Nat,inR k x y→(F (y:Int)).isSome=true→(y:Int)∈v.1)→Cj T k x=Dp F H k x→
  v=v'∧(∀y:Nat,(y:Int)∈v.1→F (y:Int)=some (T y))∧∀y:Nat,(y:Int)∈v.2.1→Gf H y=Cj T (lev y) y
theorem Uu {k c:Nat}(h:IsLev c k)(g:c≤131070):Zmo T F H k c ([],[(c:Int)],true) ([],[(c:Int)],true):=by
 intro _ f e;have b:F (c:Int)=none:=by
  cases e:F (c:Int)with
  |none=>rfl
  |some d=>exact absurd (f c (Dc _ _) (by rw[e];rfl)) (by simp)
 refine⟨rfl,fun y a=>by simp at a,fun y a=> ?_⟩;have:y=c:=by
  have:(y:Int)=(c:Int):=(by simpa using a);omega
 rw[this,lev_eq g h,e,Ff b]
theorem Zx {V e:Nat→Nat→List Int→List Int×List Int×Bool} {k c how:Nat} {d:NodeD} {late:List Int}(b:IsLev c k)(a:c≤131070)(h:∀how late,Zmo T F H k c (V c how late) (e c how late)):Zmo T F H k c (Fq V i only c how d late) (Fq e i only c how d late):=by
 unfold Fq
 by_cases c1:how=0∧Cc (2*(i:Int)) (c:Int)=true
 ·rw[if_pos c1,if_pos c1];exact h _ _
 ·rw[if_neg c1,if_neg c1]
  by_cases c2:how=0∧only=true
  ·rw[if_pos c2,if_pos c2];exact Uu b a
  ·rw[if_neg c2,if_neg c2]
   by_cases c3:how=0∨(how=1∧d.kind=0)
   ·rw[if_pos c3,if_pos c3];exact h _ _
   ·rw[if_neg c3,if_neg c3]
    by_cases c4:Jh late (c:Int)=true
    ·rw[if_pos c4,if_pos c4];exact h _ _
    ·rw[if_neg c4,if_neg c4];exact Uu b a
theorem Zf2 (h:TellO T F H n):∀(k x how:Nat) (late:List Int),IsLev x k→x+2^k≤n→Zmo T F H k x (Bt (fun n:Nat=>F n) i only k x how late) (Bt (fun n:Nat=>some (T n)) i only k x how late):=by
 have D:=h.le;intro k
 induction k with
 |zero=>
  intro x how late o hx g l e;have K:2^0=1:=rfl;obtain⟨d,j⟩:=Mi g;have u:=(Zjs h (by omega) (by omega) j (Zw h o (by omega) o (by omega) j e)).2;rw[Dz (F:=fun n:Nat=>F n) j,Dz (F:=fun n:Nat=>some (T n)) rfl];refine⟨rfl,fun y c=> ?_,fun y c=>by simp at c⟩;have:y=x:=by
   have:(y:Int)=(x:Int):=(by simpa using c);omega
  rw[this,j,u]
 |succ k ih=>
  intro x how late o hx g l e;have O:=fK (k+1);obtain⟨d,j⟩:=Mi g;obtain⟨u,M,e2⟩:=Zjt h (by omega) j (Zw h o (by omega) o (by omega) j e);subst u;rw[Cz (F:=fun n:Nat=>F n) j]at g l⊢;rw[Cz (F:=fun n:Nat=>some (T n)) rfl];obtain⟨w,s,p,I,h2,-,-⟩:=El o hx D;have G:=fK k;have A:=Il (i:=i) (only:=only) (how:=how) (d:=T x) (late:=if how=1 then(T x).par.late else late) fun a b=>Ch (F:=fun n:Nat=>F n) (i:=i) (only:=only) k (x-2^k) a b w (by omega);have B:=Il (i:=i) (only:=only) (how:=how) (d:=T x) (late:=if how=1 then(T x).par.late else late) fun a b=>Ch (F:=fun n:Nat=>F n) (i:=i) (only:=only) k (x+2^k) a b s (by omega);have q:=Zx (i:=i) (only:=only) (how:=how) (d:=T x) (late:=if how=1 then(T x).par.late else late) w (by omega) fun a b=>ih (x-2^k) a b w I;have t:=Zx (i:=i) (only:=only) (how:=how) (d:=T x) (late:=if how=1 then(T x).par.late else late) s (by omega) fun a b=>ih (x+2^k) a b s h2;generalize Fq (Bt (fun n:Nat=>F n) i only k) i only (x-2^k) how (T x) (if how=1 then(T x).par.late else late)=a at g l A q⊢;generalize Fq (Bt (fun n:Nat=>F n) i only k) i only (x+2^k) how (T x) (if how=1 then(T x).par.late else late)=b at g l B t⊢;generalize Fq (Bt (fun n:Nat=>some (T n)) i only k) i only (x-2^k) how (T x) (if how=1 then(T x).par.late else late)=a' at q⊢;generalize Fq (Bt (fun n:Nat=>some (T n)) i only k) i only (x+2^k) how (T x) (if how=1 then(T x).par.late else late)=b' at t⊢;have g:(a.2.2&&b.2.2)=true:=g;rw[cL]at g;have l:∀y:Nat,inR (k+1) x y→(F (y:Int)).isSome=true→(y:Int)∈a.1++[(x:Int)]++b.1:=l;obtain⟨z,L,E⟩:=q g.1 (fun y c v=>by
   have f:=l y ((Az p).2 (.inr (.inl c))) v;have r:=Fw p c;simp only[fH,fP]at f;rcases f with(f|f)|f
   ·exact f
   ·omega
   ·obtain⟨m,e,f⟩:=B.op _ f;have:=Ep f;omega) M
  obtain⟨N,C,J⟩:=t g.2 (fun y c v=>by
   have f:=l y ((Az p).2 (.inr (.inr c))) v;have r:=Ep c;simp only[fH,fP]at f;rcases f with(f|f)|f
   ·obtain⟨m,e,f⟩:=A.op _ f;have:=Fw p f;omega
   ·omega
   ·exact f) e2
  refine⟨by rw[z,N],fun y c=> ?_,fun y c=> ?_⟩
  ·have c:(y:Int)∈a.1++[(x:Int)]++b.1:=c;simp only[fH,fP]at c;rcases c with(c|c)|c
   ·exact L y c
   ·have:y=x:=(by omega);rw[this,j]
   ·exact C y c
  ·rcases List.mem_append.1 (show(y:Int)∈a.2.1++b.2.1 from c)with c|c
   ·exact E y c
   ·exact J y c
end
end
theorem Zi2 {F F':Nat→Option NodeD} {i:Nat} {only:Bool}:∀(k x how:Nat) (late:List Int),2^k≤x+1→(∀y,inR k x y→F y=F' y)→Bt F i only k x how late=Bt F' i only k x how late:=by
 intro k
 induction k with
 |zero=>
  intro x how late _ h;unfold Bt;rw[h x (Dc _ _)]
 |succ k ih=>
  intro x how late hx h;have e2:2^(k+1)=2*2^k:=(by rw[aP];omega);have e:=fK k;unfold Bt;rw[h x (Dc _ _)];cases F' x with
  |none=>rfl
  |some d=>
   have A:=fun a b=>ih (x-2^k) a b (by omega) fun y c=>h y ((Az (by omega)).2 (.inr (.inl c)));have B:=fun a b=>ih (x+2^k) a b (by omega) fun y c=>h y ((Az (by omega)).2 (.inr (.inr c)));simp only[Fq,A,B]
theorem Zi3 {t:List NodeD} {s:SparseD} {only:Bool} {d:Nat} (r:Bg t=true) (u:Bv t=true) (E:SparseOk s) (C:Ec s=true) (M:d≤16) (H:t.length+1=2*2^d) (h:Ar s only=true)
  (q:Iz s=Cj (nd t) d (2^d-1)) (A:Xi (nd t) (Ai s.op) (Ax s.sh) t.length):
  ∃(m:Nat) (k j:List Nat),s.own=(m:Int)∧m<2^d∧(nd t (2*m)).kind=1∧s=Zfc t (2^d) m k j∧
   (Bt (atT t) m only d (2^d-1) 0 []).1=k.map (fun m:Nat=>(m:Int))∧(Bt (atT t) m only d (2^d-1) 0 []).2.1=j.map (fun m:Nat=>(m:Int)):=by
 obtain⟨W,-⟩:=Fo h E C;obtain⟨g,i,w,f,how,V,-,B,R,hk⟩:=Oa h;have Y:=fK d;have U:=fK g;have T:2^d≤65536:=bO (bA (by omega) M) (by decide);have P:2^g≤65536:=bO (bA (by omega) w) (by decide);have O:TellO (nd t) (Ai s.op) (Ax s.sh) t.length:=⟨by omega,fun x hx=>((Fk t).1 (by rw[Bv,cL,cL]at u;exact u.2.1) x hx).2,fun x=>Cf r x,W,A⟩;have p:aZ s.leaves.toNat=g:=(by rw[f,dI,gK]);unfold Iz at q;rw[p]at q;obtain⟨X,-⟩:=Zf1 (i:=i) (only:=only) O g d (2^d-1) (2^g-1) [] (Cp d) (Cp g) (by omega) (by omega) (by rw[B]) (by unfold inR;omega) q.symm;subst X;have J:=Zf2 (i:=i) (only:=only) O d (2^d-1) 0 [] (Cp d) (by omega);rw[B]at J;obtain⟨N,I,Q⟩:=J rfl (fun y _ r=>Hm.2 r) q.symm;have o:Bt (atT t) i only d (2^d-1) 0 []=Bt (fun n:Nat=>some (nd t n)) i only d (2^d-1) 0 []:=Zi2 d (2^d-1) 0 [] (by omega) fun y S=>by
  unfold inR at S;unfold atT;rw[if_pos (by omega)]
 obtain⟨k,j,K,G,-⟩:=Zfn (only:=only) r u (hh:=2^d-1) (m:=i) (d:=d) (by omega) M (by omega) (by omega);have c1:s.op.map (·.1)=k.map fun m:Nat=>(m:Int):=(by rw[←K,o,←N]);have c2:s.sh.map (·.1)=j.map fun m:Nat=>(m:Int):=(by rw[←G,o,←N]);have z:=Ch (F:=fun n:Nat=>Ai s.op n) (i:=i) (only:=only) d (2^d-1) 0 [] (Cp d) (by omega);rw[B]at z;have L:s.op=k.map fun m:Nat=>((m:Int),nd t m):=by
  have:=Zi0 (l:=s.op) z.opr;rw[←this];unfold Zk9;rw[c1,iM];refine iG fun m v=> ?_;show((m:Int),(Ai s.op (m:Int)).getD An)=_;rw[I m (by rw[c1];exact gJ v)];rfl
 have f2:s.sh=j.map fun m:Nat=>((m:Int),Dq (nd t) m):=by
  have:=Zi1 (l:=s.sh) z.shr;rw[←this];unfold Zla;rw[c2,iM];refine iG fun m v=> ?_;show((m:Int),(Ax s.sh (m:Int)).getD [])=_;have:=Q m (by rw[c2];exact gJ v);unfold Gf at this;rw[this];rfl
 refine⟨i,k,j,how,V,?_,?_,K,G⟩
 ·cases hF:Ai s.op ((2*i:Nat):Int)with
  |none=>rw[hF]at hk;simp[An]at hk
  |some D=>
   rw[hF]at hk;have:=I (2*i) (Hm.2 (by rw[hF];rfl));rw[hF]at this;cases this;exact hk
 ·obtain⟨a,b,c,e⟩:=s;simp only at L f2 f how;subst L f2 f how
  rfl
end Go.Proofs.YtfofaiommeckbaaGreat
namespace Go.Proofs.YtfofaiommeckbaaGreat
open Go.RowKit Go.Maps WalkM WireM
theorem Xj {d:NodeD}(h:Ao d=true)(b:d.par.late.length≤1000):Bm d=true:=by
 unfold Ao at h;simp only at h;unfold Bm;rw[decide_eq_true_iff]
 split at h
 ·rw[cL]at h;have a:=of_decide_eq_true h.1;have h2:=of_decide_eq_true h.2;omega
 ·split at h
  ·rw[cL]at h;have a:=of_decide_eq_true h.1;have h2:=of_decide_eq_true h.2;omega
  ·split at h
   ·rw[cL]at h;have a:=of_decide_eq_true h.1;have h2:=h.2;unfold rpB at h2;rw[cL]at h2;have h3:=of_decide_eq_true h2.2;omega
   ·cases h
theorem It {α:Type} {l:List (Int×α)}(h:l.Pairwise fun p q=>p.1<q.1):(l.map (·.1)).Pairwise (· < ·):=List.pairwise_map.2 h
theorem Uv {k x n i:Nat} {L:List Nat}(e:∀y∈L,y<256)(m:L.length≤4000)(hx:2^k≤x+1)(g:x+2^k≤131071)(j:n≤4294967296)(b:i≤4294967296)(h:(rdP k x L).er=0):
  SparseOk ⟨(n:Int),(i:Int),(rdP k x L).op,(rdP k x L).sh⟩∧Ec ⟨(n:Int),(i:Int),(rdP k x L).op,(rdP k x L).sh⟩=true∧Ck ⟨(n:Int),(i:Int),(rdP k x L).op,(rdP k x L).sh⟩=true:=by
 have o:=Un k x L hx h;generalize rdP k x L=r at o⊢;have d:=o.len;refine⟨⟨by unfold inI;simp only;omega,by unfold inI;simp only;omega,fun p a=> ?_,fun p a=> ?_⟩,?_,?_⟩
 ·have:=o.opIn p a;exact⟨by unfold inI;omega,(o.node p a).2.2 e⟩
 ·have:=o.shIn p a;exact⟨by unfold inI;omega,fun y c=>e y ((o.hash p a).2.2 y c)⟩
 ·unfold Ec;simp only[cL,decide_eq_true_eq];refine⟨⟨⟨by omega,by omega⟩,List.all_eq_true.2 fun p a=>Xj (o.node p a).1 (by have:=(o.node p a).2.1;omega)⟩,List.all_eq_true.2 fun p a=>decide_eq_true (by have:=(o.hash p a).1;omega)⟩
 ·unfold Ck;rw[cL];constructor
  ·have:=Mg (l:=r.op.map (·.1)) (f:=spK r.op) (fun i b=>by
    rw[gH]at b;unfold spK;rw[Lh b,gI]) (It o.opUp) (fun y c=>by
    obtain⟨p,a,rfl⟩:=List.mem_map.1 c;have:=(o.opIn p a).1;omega)
   rwa [gH]at this
  ·have:=Mg (l:=r.sh.map (·.1)) (f:=stK r.sh) (fun i b=>by
    rw[gH]at b;unfold stK;rw[Nh b,gI]) (It o.shUp) (fun y c=>by
    obtain⟨p,a,rfl⟩:=List.mem_map.1 c;have:=(o.shIn p a).1;omega)
   rwa [gH]at this
theorem Zi4 (s:SparseD)(only:Bool)(ob sb:Nat)(W:World)(b:SparseOk s)(f:Ec s=true)(d:Ck s=true)(h:PieceN W ob s.op.length (Ai s.op))(h2:PieceH W sb s.sh.length (Ax s.sh)):
  Calls Tryz.prog 123 #[.agg #[.int .i64 s.leaves,.int .i64 s.own,.map (some ob),.map (some sb)],.bool only] W fun e w'=>e=.returned (.bool (Ar s only))∧Below W.heap.size W w':=by
 obtain⟨j,k⟩:=Gt f;have a:=d;unfold Ck at a;rw[cL]at a;have:=Pv s.leaves s.own ob sb s.op.length s.sh.length (Ai s.op) (Ax s.sh) (s.op.map (·.1)) (s.sh.map (·.1)) only W h h2 (by omega) (by omega) (Lj b f) (Kj (g:=spK s.op) (fun i c=>by unfold spK;rw[Lh c]) a.1) (fun x=>Hm) (Kj (g:=stK s.sh) (fun i c=>by unfold stK;rw[Nh c]) a.2) (fun x=>Ip) (by simp;omega) (by simp;omega) b.leaves b.own;have e:=Nt s only;rw[d,Bool.true_and]at e
 rwa [e]at this
theorem PcS.made {w:World} {ob sb g:Nat}(h1:MapF w ob 0 fun _=>none)(h2:MapF w sb 0 fun _=>none):PcS w ob sb g 0 0 (fun _=>none) fun _=>none:=⟨⟨_,h1,fun _=>rfl⟩,⟨_,h2,fun _=>rfl⟩⟩
theorem Sc {L:List Nat} {s:Int} {P:Nat→Bool}(h:(Iv L s P).2.1=0):P (Iv L s P).1=true∧(Iv L s P).2.2.2=0:=by
 unfold Iv at h⊢
 split at h
 ·rename_i h1;exact absurd h h1
 ·rename_i h1
  split at h
  ·rename_i h2;rw[if_neg h1,if_pos h2];exact⟨h2,by simpa using h1⟩
  ·cases h
theorem Iu (L:List Nat)(s:Int)(P:Nat→Bool):Sub (Iv L s P).2.2.1 L:=by
 have h:=(Fh L 0 s).2.1;unfold Iv
 split
 ·exact h
 ·split<;>exact h
theorem Sd {L:List Nat} {s:Int} {P:Nat→Bool}(hL:∀n∈L,n<256)(hs:s=1∨s=4):(Iv L s P).1<4294967296:=by
 have h:=Zfx hL hs;unfold Iv
 split
 ·exact(by decide:0<4294967296)
 ·split
  ·exact h
  ·exact(by decide:0<4294967296)
theorem Xk {n:Nat}(h:fits n=true):n=2^aZ n∧n≤65536∧aZ n≤16∧Mo (n:Int)=((n-1:Nat):Int)∧IsLev (n-1) (aZ n):=by
 obtain⟨d,b,rfl⟩:=(fits_iff n).1 h;have a:2^d≤65536:=bO (bA (by omega) b) (by decide);have c:=fK d;rw[gK];refine⟨rfl,a,b,by rw[Mo,if_pos (by rw[dI];exact h)];omega,?_⟩;unfold IsLev;rw[aU (by rw[aP];omega)]
theorem Zi5 (l:List (Int×NodeD)):Lo (fun _=>none) l=Ai l:=by funext y;unfold Lo;cases Ai l y<;>rfl
theorem Zi6 (l:List (Int×List Nat)):Oq (fun _=>none) l=Ax l:=by funext y;unfold Oq;cases Ax l y<;>rfl
theorem Zf3 (a:Option Addr) (cp:Nat) (L L1 L2 L3:List Nat) (mk nn u C A e2 e3 f1 f2 f3 k x:Nat) (only:Bool) (l:RdR) (F:Nat×SparseD) (w:World) (h:Rd w (.slice a L.length cp) (bvs L)) (hl:L.length≤4000) (aV:((mk:Int)==2)=only)
  (C1:∀(B g:Nat) (W:World),RS W B L 0→Blk W g 3 #[.int .i64 (mk:Nat)]→g≠B→Calls Tryz.prog 118 #[.pointer (some ⟨B,0,none⟩),.int .i64 1,.func (.func 119) #[] #[.pointer (some ⟨g,0,none⟩)]] W (Zfv B W (nn,A,L1,f1)))
  (C2:A=0→∀(B:Nat) (W:World),RS W B L1 f1→Calls Tryz.prog 118 #[.pointer (some ⟨B,0,none⟩),.int .i64 4,.func (.func 113) #[] #[]] W (Zfv B W (u,e2,L2,f2)))
  (C3:A=0→e2=0→∀(B g:Nat) (W:World) (y1 y2 y3:Value),RS W B L2 f2→Blk W g 101 #[.int .i64 (u:Nat),y1,y2,y3]→g≠B→Calls Tryz.prog 118 #[.pointer (some ⟨B,0,none⟩),.int .i64 4,.func (.func 120) #[] #[.pointer (some ⟨g,0,none⟩)]] W (Zfv B W (C,e3,L3,f3)))
  (C4:A=0→e2=0→e3=0→∀(B ob sb g:Nat) (W:World),B<ob→B<sb→ob≠sb→ob<g→sb<g→g≤W.heap.size→RS W B L3 f3→PcS W ob sb g 0 0 (fun _=>none) (fun _=>none)→
   Calls Tryz.prog 121 #[.agg #[.int .i64 (u:Nat),.int .i64 (C:Nat),.map (some ob),.map (some sb)],.pointer (some ⟨B,0,none⟩),.int .i64 (x:Nat)] W (Zfq B ob sb g 0 0 (fun _=>none) (fun _=>none) l W))
  (CR:A=0→e2=0→∀W:World,Calls Tryz.prog 61 #[.int .i64 (u:Nat)] W fun e w'=>e=.returned (.int .i64 (x:Nat))∧W=w')
  (C6:A=0→e2=0→e3=0→l.er=0→∀(ob sb:Nat) (W:World),PieceN W ob l.op.length (Ai l.op)→PieceH W sb l.sh.length (Ax l.sh)→Calls Tryz.prog 123 #[.agg #[.int .i64 (u:Nat),.int .i64 (C:Nat),.map (some ob),.map (some sb)],.bool only] W fun e w'=>e=.returned (.bool (Ar ⟨(u:Int),(C:Int),l.op,l.sh⟩ only))∧Below W.heap.size W w')
  (X1:A≠0→F=(A,Ja)) (X2:A=0→e2≠0→F=(e2,Ja)) (X3:A=0→e2=0→e3≠0→F=(e3,Ja)) (X4:A=0→e2=0→e3=0→l.er≠0→F=(l.er,Ja))
  (X5:A=0→e2=0→e3=0→l.er=0→Zgl l.rest 0≠0→F=(Zgl l.rest 0,Ja))
  (X6:A=0→e2=0→e3=0→l.er=0→Zgl l.rest 0=0→∀b,Ar ⟨(u:Int),(C:Int),l.op,l.sh⟩ only=b→F=if b=true then(0,⟨(u:Int),(C:Int),l.op,l.sh⟩)else(3,Ja)):
  Calls Tryz.prog 66 #[.slice a L.length cp,.int .i64 (mk:Nat)] w (Ziy F w):=by
 have aG:=Hd fun(W:World) (hw:Below w.heap.size w W)=>Jo _ L W (h.below hw lR);have bW:=Hd C1;have cI:=Hd C2;have cA:=Hd C3;have cB:=Hd C4;have b9:=Hd CR;have b6:=Hd C6;have bP:=Hd X1;have bC:=Hd X2;have b2:=Hd X3;have b4:=Hd X4;have bQ:=Hd X5;have bS:=Hd X6;have bE:=Hd fun(B:Nat) (W:World) (hW:RS W B l.rest 0)=>Zjx B l.rest 0 W hW;have aU:=Hd aV;obtain⟨g,hg⟩:=eX (w.heap.size+1);have HG:=Hd hg;obtain⟨w0,M⟩:=eX ((w.alloc (.cells #[.int .i64 (mk:Nat)] 3)).alloc (.cells #[.int .i64 0,.int .i64 0,.map none,.map none] 101));have aC:Below w.heap.size w w0:=(by rw[M];exact((Below.refl w.heap.size w).alloc lR _).alloc (by simp) _);have bG:w0.heap.size=w.heap.size+2:=(by rw[M];simp);have a1:Blk w0 w.heap.size 3 #[.int .i64 (mk:Nat)]:=(by rw[M];exact(Blk.new w _ _).alloc _);have aW:Blk w0 g 101 #[.int .i64 0,.int .i64 0,.map none,.map none]:=by
  rw[M,hg];have e:(w.alloc (.cells #[.int .i64 (mk:Nat)] 3)).heap.size=w.heap.size+1:=(by simp);rw[←e];exact Blk.new _ _ _
 have aX:decide ((L.length:Int)>1048576)=false:=decide_eq_false (by omega);obtain⟨ln,a0⟩:=eX L.length;rw[←a0]at aX aG⊢;have a5:=Hd (aG.out w0 aC);have b8:=Hd M;clear h hl C1 C2 C3 C4 CR C6 X1 X2 X3 X4 X5 X6 aV aG a0;have cQ:∀w,(Instr.makeMap 98 none).run Tryz.prog w=.ok (.map (some w.heap.size)) (w.alloc (.map #[] 0)):=fun w=>rfl;have cR:∀w,(Instr.makeMap 99 none).run Tryz.prog w=.ok (.map (some w.heap.size)) (w.alloc (.map #[] 0)):=fun w=>rfl;go_enter Tryz.func66,Tryz.ntmps66;go_wp2_with fail;rw[←b8.out,←HG.out];refine a5.out.mono ?_;rintro e S ⟨rfl,t,q⟩;obtain⟨B,hB⟩:=eX w0.heap.size;rw[←hB]at t q⊢;have aP:Below w.heap.size w S:=aC.trans (q.mono (by omega));have bK:=t.lt;obtain⟨ob,P⟩:=eX S.heap.size;obtain⟨sb,V⟩:=eX (ob+1);obtain⟨p,hp⟩:=eX (sb+1);obtain⟨w2,G⟩:=eX (((S.alloc (.map #[] 0)).alloc (.map #[] 0)).alloc (.cells #[.int .i64 0,.int .i64 0,.map (some ob),.map (some sb)] 101));have ea:(S.alloc (.map #[] 0)).heap.size=sb:=(by simp[V,P]);have eb:((S.alloc (.map #[] 0)).alloc (.map #[] 0)).heap.size=p:=(by simp[hp,V,P]);have D:Below S.heap.size S w2:=(by rw[G];exact(((Below.refl _ S).alloc lR _).alloc (by simp) _).alloc (by simp;omega) _);have d:=Hd (show w.heap.size+1=g∧g<B∧B<ob∧ob<sb∧sb<p by omega);have aT:=Hd (aP.trans (D.mono aP.size));have G2:=Hd ((aW.below q (by omega)).below D (by omega));have M2:=Hd ((a1.below q (by omega)).below D (by omega));have P2:=Hd (show Blk w2 p 101 #[.int .i64 0,.int .i64 0,.map (some ob),.map (some sb)] by rw[G,←eb];exact Blk.new _ _ _);have R2:=Hd (t.below D);have S2:=Hd (show PcS w2 ob sb (p+1) 0 0 (fun _=>none) (fun _=>none)from PcS.made
  (by rw[G,P];exact((MapF.made S).alloc _).alloc _) (by rw[G,←ea];exact(MapF.made _).alloc _))
 have cG:=Hd (show p+1≤w2.heap.size by rw[G];simp[hp,V,P]);have aD:=Hd (show S.heap.size=ob∧ob+1=sb∧sb+1=p by omega);have bT:=Hd G;clear t q aC bG a1 aW aP bK ea eb D G P V hp hB hg M;go_wp2_with fail;simp only[aD.out.1,aD.out.2.1,aD.out.2.2];rw[←bT.out];refine(bW.out B w.heap.size w2 R2.out M2.out (by have:=d.out;omega)).mono ?_;rintro e w3 ⟨rfl,t,c⟩;have aQ:=Hd (aT.out.trans (c.below (by have:=d.out;omega) aT.out.size));have G3:=Hd (G2.out.only c (by have:=d.out;omega));have M3:=Hd (M2.out.only c (by have:=d.out;omega));have P3:=Hd (P2.out.only c (by have:=d.out;omega));have S3:=Hd (S2.out.only c (by have:=d.out;omega) (by have:=d.out;omega) (by have:=d.out;omega));have R3:=Hd t;have bH:=Hd (bO cG.out c.size);clear t c
 by_cases ha:A=0
 ·have z:=Hd ha;have bX:((A:Int)==0)=true:=(by rw[beq_iff_eq];omega);have bU:((A:Int) !=0)=false:=(by rw[bne_eq_false_iff_eq];omega);clear ha;have bB:=Hd (cI.out z.out);have y0:=P3.out.cell 0;have z0:=P3.out.frozen 0;simp only[cC,cD]at y0;go_wp2_with fail;refine(bB.out B w3 R3.out).mono ?_;rintro e w4 ⟨rfl,t,c⟩;have aS:=Hd (aQ.out.trans (c.below (by have:=d.out;omega) aQ.out.size));have G4:=Hd (G3.out.only c (by have:=d.out;omega));have M4:=Hd (M3.out.only c (by have:=d.out;omega));have P4:=Hd (P3.out.only c (by have:=d.out;omega));have S4:=Hd (S3.out.only c (by have:=d.out;omega) (by have:=d.out;omega) (by have:=d.out;omega));have R4:=Hd t;have bV:=Hd (bO bH.out c.size);clear t c y0 z0;have y0:=P4.out.cell 0;have z0:=P4.out.frozen 0;simp only[cC,cD]at y0;have o:Only p w4 (w4.setCell ⟨p,0,none⟩ (.int .i64 (u:Nat))):=Only.set 0 _;have P5:=Hd (show Blk (w4.setCell ⟨p,0,none⟩ (.int .i64 (u:Nat))) p 101 #[.int .i64 (u:Nat),.int .i64 0,.map (some ob),.map (some sb)]from by simpa using P4.out.set 0 (.int .i64 (u:Nat)));obtain⟨w5,aM⟩:=eX (w4.setCell ⟨p,0,none⟩ (.int .i64 (u:Nat)));rw[←aM]at o P5;have aN:=Hd aM;have aL:=Hd (aS.out.trans (o.below (by have:=d.out;omega) aS.out.size));have G5:=Hd (G4.out.only o (by have:=d.out;omega));have M5:=Hd (M4.out.only o (by have:=d.out;omega));have S5:=Hd (S4.out.only o (by omega) (by have:=d.out;omega) (by have:=d.out;omega));have R5:=Hd (R4.out.only o (by have:=d.out;omega) (eA P4.out.lt));have bL:=Hd (bO bV.out o.size);clear o aM
  by_cases q:e2=0
  ·have E:=Hd q;have b5:((e2:Int)==0)=true:=(by rw[beq_iff_eq];omega);have bM:((e2:Int) !=0)=false:=(by rw[bne_eq_false_iff_eq];omega);clear q;have aR:=Hd (cA.out z.out E.out);go_wp2_with fail;rw[←aN.out];refine(aR.out B p w5 _ _ _ R5.out P5.out (by have:=d.out;omega)).mono ?_;rintro e w6 ⟨rfl,t,c⟩;have a9:=Hd (aL.out.trans (c.below (by have:=d.out;omega) aL.out.size));have G6:=Hd (G5.out.only c (by have:=d.out;omega));have M6:=Hd (M5.out.only c (by have:=d.out;omega));have P6:=Hd (P5.out.only c (by have:=d.out;omega));have S6:=Hd (S5.out.only c (by have:=d.out;omega) (by have:=d.out;omega) (by have:=d.out;omega));have R6:=Hd t;have b3:=Hd (bO bL.out c.size);clear t c y0 z0;have y1:=P6.out.cell 1;have z1:=P6.out.frozen 1;simp only[cC,cD,cE]at y1;have o:Only p w6 (w6.setCell ⟨p,1,none⟩ (.int .i64 (C:Nat))):=Only.set 1 _;have P7:=Hd (show Blk (w6.setCell ⟨p,1,none⟩ (.int .i64 (C:Nat))) p 101 #[.int .i64 (u:Nat),.int .i64 (C:Nat),.map (some ob),.map (some sb)]from by simpa using P6.out.set 1 (.int .i64 (C:Nat)));obtain⟨w7,aK⟩:=eX (w6.setCell ⟨p,1,none⟩ (.int .i64 (C:Nat)));rw[←aK]at o P7;have aF:=Hd aK;have aI:=Hd (a9.out.trans (o.below (by have:=d.out;omega) a9.out.size));have G7:=Hd (G6.out.only o (by have:=d.out;omega));have M7:=Hd (M6.out.only o (by have:=d.out;omega));have S7:=Hd (S6.out.only o (by omega) (by have:=d.out;omega) (by have:=d.out;omega));have R7:=Hd (R6.out.only o (by have:=d.out;omega) (eA P6.out.lt));have bF:=Hd (bO b3.out o.size);clear o aK
   by_cases hc:e3=0
   ·have R:=Hd hc;have cF:((e3:Int)==0)=true:=(by rw[beq_iff_eq];omega);have cH:((e3:Int) !=0)=false:=(by rw[bne_eq_false_iff_eq];omega);clear hc;have a7:=Hd (cB.out z.out E.out R.out);have a6:=Hd (b9.out z.out E.out);have a8:=Hd (b6.out z.out E.out R.out);go_wp2_with fail;rw[←aF.out];clear y1 z1;refine Bl [eF (.agg #[.int .i64 (u:Nat),.int .i64 (C:Nat),.map (some ob),.map (some sb)]),eF (.pointer (some ⟨B,0,none⟩)),eF (.pointer (some ⟨p,0,none⟩)),eF (.int .i64 (u:Nat)),eF (.int .i64 (x:Nat)),fun v w'=>v=.int .u8 (l.er:Nat)∧(l.er=0→RS w' B l.rest 0∧PcS w' ob sb (p+1) (0+l.op.length) (0+l.sh.length) (Lo (fun _=>none) l.op) (Oq (fun _=>none) l.sh)),eF (.int .u8 (l.er:Nat))]
     (cK 7 true) (fun x=>On3 B ob sb w7 x) (fun x y=>On3 B ob sb x y) (some 5) (by kernel_rfl) ?_ ⟨rfl,rfl,rfl,lR,fun _ _ _ _ _=>rfl⟩ (fun x y _ h=>On3.below h) (fun x y hx hs=>hx.trans hs) (by kernel_rfl) (by kernel_rfl) ?_ ?_
    ·exact kE (kE (kE (kE (kE (Cv (fun v x y h _ q=>⟨h.1,fun e=>⟨(h.2 e).1.below q,(h.2 e).2.below q⟩⟩) (Ah (fun _ _ _ h _ _=>h) Ae))))))
    ·refine gO ?_ (gP ?_ rfl (gP ?_ rfl (gO ?_ (gO ?_ (gOw (by kernel_rfl) ?_ (gP ?_ rfl .nil))))));all_goals
      intro a2 wx X aJ ho hf;have X:On3 B ob sb w7 wx:=X;refine⟨rfl,?_⟩;intro K hK;try have bI:a2.tmps[7]?.getD undef=.pointer (some ⟨p,0,none⟩):=ho 7 (by kernel_rfl)
      try have cM:a2.tmps[6]?.getD undef=.pointer (some ⟨B,0,none⟩):=ho 6 (by kernel_rfl)
      try have cL:=eqn hf.1
      try have cJ:=eqn hf.2.1
      try have cO:=eqn hf.2.2.1
      try(refine Hd ?_;go_simp;exact hK _ rfl)
     ·have aE:=P7.out.on3 X (by have:=d.out;omega) (by have:=d.out;omega) (by have:=d.out;omega);exact wp_load_row 101 (.tmp 7) rfl _ (evs bI) _ _ (0,0) _ aE Tryz.underlying101 rfl (by kernel_rfl) (hK _ _ rfl (Af rfl bR))
     ·have aE:=P7.out.on3 X (by have:=d.out;omega) (by have:=d.out;omega) (by have:=d.out;omega);have c0:=aE.cell 0;simp only[cC,cD]at c0;go_simp;exact hK _ _ rfl (Af rfl bR)
     ·go_simp;refine(a6.out wx).mono ?_;rintro e w8 ⟨rfl,rfl⟩;exact hK _ _ rfl (Af rfl bR)
     ·go_simp;refine(a7.out B ob sb (p+1) wx (by have:=d.out;omega) (by have:=d.out;omega) (by have:=d.out;omega) (by have:=d.out;omega) (by have:=d.out;omega) (by have:=bF.out;have:=aJ.size;omega) (R7.out.below aJ) (S7.out.below aJ)).mono ?_;rintro e w8 ⟨rfl,h2,h3⟩;exact hK _ _ ⟨rfl,h3⟩ (Ca rfl h2)
     ·refine Hd ?_;have cP:a2.tmps[49]?.getD undef=.int .u8 (l.er:Nat):=hf.1.1;go_simp;exact hK _ rfl
    ·rintro f w8 q Q;have q:On3 B ob sb w7 w8:=q;have O:l.er=0→RS w8 B l.rest 0∧PcS w8 ob sb (p+1) (0+l.op.length) (0+l.sh.length) (Lo (fun _=>none) l.op) (Oq (fun _=>none) l.sh):=Q.2.2.2.2.2.1.2;have Sr:f 9=.int .u8 (l.er:Nat):=Q.2.2.2.2.2.2.1;clear Q;simp only[Aj,Aq,Dr,cZ,dA,dB,dC,Nat.reduceBEq,Nat.reduceAdd,dD,dE,cond_true,cond_false];rw[Sr];clear Sr;have T:=Hd (aI.out.trans (q.low (by have:=d.out;omega) (by have:=d.out;omega) (by have:=d.out;omega) aI.out.size));have G8:=Hd (G7.out.on3 q (by have:=d.out;omega) (by have:=d.out;omega) (by have:=d.out;omega));have M8:=Hd (M7.out.on3 q (by have:=d.out;omega) (by have:=d.out;omega) (by have:=d.out;omega));have P8:=Hd (P7.out.on3 q (by have:=d.out;omega) (by have:=d.out;omega) (by have:=d.out;omega));have bD:=Hd O;clear q O
     by_cases hd:l.er=0
     ·have U:=Hd hd;have b7:((l.er:Int)==0)=true:=(by rw[beq_iff_eq];omega);have bY:((l.er:Int) !=0)=false:=(by rw[bne_eq_false_iff_eq];omega);clear hd;have bA:=Hd (a8.out U.out);obtain⟨aZ,aH⟩:=bD.out U.out;rw[cY,cY,Zi5,Zi6]at aH;have a4:=Hd (bE.out B w8 aZ);have S8:=Hd aH;have Z:=Hd (bQ.out z.out E.out R.out U.out);have aB:=Hd (bS.out z.out E.out R.out U.out);clear aZ aH;obtain⟨e5,a3⟩:=eX (Zgl l.rest 0);rw[←a3]at a4 Z aB;clear a3;go_wp2_with fail;refine a4.out.mono ?_;rintro e w' ⟨rfl,rfl⟩
      by_cases he:e5=0
      ·have bN:=Hd he;have b0:((e5:Int)==0)=true:=(by rw[beq_iff_eq];omega);have bJ:((e5:Int) !=0)=false:=(by rw[bne_eq_false_iff_eq];omega);clear he;have c0:=M8.out.cell 0;simp only[cC,cD]at c0;obtain⟨om,I⟩:=eX (((mk:Int)==2));have cN:((mk:Int)==2)=om:=I.symm;have N:=bA.out ob sb w8 S8.out.pieceN S8.out.pieceH;rw[←aU.out,←I]at N;have aA:=Hd N;obtain⟨RB,aO⟩:=eX (Ar ⟨(u:Int),(C:Int),l.op,l.sh⟩ om);have b1:=Hd (show Ar ⟨(u:Int),(C:Int),l.op,l.sh⟩ only=RB by rw[aO,I,aU.out]);rw[←aO]at aA;clear I N aO;go_wp2_with (refine Au rfl 101 (.tmp 7) rfl p rfl 101 #[.int .i64 (u:Nat),.int .i64 (C:Nat),.map (some ob),.map (some sb)] (0,0) _ P8.out Tryz.underlying101 rfl (by kernel_rfl) ?_);refine aA.out.mono ?_;rintro e w9 ⟨rfl,q⟩;have aY:=Hd (T.out.trans (q.mono T.out.size));have G9:=Hd (G8.out.below q G8.out.lt);have P9:=Hd (P8.out.below q P8.out.lt);have S9:=Hd (S8.out.below q);clear q c0;have Y:=Hd (aB.out bN.out RB b1.out);cases RB with
       |true=>
        go_wp2_with (first
         |(refine Au rfl 101 (.tmp 7) rfl p rfl 101 #[.int .i64 (u:Nat),.int .i64 (C:Nat),.map (some ob),.map (some sb)] (0,0) _ P9.out Tryz.underlying101 rfl (by kernel_rfl) ?_)
         |(refine Aa rfl 101 (.tmp 4) (.tmp 66) rfl g #[.int .i64 (u:Nat),.int .i64 (C:Nat),.map (some ob),.map (some sb)] rfl rfl 101 #[.int .i64 0,.int .i64 0,.map none,.map none] G9.out (by kernel_rfl) rfl rfl ?_))
        rintro J i m n j;have r:=Hd i;have s:=Hd (aY.out.trans (m w.heap.size (by have:=d.out;omega)));have bZ:=Hd (S9.out.only (Only.storeQ m n) (by have:=d.out;omega) (by have:=d.out;omega) (by have:=d.out;omega));clear i m n j;go_wp2_with fail;refine bodyPost_ret (v:=.tuple #[.agg #[.int .i64 (u:Nat),.int .i64 (C:Nat),.map (some ob),.map (some sb)],.int .u8 0]) (Ad Tryz.results66 _ _ g _ _ _ rfl r.out Tryz.underlying101 rfl (by kernel_rfl)) rfl ?_;rw[Y.out.trans (if_pos trivial)];refine⟨s.out,?_⟩;rw[if_pos rfl];exact⟨ob,sb,p+1,rfl,by have:=d.out;omega,by have:=d.out;omega,by have:=d.out;omega,by have:=d.out;omega,by have:=d.out;omega,bZ.out⟩
       |false=>
        go_wp2_with (refine Aa rfl 101 (.tmp 4) (.tmp 65) rfl g #[.int .i64 0,.int .i64 0,.map none,.map none] rfl rfl 101 #[.int .i64 0,.int .i64 0,.map none,.map none] G9.out (by kernel_rfl) rfl rfl ?_);rintro J i m n j;have r:=Hd i;have s:=Hd (aY.out.trans (m w.heap.size (by have:=d.out;omega)));clear i m n j;go_wp2_with fail;refine bodyPost_ret (v:=.tuple #[.agg #[.int .i64 0,.int .i64 0,.map none,.map none],.int .u8 3]) (Ad Tryz.results66 _ _ g _ _ _ rfl r.out Tryz.underlying101 rfl (by kernel_rfl)) rfl ?_;rw[Y.out];exact⟨s.out,rfl⟩
      ·have H:=Hd he;have b0:((e5:Int)==0)=false:=(by rw[beq_eq_false_iff_ne];omega);have bJ:((e5:Int) !=0)=true:=(by rw[bne_iff_ne];omega);clear he;go_wp2_with (refine Aa rfl 101 (.tmp 4) (.tmp 57) rfl g #[.int .i64 0,.int .i64 0,.map none,.map none] rfl rfl 101 #[.int .i64 0,.int .i64 0,.map none,.map none] G8.out (by kernel_rfl) rfl rfl ?_);rintro J i m n j;have r:=Hd i;have s:=Hd (T.out.trans (m w.heap.size (by have:=d.out;omega)));clear i m n j;go_wp2_with fail;refine bodyPost_ret (v:=.tuple #[.agg #[.int .i64 0,.int .i64 0,.map none,.map none],.int .u8 (e5:Nat)]) (Ad Tryz.results66 _ _ g _ _ _ rfl r.out Tryz.underlying101 rfl (by kernel_rfl)) rfl ?_;rw[Z.out H.out];exact⟨s.out,by rw[if_neg H.out]⟩
     ·have H:=Hd hd;have b7:((l.er:Int)==0)=false:=(by rw[beq_eq_false_iff_ne];omega);have bY:((l.er:Int) !=0)=true:=(by rw[bne_iff_ne];omega);clear hd;go_wp2_with (refine Aa rfl 101 (.tmp 4) (.tmp 57) rfl g #[.int .i64 0,.int .i64 0,.map none,.map none] rfl rfl 101 #[.int .i64 0,.int .i64 0,.map none,.map none] G8.out (by kernel_rfl) rfl rfl ?_);rintro J i m n j;have r:=Hd i;have s:=Hd (T.out.trans (m w.heap.size (by have:=d.out;omega)));clear i m n j;go_wp2_with fail;refine bodyPost_ret (v:=.tuple #[.agg #[.int .i64 0,.int .i64 0,.map none,.map none],.int .u8 (l.er:Nat)]) (Ad Tryz.results66 _ _ g _ _ _ rfl r.out Tryz.underlying101 rfl (by kernel_rfl)) rfl ?_;rw[b4.out z.out E.out R.out H.out];exact⟨s.out,by rw[if_neg H.out]⟩
   ·have H:=Hd hc;have cF:((e3:Int)==0)=false:=(by rw[beq_eq_false_iff_ne];omega);have cH:((e3:Int) !=0)=true:=(by rw[bne_iff_ne];omega);clear hc;go_wp2_with (refine Aa rfl 101 (.tmp 4) (.tmp 57) rfl g #[.int .i64 0,.int .i64 0,.map none,.map none] rfl rfl 101 #[.int .i64 0,.int .i64 0,.map none,.map none] (by rw[←aF.out];exact G7.out) (by kernel_rfl) rfl rfl ?_);rintro J i m n j;simp only[←aF.out]at m;have r:=Hd i;have s:=Hd (aI.out.trans (m w.heap.size (by have:=d.out;omega)));clear i m n j;go_wp2_with fail;refine bodyPost_ret (v:=.tuple #[.agg #[.int .i64 0,.int .i64 0,.map none,.map none],.int .u8 (e3:Nat)]) (Ad Tryz.results66 _ _ g _ _ _ rfl r.out Tryz.underlying101 rfl (by kernel_rfl)) rfl ?_;rw[b2.out z.out E.out H.out];exact⟨s.out,by rw[if_neg H.out]⟩
  ·have H:=Hd q;have b5:((e2:Int)==0)=false:=(by rw[beq_eq_false_iff_ne];omega);have bM:((e2:Int) !=0)=true:=(by rw[bne_iff_ne];omega);clear q;go_wp2_with (refine Aa rfl 101 (.tmp 4) (.tmp 57) rfl g #[.int .i64 0,.int .i64 0,.map none,.map none] rfl rfl 101 #[.int .i64 0,.int .i64 0,.map none,.map none] (by rw[←aN.out];exact G5.out) (by kernel_rfl) rfl rfl ?_);rintro J i m n j;simp only[←aN.out]at m;have r:=Hd i;have s:=Hd (aL.out.trans (m w.heap.size (by have:=d.out;omega)));clear i m n j;go_wp2_with fail;refine bodyPost_ret (v:=.tuple #[.agg #[.int .i64 0,.int .i64 0,.map none,.map none],.int .u8 (e2:Nat)]) (Ad Tryz.results66 _ _ g _ _ _ rfl r.out Tryz.underlying101 rfl (by kernel_rfl)) rfl ?_;rw[bC.out z.out H.out];exact⟨s.out,by rw[if_neg H.out]⟩
 ·have H:=Hd ha;have bX:((A:Int)==0)=false:=(by rw[beq_eq_false_iff_ne];omega);have bU:((A:Int) !=0)=true:=(by rw[bne_iff_ne];omega);clear ha;go_wp2_with (refine Aa rfl 101 (.tmp 4) (.tmp 57) rfl g #[.int .i64 0,.int .i64 0,.map none,.map none] rfl rfl 101 #[.int .i64 0,.int .i64 0,.map none,.map none] G3.out (by kernel_rfl) rfl rfl ?_);rintro J i m n j;have r:=Hd i;have s:=Hd (aQ.out.trans (m w.heap.size (by have:=d.out;omega)));clear i m n j;go_wp2_with fail;refine bodyPost_ret (v:=.tuple #[.agg #[.int .i64 0,.int .i64 0,.map none,.map none],.int .u8 (A:Nat)]) (Ad Tryz.results66 _ _ g _ _ _ rfl r.out Tryz.underlying101 rfl (by kernel_rfl)) rfl ?_;rw[bP.out H.out];exact⟨s.out,by rw[if_neg H.out]⟩
theorem Zi7 (v:Value)(L:List Nat)(mk:Nat)(only:Bool)(w:World)(h:Rd w v (bvs L))(hl:L.length≤4000)(u:∀n∈L,n<256)(K:((mk:Int)==2)=only)(hm:mk<256):
  Calls Tryz.prog 66 #[v,.int .i64 (mk:Nat)] w (Ziy (ofT only mk L) w):=by
 obtain⟨a,cp,rfl,-,-⟩:=id h;rw[bvs_len]at h⊢;unfold ofT Zmn Zmm Zml;rw[if_neg (by omega)];have D:=Iu L 1 fun n=>n==mk;have Q:=fun h=>Sc (L:=L) (s:=1) (P:=fun n=>n==mk) h;have O:=fun(B g:Nat) (W:World) (c:RS W B L 0) (m:Blk W g 3 #[.int .i64 (mk:Nat)]) (l:g≠B)=>Qc 119 (.pointer (some ⟨g,0,none⟩)) (fun _ _=>rfl) B L 1 (fun n=>n==mk) W c (.inl rfl) u fun n r j f=>Zfz n g mk r (by have:=(m.only f l).cell 0;simpa using this);generalize Iv L 1 (fun n=>n==mk)=r1 at D Q O⊢;have o:∀n∈r1.2.2.1,n<256:=fun n j=>u n (D.2 n j);have g2:=(Iu r1.2.2.1 4 fits).trans D;have y:=fun h=>Sc (L:=r1.2.2.1) (s:=4) (P:=fits) h;have b2:=Sd (P:=fits) o (.inr rfl);have T:=fun(B:Nat) (W:World) (c:RS W B r1.2.2.1 0)=>Zfy 113 (fun _ _=>rfl) B r1.2.2.1 4 fits W c (.inr rfl) o fun n r j f=>by
  have:=Jl (n:Int) r (by omega) (by omega);rw[dI]at this;exact this.mono fun e w' h=>⟨h.1,h.2.symm⟩
 generalize Iv r1.2.2.1 4 fits=r2 at g2 y b2 T⊢;have t:∀n∈r2.2.2.1,n<256:=fun n j=>u n (g2.2 n j);have g3:=(Iu r2.2.2.1 4 fun i=>decide (i<r2.1)).trans g2;have S:=fun h=>Sc (L:=r2.2.2.1) (s:=4) (P:=fun i=>decide (i<r2.1)) h;have b3:=Sd (P:=fun i=>decide (i<r2.1)) t (.inr rfl);have U:=fun(B g:Nat) (W:World) (H I z:Value) (c:RS W B r2.2.2.1 0) (m:Blk W g 101 #[.int .i64 (r2.1:Nat),H,I,z]) (l:g≠B)=>Qc 120 (.pointer (some ⟨g,0,none⟩)) (fun _ _=>rfl) B r2.2.2.1 4 (fun i=>decide (i<r2.1)) W c (.inr rfl) t fun n r j f=>Zf0 n g r2.1 r (by have:=(m.only f l).cell 0;simpa using this);generalize Iv r2.2.2.1 4 (fun i=>decide (i<r2.1))=r3 at g3 S b3 U⊢;have q:∀n∈r3.2.2.1,n<256:=fun n j=>u n (g3.2 n j);have d:=fun(h:r2.2.1=0)=>Xk (y h).1;have M:=fun(h2:r2.2.1=0) (B ob sb g:Nat) (W:World) (E:B<ob) (G:B<sb) (F:ob≠sb) (A:ob<g) (C:sb<g) (J:g≤W.heap.size) (c:RS W B r3.2.2.1 0) (hS:PcS W ob sb g 0 0 (fun _=>none) (fun _=>none))=>
  Zix (aZ r2.1) (d h2).2.2.1 (r2.1-1) (r2.1:Nat) (r3.1:Nat) B ob sb g 0 0 r3.2.2.1 (fun _=>none) (fun _=>none) W (d h2).2.2.2.2 (by have:=(d h2).1;have:=(d h2).2.1;omega) (by have:=(d h2).1;omega) E G F A C J c hS (by have:=g3.1;omega) q
 have V:=fun(h2:r2.2.1=0) (W:World)=>(show Calls Tryz.prog 61 #[.int .i64 (r2.1:Nat)] W fun e w'=>e=.returned (.int .i64 ((r2.1-1:Nat):Int))∧W=w' from by
  have:=Lw (r2.1:Int) W (by omega) (by omega)
  rwa [(d h2).2.2.2.1]at this)
 have N:=fun(h2:r2.2.1=0) (X:(rdP (aZ r2.1) (r2.1-1) r3.2.2.1).er=0)=>Uv (k:=aZ r2.1) (x:=r2.1-1) (n:=r2.1) (i:=r3.1) q (by have:=g3.1;omega) (by have:=(d h2).1;omega) (by have:=(d h2).1;have:=(d h2).2.1;omega) (by omega) (by omega) X;generalize hrr:rdP (aZ r2.1) (r2.1-1) r3.2.2.1=rr at M N⊢;refine Zf3 a cp L r1.2.2.1 r2.2.2.1 r3.2.2.1 mk r1.1 r2.1 r3.1 r1.2.1 r2.2.1 r3.2.1 r1.2.2.2 r2.2.2.2 r3.2.2.2 0 (r2.1-1) only rr _ w h hl K O (fun e B W c=> ?_) (fun e e2 B g W H I z c=> ?_) (fun e e2 e3 B ob sb g W E G F A C J c=> ?_) (fun e e2=>V e2) (fun e e2 e3 p ob sb W h1 h2=> ?_) (fun e=> ?_) (fun e e2=> ?_) (fun e e2 e3=> ?_) (fun e e2 e3 p=> ?_) (fun e e2 e3 p R=> ?_) (fun e e2 e3 p R b m=> ?_)
 ·rw[(Q e).2]at c;exact T B W c
 ·rw[(y e2).2]at c;exact U B g W H I z c
 ·rw[(S e3).2]at c;exact M e2 B ob sb g W E G F A C J c
 ·obtain⟨Y,q2,q3⟩:=N e2 p;exact Zi4 ⟨(r2.1:Int),(r3.1:Int),rr.op,rr.sh⟩ only ob sb W Y q2 q3 h1 h2
 ·rw[if_pos e]
 ·rw[if_neg (by omega),if_pos e2]
 ·rw[if_neg (by omega),if_neg (by omega),if_pos e3]
 ·rw[if_neg (by omega),if_neg (by omega),if_neg (by omega),if_pos p]
 ·rw[if_neg (by omega),if_neg (by omega),if_neg (by omega),if_neg (by omega),if_pos R]
 ·rw[if_neg (by omega),if_neg (by omega),if_neg (by omega),if_neg (by omega),if_neg (by omega)]
  by_cases hb2:b=true
  ·rw[if_pos (m.trans hb2),if_pos hb2]
  ·rw[if_neg (fun Z=>hb2 (m.symm.trans Z)),if_neg hb2]
end Go.Proofs.YtfofaiommeckbaaGreat
namespace Go.Proofs.YtfofaiommeckbaaGreat
open Go.RowKit WalkM WireM
section
theorem Zf4:∀(i a n:Nat),beN i (a*256^i+n)=beN i n
 |0,_,_=>rfl
 |i+1,a,n=>by
  have e:a*256^(i+1)+n=(a*256)*256^i+n:=(by rw[aP,Nat.mul_assoc,Nat.mul_comm 256]);have hp:0<256^i:=iQ (by decide);unfold beN;rw[e,Zf4 i (a*256) n,iR,iS _ _ hp,Nat.add_mul_mod_self_right]
theorem Mj:∀(L:List Nat),(∀x∈L,x<256)→beN L.length (Ds L)=L
 |[],_=>rfl
 |c::L,h=>by
  have b:=Mt _ L rfl fun x hx=>h x (gW _ hx);have a:=h c (iO ..);have d:0<256^L.length:=iQ (by decide);rw[Tq];show((c*256^L.length+Ds L)/256^L.length%256)::beN L.length (c*256^L.length+Ds L)=c::L;rw[Zf4,Mj L fun x hx=>h x (gW _ hx),iR,iS _ _ d,Nat.div_eq_of_lt b,cY,aU a]
theorem Zf5 {b n e:Nat} {M R:List Nat}(q:b<256)(g:∀x∈M,x<256)(h:Of b M=(some n,R,e)):b::M=lenB n++R:=by
 unfold Of at h
 split at h
 ·simp at h
 ·rename_i c1
  split at h
  ·simp at h
  ·rename_i c2
   split at h
   ·rename_i c3
    simp only[Prod.mk.injEq,Option.some.injEq]at h;obtain⟨a,h2,-⟩:=h;have hk:b/64=0∨b/64=1∨b/64=2:=(by omega);unfold lenS at c3;unfold lenB;rcases hk with hk|hk|hk
    ·rw[hk]at c3 a h2;have k:n=b:=(by rw[←a];simp[Ds];omega);have e2:R=M:=(by rw[←h2];rfl);rw[k,e2,if_pos (by omega)];rfl
    ·rw[hk]at c2 c3 a h2;cases M with
     |nil=>simp at c2
     |cons c M=>
      have o:=g c (iO ..);have k:n=(b%64)*256+c:=(by rw[←a];simp[Ds]);have e2:R=M:=(by rw[←h2];rfl);rw[a]at c3;have l:64≤n∧n<16384:=by
       split at c3
       ·omega
       ·split at c3
        ·omega
        ·split at c3<;>omega
      rw[if_neg (by omega),if_pos l.2,e2];have i:64+n/256=b:=(by omega);have j:n%256=c:=(by omega);rw[i,j];rfl
    ·rw[hk]at c2 c3 a h2;rcases M with _|⟨c,_|⟨d,_|⟨f,M⟩⟩⟩
     ·simp at c2
     ·simp at c2
     ·simp at c2
     ·have o:=g c (by simp);have r:=g d (by simp);have s:=g f (by simp);have k:n=(((b%64)*256+c)*256+d)*256+f:=(by rw[←a];simp[Ds]);have e2:R=M:=(by rw[←h2];rfl);rw[a]at c3;have l:16384≤n:=by
       split at c3
       ·omega
       ·split at c3
        ·omega
        ·split at c3<;>omega
      rw[if_neg (by omega),if_neg (by omega),e2];have i:128+n/16777216=b:=(by omega);have j:n/65536%256=c:=(by omega);have p:n/256%256=d:=(by omega);have m:n%256=f:=(by omega);rw[i,j,p,m];rfl
   ·simp at h
theorem Es {L:List Nat} {er:Nat}(a:∀x∈L,x<256)(h:(By L er).2.2=0):er=0∧L=Av (By L er).1++(By L er).2.1:=by
 by_cases he:er=0
 ·subst he;refine⟨rfl,?_⟩;have f:=Nv L 0;unfold By at h⊢;cases L with
  |nil=>simp[Br]at h
  |cons b M=>
   have i:Br (b::M) 0=Of b M:=(by unfold Br;rw[if_neg (by simp)]);rw[i]at h f⊢;rcases hq:Of b M with⟨_|n,R,e⟩
   ·rw[hq]at h;simp only at h;exfalso;unfold Of at hq
    split at hq
    ·simp only[Prod.mk.injEq]at hq;omega
    ·split at hq
     ·simp only[Prod.mk.injEq]at hq;omega
     ·split at hq
      ·simp at hq
      ·simp only[Prod.mk.injEq]at hq;omega
   ·rw[hq]at h;simp only at h⊢;obtain⟨k,j,l,d⟩:=Zp h;have c:=Zf5 (a b (by simp)) (fun x hx=>a x (gW _ hx)) hq;rw[d];simp only[dI];have g:n≤R.length:=(by omega);rw[c];unfold Av;rw[cF,iT g,cA,iP]
 ·rw[Zex L he]at h;exact absurd h he
theorem Zb2 {L:List Nat} {er:Nat}(h:(Fe L er 1).2.2=0):er=0∧L=Ds (Fe L er 1).1::(Fe L er 1).2.1:=by
 by_cases he:er=0
 ·subst he;rw[Fz]at h⊢;cases L with
  |nil=>simp at h
  |cons b M=>exact⟨rfl,by simp[Zeu]⟩
 ·rw[Zew L he]at h;exact absurd h he
theorem Xl {L:List Nat}(k:∀x∈L,x<256)(h:(Cw L 0).1=0):L=(Jn (Cw L 0).2.1++Av (Cw L 0).2.1.sig)++(Cw L 0).2.2.1:=by
 unfold Cw at h⊢;simp only at h⊢;have t:=Es (L:=L) (er:=0) k;have l:=(Ay L 0).2.1;generalize By L 0=r1 at t l h⊢;have r:∀x∈r1.2.1,x<256:=fun x hx=>k x (l.2 x hx);have m:=Es (L:=r1.2.1) (er:=r1.2.2) r;have s:=(Ay r1.2.1 r1.2.2).2.1;generalize By r1.2.1 r1.2.2=r2 at m s h⊢;have j:∀x∈r2.2.1,x<256:=fun x hx=>r x (s.2 x hx);have o:=Es (L:=r2.2.1) (er:=r2.2.2) j;have p:=(Ay r2.2.1 r2.2.2).2.1;generalize By r2.2.1 r2.2.2=r3 at o p h⊢;have z:∀x∈r3.2.1,x<256:=fun x hx=>j x (p.2 x hx);have q:=Zb2 (L:=r3.2.1) (er:=r3.2.2);have i:=(Fh r3.2.1 r3.2.2 1).2.1;generalize Fe r3.2.1 r3.2.2 1=r4 at q i h⊢;have g:∀x∈r4.2.1,x<256:=fun x hx=>z x (i.2 x hx)
 split at h
 ·rename_i h1;exact absurd h h1
 ·rename_i h1
  have f:r4.2.2=0:=by simpa using h1
  split at h
  ·cases h
  ·rename_i h2
   have d:∀a,(if Ds r4.1=3 then By r4.2.1 r4.2.2 else([],r4.2))=a→a.2.2=0→r4.2.1=(if Ds r4.1=3 then Av a.1 else [])++a.2.1∧∀x∈a.2.1,x<256:=fun a c u=>by
    by_cases hs:Ds r4.1=3
    ·rw[if_pos hs]at c⊢;subst c;exact⟨(Es g u).2,fun x hx=>g x ((Ay r4.2.1 r4.2.2).2.1.2 x hx)⟩
    ·rw[if_neg hs]at c⊢;subst c;exact⟨rfl,g⟩
   generalize hr5:(if Ds r4.1=3 then By r4.2.1 r4.2.2 else([],r4.2))=a at h⊢;have d:=d a hr5;have n:=fun w=>Es (L:=a.2.1) (er:=a.2.2) w;generalize hr6:By a.2.1 a.2.2=r6 at n h⊢
   split at h
   ·rename_i h3;exact absurd h h3
   ·rename_i h3
    have b:r6.2.2=0:=by simpa using h3
    split at h
    ·rename_i h4
     rw[if_neg h1,if_neg h2,if_neg h3,if_pos h4];have y:a.2.2=0:=by
      by_cases he:a.2.2=0
      ·exact he
      ·rw[Zex _ he]at hr6;rw[←hr6]at b;exact absurd b he
     obtain⟨v,e⟩:=d y;have A:=(n e b).2;obtain⟨c4,d4⟩:=q f;obtain⟨c3,d3⟩:=o c4;obtain⟨c2,d2⟩:=m c3;obtain⟨c1,d1⟩:=t c2;unfold Jn Oe;simp only[List.map_cons,List.map_nil,List.flatten_cons,List.flatten_nil,bZ,cA];rw[d1,d2,d3,d4,v,A];simp only[iL,List.nil_append]
    ·cases h
theorem Qd:∀(k:Nat) (L:List Nat),L.length≤k→L.length%4=0→(∀x∈L,x<256)→Bq (Zb7 k L)=L
 |0,L,h,_,_=>by
  have:L=[]:=bV (by omega);rw[this];rfl
 |k+1,L,h,h4,hL=>by
  unfold Zb7
  by_cases c:4≤L.length
  ·rw[if_pos c];have a:Bq (((Ds (L.take 4):Nat):Int)::Zb7 k (L.drop 4))=beN 4 (Ds (L.take 4))++Bq (Zb7 k (L.drop 4)):=(by simp[Bq]);have e2:=Mj (L.take 4) fun x hx=>hL x (bT hx);rw[cF,iT c]at e2;rw[a,e2,Qd k (L.drop 4) (by rw[eM];omega) (by rw[eM];omega) fun x hx=>hL x (gZ hx),iP]
  ·rw[if_neg c];have:L=[]:=bV (by omega);rw[this];rfl
theorem Zb3 {L:List Nat}(c:∀x∈L,x<256)(h:(Fp L 0).1=0):L=Zco (Fp L 0).2.1++(Fp L 0).2.2.1:=by
 unfold Fp at h⊢;simp only at h⊢;have k:=Es (L:=L) (er:=0) c;have d:=(Ay L 0).2.1;generalize By L 0=r1 at k d h⊢;have i:∀x∈r1.2.1,x<256:=fun x hx=>c x (d.2 x hx);have e:=Es (L:=r1.2.1) (er:=r1.2.2) i;have j:=(Ay r1.2.1 r1.2.2).2.1;generalize By r1.2.1 r1.2.2=r2 at e j h⊢;have b:∀x∈r2.2.1,x<256:=fun x hx=>i x (j.2 x hx);have f:=Es (L:=r2.2.1) (er:=r2.2.2) b;have g:=(Ay r2.2.1 r2.2.2).1;generalize By r2.2.1 r2.2.2=r3 at f g h⊢;have l:∀x∈r3.1,x<256:=fun x hx=>b x (g.2 x hx)
 split at h
 ·rename_i h1;exact absurd h h1
 ·rename_i h1
  have a:r3.2.2=0:=by simpa using h1
  split at h
  ·rename_i h2
   rw[if_neg h1,if_pos h2];obtain⟨c3,d3⟩:=f a;obtain⟨c2,d2⟩:=e c3;obtain⟨c1,d1⟩:=k c2;unfold Zco;simp only;rw[Qd _ _ lR h2.1 l,d1,d2,d3];simp only[cA]
  ·cases h
theorem Xm {L:List Nat}(c:∀x∈L,x<256)(h:(Bj L 0).1=0):L=Bc (Bj L 0).2.1++(Bj L 0).2.2.1:=by
 unfold Bj at h⊢;simp only[Fz]at h⊢;cases L with
 |nil=>simp at h
 |cons b M=>
  have a:∀x∈M,x<256:=fun x hx=>c x (gW _ hx);simp only[Zeu,ne_eq,not_true_eq_false,if_false]at h⊢
  by_cases h0:b=0
  ·rw[if_pos h0,h0];rfl
  ·rw[if_neg h0]at h⊢
   by_cases h1:b=1
   ·rw[if_pos h1]at h⊢
    split at h
    ·rename_i h2
     rw[if_pos h2];have:=Xl a h2;unfold Bc;simp only[if_true];rw[h1,iL,←this]
    ·rename_i h2;exact absurd h h2
   ·rw[if_neg h1]at h⊢
    by_cases h2:b=2
    ·rw[if_pos h2]at h⊢
     split at h
     ·rename_i h3
      rw[if_pos h3];have:=Zb3 a h3;unfold Bc;simp only[if_true,if_neg (show¬(2=1) by omega)];rw[h2,iL,←this]
     ·rename_i h3;exact absurd h h3
    ·rw[if_neg h2]at h;simp at h
section
variable {F:Int→Option NodeD} {H:Int→Option (List Nat)}
theorem Uw {k x:Nat} {L:List Nat} {K:NodeD→List Nat→RdR} (i:∀n∈L,n<256) (h:(Nx x L K).er=0)
  (c:(Nx x L K).sh=[((x:Int),L.tail.take 32)]→F (x:Int)=none∧H (x:Int)=some (L.tail.take 32))
  (f:∀d R,Nx x L K=K d R→(∀n∈R,n<256)→1::(Bc d++R)=putS F H k x++(K d R).rest):L=putS F H k x++(Nx x L K).rest:=by
 unfold Nx at h;cases L with
 |nil=>cases h
 |cons b M=>
  have a:∀x∈M,x<256:=fun x hx=>i x (gW _ hx);simp only at h
  by_cases c1:1<b
  ·rw[if_pos c1]at h;cases h
  ·rw[if_neg c1]at h
   by_cases c2:b=0
   ·rw[if_pos c2]at h
    by_cases c3:M.length<32
    ·rw[if_pos c3]at h;cases h
    ·have e:Nx x (b::M) K=⟨0,[],[((x:Int),M.take 32)],M.drop 32⟩:=by
      unfold Nx;simp only;rw[if_neg c1,if_pos c2,if_neg c3]
     rw[e]at c⊢;obtain⟨g,h2⟩:=c rfl;rw[Ki g,Gf,h2,c2];show 0::M=0::(M.take 32++M.drop 32);rw[iP]
   ·rw[if_neg c2]at h;unfold Kk at h
    by_cases c3:(Bj M 0).1≠0
    ·rw[if_pos c3]at h;exact absurd h c3
    ·rw[if_neg c3]at h;have j:=Xm a (by omega);have hk:=Nw (L:=M) (by omega)
     split at h
     ·cases h
     ·rename_i c4
      have e:Nx x (b::M) K=K (Bj M 0).2.1 (Bj M 0).2.2.1:=by
       unfold Nx Kk;simp only;rw[if_neg c1,if_neg c2,if_neg c3,if_neg c4]
      have:=f _ _ e fun n l=>a n (hk.2.sub.2 n l);rw[e,←this,←j];have:b=1:=(by omega);rw[this]
theorem Zi8:∀(k x:Nat) (L:List Nat),(∀n∈L,n<256)→(rdP k x L).er=0→(∀p∈(rdP k x L).op,F p.1=some p.2)→(∀p∈(rdP k x L).sh,F p.1=none∧H p.1=some p.2)→
  L=putS F H k x++(rdP k x L).rest:=by
 intro k
 induction k with
 |zero=>
  intro x L j h c f;unfold rdP at h c f⊢;refine Uw j h (fun e=>f _ (by rw[e];exact List.mem_singleton.2 rfl)) fun d R e m=> ?_;rw[e]at c;rw[Nq (c ((x:Int),d) (List.mem_singleton.2 rfl)),iL]
 |succ k ih=>
  intro x L j h c f;unfold rdP at h c f⊢;refine Uw j h (fun e=>f _ (by rw[e];exact List.mem_singleton.2 rfl)) fun d R e m=> ?_;rw[e]at h c f;unfold Um at h c f⊢;have o:∀n∈(rdP k (x-2^k) R).rest,n∈R:=fun n i=>by rw[←(Zl7 k (x-2^k) R).at.2]at i;exact gZ i
  by_cases c1:(rdP k (x-2^k) R).er=0
  ·have A:=ih (x-2^k) R m c1;generalize rdP k (x-2^k) R=l at c1 A o h c f⊢
   by_cases c2:(rdP k (x+2^k) l.rest).er=0
   ·have B:=ih (x+2^k) l.rest (fun n i=>m n (o n i)) c2;generalize rdP k (x+2^k) l.rest=r at c2 B h c f⊢;rw[if_neg (by omega),if_neg (by omega)]at c f⊢;simp only[fH,List.mem_cons]at c f;have a:=A (fun p g=>c p (.inl g)) fun p g=>f p (.inl g);have b:=B (fun p g=>c p (.inr (.inr g))) fun p g=>f p (.inr g);rw[Nr (c ((x:Int),d) (.inr (.inl rfl))),iL,iL,cA,cA,←b,←a]
   ·rw[if_neg (by omega),if_pos c2]at h;exact absurd h c2
  ·rw[if_pos c1]at h;exact absurd h c1
end
theorem Zlb {b:List Nat} {s:SparseD} {only:Bool} {m:Nat}(v:∀n∈b,n<256)(h:ofS only m b=(0,s)):Ar s only=true∧b=bytesOf s m:=by
 unfold ofS at h
 split at h
 ·simp at h
 ·cases b with
  |nil=>simp at h
  |cons c L=>
   have j:∀x∈L,x<256:=fun x hx=>v x (gW _ hx);simp only at h
   split at h
   ·simp at h
   ·rename_i c1
    split at h
    ·simp at h
    ·rename_i c2
     split at h
     ·simp at h
     ·rename_i c3
      split at h
      ·simp at h
      ·rename_i c4
       split at h
       ·simp at h
       ·rename_i c5
        split at h
        ·rename_i c6;simp only[Prod.mk.injEq]at h;exact absurd h.1 c6
        ·rename_i c6
         split at h
         ·simp at h
         ·rename_i a
          split at h
          ·rename_i c8
           simp only[Prod.mk.injEq,true_and]at h;obtain⟨n,l⟩:=eX (Ji L);obtain⟨i,r⟩:=eX (Ji (L.drop 4));rw[←l,←r]at h c8;rw[←l]at c3 c6 a;have F:=Xk (n:=n) (by simpa using c3);have f:=fK (aZ n);obtain⟨rd,k⟩:=eX (rdP (aZ n) (n-1) (L.drop 8));have ok:=Un (aZ n) (n-1) (L.drop 8) (by have:=F.1;omega);have bk:=fun {F H}=>Zi8 (F:=F) (H:=H) (aZ n) (n-1) (L.drop 8) (fun x hx=>j x (gZ hx));rw[←k]at h c6 a c8 ok bk;have ok:=ok (by omega);obtain⟨d,E,I,A,how,w,-,q,-,-⟩:=Oa c8;have G:2^d≤65536:=bO (bA (by omega) I) (by decide);have z:=fK d;have o:=(Tx (F:=fun n:Nat=>Ai (SparseD.mk n i rd.op rd.sh).op n) (i:=E) (only:=only) d (2^d-1) 0 [] (Cp d) (by omega) (by rw[q])).2;rw[q]at o;have C:=It ok.opUp;have y:=It ok.shUp;have g:=bk (F:=Ai rd.op) (H:=Ax rd.sh) (by omega) (fun p f=>Gu C f) (fun p f=>⟨by
            have J:=(o p.1).1 (gJ f);cases e:Ai rd.op p.1 with
            |none=>rfl
            |some D=>exact absurd (Hm.2 (by rw[e];rfl)) J.2,Gv y f⟩)
           have a:rd.rest=[]:=(by simpa using a);rw[a,bZ]at g;subst h;refine⟨c8,?_⟩;have t:L.take 4=beN 4 n:=by
            have:=Mj (L.take 4) fun x hx=>j x (bT hx);rw[cF,iT (by omega)]at this;rw[l];exact this.symm
           have K:(L.drop 4).take 4=beN 4 i:=by
            have:=Mj ((L.drop 4).take 4) fun x hx=>j x (gZ (bT hx));rw[cF,eM,iT (by omega)]at this;rw[r];exact this.symm
           unfold bytesOf Zj;simp only[dI];have B:c=m:=(by simpa using c1);have u:2^aZ n=n:=F.1.symm;rw[u,←g,←t,←K,B,cA,cA];show m::L=m::(L.take 4++((L.drop 4).take 4++L.drop 8));rw[show L.drop 8=(L.drop 4).drop 4 by rw[List.drop_drop],iP,iP]
          ·simp at h
end
open Go.Maps
structure SpGood (s:SparseD):Prop where
 ok:SparseOk s
 small:Ec s=true
 piece:Ck s=true
 opPos:∀p∈s.op,0≤p.1
 shPos:∀p∈s.sh,0≤p.1
 opUp:(s.op.map (·.1)).Pairwise (· < ·)
 shUp:(s.sh.map (·.1)).Pairwise (· < ·)
theorem Zlc {k x n i:Nat} {L:List Nat}(e:∀y∈L,y<256)(f:L.length≤4000)(hx:2^k≤x+1)(b:x+2^k≤131071)(g:n≤4294967296)(d:i≤4294967296)(h:(rdP k x L).er=0):
  SpGood ⟨(n:Int),(i:Int),(rdP k x L).op,(rdP k x L).sh⟩:=by
 obtain⟨c,h2,h3⟩:=Uv (n:=n) (i:=i) e f hx b g d h;have o:=Un k x L hx h;exact⟨c,h2,h3,fun p a=>by have:=(o.opIn p a).1;omega,fun p a=>by have:=(o.shIn p a).1;omega,It o.opUp,It o.shUp⟩
theorem Zy {only:Bool} {mk:Nat} {L:List Nat}(e:∀y∈L,y<256)(p:L.length≤4000)(h:(ofT only mk L).1=0):SpGood (ofT only mk L).2∧Ar (ofT only mk L).2 only=true:=by
 unfold ofT Zmn Zmm Zml at h⊢;rw[if_neg (by omega)]at h⊢;have d:=Iu L 1 fun n=>n==mk;generalize Iv L 1 (fun n=>n==mk)=r1 at d h⊢
 split at h
 ·rename_i c;exact absurd h c
 ·rename_i c1
  rw[if_neg c1];have f:∀n∈r1.2.2.1,n<256:=fun n a=>e n (d.2 n a);have g2:=(Iu r1.2.2.1 4 fits).trans d;have j:=fun h=>Sc (L:=r1.2.2.1) (s:=4) (P:=fits) h;have m:=Sd (P:=fits) f (.inr rfl);generalize Iv r1.2.2.1 4 fits=r2 at g2 j m h⊢
  split at h
  ·rename_i c;exact absurd h c
  ·rename_i c2
   rw[if_neg c2];have g:∀n∈r2.2.2.1,n<256:=fun n a=>e n (g2.2 n a);have g3:=(Iu r2.2.2.1 4 fun i=>decide (i<r2.1)).trans g2;have o:=Sd (P:=fun i=>decide (i<r2.1)) g (.inr rfl);generalize Iv r2.2.2.1 4 (fun i=>decide (i<r2.1))=r3 at g3 o h⊢
   split at h
   ·rename_i c;exact absurd h c
   ·rename_i c3
    rw[if_neg c3];have b:=Xk (j (by omega)).1;have G:=fun(l:(rdP (aZ r2.1) (r2.1-1) r3.2.2.1).er=0)=>Zlc (k:=aZ r2.1) (x:=r2.1-1) (n:=r2.1) (i:=r3.1) (fun n a=>e n (g3.2 n a)) (by have:=g3.1;omega) (by have:=b.1;omega) (by have:=b.1;have:=b.2.1;omega) (by omega) (by omega) l;generalize rdP (aZ r2.1) (r2.1-1) r3.2.2.1=rr at G h⊢
    split at h
    ·rename_i c;exact absurd h c
    ·rename_i c4
     rw[if_neg c4]
     split at h
     ·rename_i c;exact absurd h c
     ·rename_i c5
      rw[if_neg c5]
      split at h
      ·rename_i c6
       rw[if_pos c6];exact⟨G (by omega),c6⟩
      ·cases h
theorem Zz {α:Type} {l:List (Int×α)} {D:Nat→α}(hp:∀p∈l,0≤p.1)(hD:∀p∈l,D p.1.toNat=p.2):(l.map fun p=>p.1.toNat).map (fun m:Nat=>((m:Int),D m))=l:=by
 rw[iM]
 conv=>rhs;rw[←List.map_id l]
 refine iG fun p hp2=> ?_;show(((p.1.toNat:Nat):Int),D p.1.toNat)=p;rw[hD p hp2,iU (hp p hp2)]
theorem Zaa {α:Type} {l:List (Int×α)}(hp:∀p∈l,0≤p.1):((l.map fun p=>p.1.toNat).map fun m:Nat=>(m:Int))=l.map (·.1):=by
 rw[iM];refine iG fun p hp2=> ?_;show((p.1.toNat:Nat):Int)=p.1;exact iU (hp p hp2)
theorem Zf6 {w:World} {G:Int→Option Value} {H:Int→Option (List Nat)}(h:RunsH w G H)(x:Int):(G x).isSome=(H x).isSome:=by
 have:=h x;cases e:H x with
 |none=>rw[e]at this;have this:G x=none:=this;rw[this];rfl
 |some L=>rw[e]at this;obtain⟨v,h1,h2⟩:=this;rw[h1];rfl
theorem Zi9 (s:SparseD)(b:SpGood s)(ob sb:Nat)(w:World)(z:PieceN w ob s.op.length (Ai s.op))(h2:PieceH w sb s.sh.length (Ax s.sh)):
  Calls Tryz.prog 67 #[.agg #[.int .i64 s.leaves,.int .i64 s.own,.map (some ob),.map (some sb)]] w fun e w'=>∃v',e=.returned v'∧SparseR w' v' s∧Below w.heap.size w w'∧∀(g:Nat) (W:World),g<w.heap.size→Only g w' W→SparseR W v' s:=by
 obtain⟨G,h,j⟩:=z;obtain⟨r,n,f⟩:=h2;have j:NodesG w G (Ai s.op):=j;have f:RunsH w r (Ax s.sh):=f;obtain⟨v,y⟩:=Gt b.small;have d:=b.small;unfold Ec at d;simp only[cL,decide_eq_true_eq]at d;have q:=fun p (a:p∈s.op)=>Gu b.opUp a;have t:=fun p (a:p∈s.sh)=>Gv b.shUp a;have B:=Zz (l:=s.op) (D:=fun m:Nat=>(Ai s.op m).getD An) b.opPos fun p a=>by
  show(Ai s.op ((p.1.toNat:Nat):Int)).getD An=p.2;rw[iU (b.opPos p a),q p a];rfl
 have e2:=Zz (l:=s.sh) (D:=fun m:Nat=>(Ax s.sh m).getD []) b.shPos fun p a=>by
  show(Ax s.sh ((p.1.toNat:Nat):Int)).getD []=p.2;rw[iU (b.shPos p a),t p a];rfl
 have u:=Zaa b.opPos;have A:=Zaa b.shPos;have:=Qa s.leaves s.own ob sb s.op.length s.sh.length G r (s.op.map fun p=>p.1.toNat) (s.sh.map fun p=>p.1.toNat) (fun m=>(Ai s.op m).getD An) (fun m=>(Ax s.sh m).getD []) w h n (by omega) (by omega)
  (by rw[u];exact⟨b.opUp,fun x=>by rw[Hm,(j.val x).2]⟩)
  (by rw[A];exact⟨b.shUp,fun x=>by rw[Ip,Zf6 f x]⟩)
  (fun m h=>by
   obtain⟨p,a,rfl⟩:=List.mem_map.1 h;have i:=j ((p.1.toNat:Nat):Int);rw[iU (b.opPos p a),q p a]at i⊢;obtain⟨c,k,o⟩:=i;exact⟨(b.ok.op p a).1,List.all_eq_true.1 d.1.2 p a,c,k,o⟩)
  (fun m h=>by
   obtain⟨p,a,rfl⟩:=List.mem_map.1 h;have i:=f ((p.1.toNat:Nat):Int);rw[iU (b.shPos p a),t p a]at i⊢;obtain⟨c,k,o⟩:=i;exact⟨(b.ok.sh p a).1,by have:=of_decide_eq_true (List.all_eq_true.1 d.2 p a);show p.2.length≤_;omega,c,k,o⟩)
  (by rw[gH];omega) (by rw[gH];omega)
 rw[B,e2]at this;exact this
theorem Zmg (w:World):SparseR w (.agg #[.int .i64 0,.int .i64 0,.slice none 0 0,.slice none 0 0]) Ja:=⟨_,_,rfl,SpotsR.nil w,StubsR.nil w⟩
end Go.Proofs.YtfofaiommeckbaaGreat
namespace Go.Proofs.YtfofaiommeckbaaGreat
open Go.RowKit WireM
def Sg:NodeD:=⟨1,⟨cK 32 0,cK 32 0,[1],1,[],cK 64 0⟩,noParD⟩
theorem Qe {n:Nat} {N:Int}(d:N=(n:Int))(g:n≤4000000):∀w:World,(Instr.makeSlice 28 (.int .i64 N) (.int .i64 N)).run Tryz.prog w=.ok (.slice (some ⟨w.heap.size,0,none⟩) n n) (w.alloc (.cells (madeCells (Value.int .u8 0).cells (n*1)) 5)):=by
 intro w;subst d;obtain⟨i,e,f,b,a⟩:∃i,Tryz.prog.info? 5=some i∧i.zero=some (.int .u8 0)∧i.size=1∧i.bytes=1:=info_parts (by kernel_rfl);have c:=run_make (P:=Tryz.prog) w 28 5 i (.int .u8 0) Tryz.underlying28 e f .i64 .i64 n n (by omega) (by omega) (by rw[a];omega) (by omega);simp only[dI,b]at c;exact c
theorem Se (w:World)(n:Nat)(a:n≤4000000:=by omega):Own (w.alloc (.cells (madeCells (Value.int .u8 0).cells (n*1)) 5)) w.heap.size 5 (.slice (some ⟨w.heap.size,0,none⟩) n n) (bvs (cK n 0)):=by
 have e:bvs (cK n 0)=(madeCells (Value.int .u8 0).cells (n*1)).toList:=by
  rw[Nat.mul_one];have:=toList_madeCells_one (.int .u8 0) n;rw[show(Value.int .u8 0).cells=#[.int .u8 0]from rfl,this];simp[bvs]
 rw[e];exact Own.full (B:=w.heap.size) rfl lR (by unfold maxLen;simp[madeCells];omega) (by simp[madeCells])
theorem Zja {w:World} {B:Nat} {x1 x2 x3 x4:Value}(g:Own w B 5 x1 (bvs (cK 32 0)))(h:Own w B 5 x2 (bvs (cK 32 0)))(e:Own w B 5 x3 (bvs [1]))(d:Own w B 5 x4 (bvs (cK 64 0))):
  TreeR (w.alloc (.cells #[.int .u8 1,x1,x2,x3,.int .u8 1,.slice none 0 0,x4,.slice none 0 0,.slice none 0 0,.slice none 0 0] 52)) (.slice (some ⟨w.heap.size,0,none⟩) 1 1) [Sg]:=by
 have a:NodeO (w.alloc (.cells #[.int .u8 1,x1,x2,x3,.int .u8 1,.slice none 0 0,x4,.slice none 0 0,.slice none 0 0,.slice none 0 0] 52)) B Sg #[.int .u8 1,x1,x2,x3,.int .u8 1,.slice none 0 0,x4,.slice none 0 0,.slice none 0 0,.slice none 0 0]:=
  ⟨_,_,_,_,_,_,_,_,rfl,g.alloc _,h.alloc _,e.alloc _,Own.nil _ _ _,d.alloc _,Own.nil _ _ _,Own.nil _ _ _,Own.nil _ _ _⟩
 refine⟨_,1,rfl,lR,by unfold maxLen;omega,fun i b=>⟨w.heap.size,0,#[.int .u8 1,x1,x2,x3,.int .u8 1,.slice none 0 0,x4,.slice none 0 0,.slice none 0 0,.slice none 0 0],rfl,by simp,?_,?_⟩⟩
 ·have:i=0:=(by simpa using b);subst this;exact a.c
 ·have:i=0:=(by simpa using b);subst this;intro j u f;have:=(Blk.new w 52 #[.int .u8 1,x1,x2,x3,.int .u8 1,.slice none 0 0,x4,.slice none 0 0,.slice none 0 0,.slice none 0 0]).cell j;rw[show 0+0*10+j=j by omega,this];simpa using f
open WalkM
theorem Xn:Bg [Sg]=true:=by decide
theorem Zab:TreeOk [Sg]:=by
 intro d hd;rw[fP]at hd;subst hd;refine⟨by decide,by decide,?_,?_,?_,?_,?_,?_,?_,?_⟩<;>decide
theorem Xo:Bv [Sg]=true:=by decide+kernel
def Zlg:SparseD:=Zfc [Sg] (2^0) 0 [0] []
theorem Zb4:Ar Zlg false=true:=by decide+kernel
theorem Zb5:Ec Zlg=true:=by decide+kernel
theorem Zld:SparseOk Zlg:=by
 refine⟨by unfold inI;decide,by unfold inI;decide,fun p hp=> ?_,fun p hp=>by cases hp⟩;have:p=(((0:Nat):Int),Sg):=(by simpa [Zlg,Zfc,nd]using hp);subst this;exact⟨by unfold inI;decide,Zab Sg (by simp)⟩
theorem Zle (w:World):Calls Tryz.prog 21 #[] w fun e w'=>e=.returned (.bool true)∧Below w.heap.size w w':=by
 have z:=Hd (Qe (n:=32) (N:=32) rfl (by omega));have A:=Hd (Qe (n:=64) (N:=64) rfl (by omega));obtain⟨aD,aB⟩:=eX (madeCells (Value.int .u8 0).cells (32*1));obtain⟨Z64,aC⟩:=eX (madeCells (Value.int .u8 0).cells (64*1));have R:=Hd fun(v:Value) (W:World) (Z:TreeR W v [Sg])=>Uq v [Sg] 0 0 0 [0] [] W Z Xn Zab Xo rfl (by decide) (by omega) rfl (by decide+kernel) (by decide+kernel) (by decide+kernel) (by simp) (by simp) (by simp) (by simp) (by simp) (by simp) (fun x=>by rw[Uo];omega);have J:=Hd fun(v:Value) (W:World) (Z:SparseR W v Zlg)=>Wq v Zlg W Z Zld Zb5;rw[Zb4]at J;go_enter Tryz.func21,Tryz.ntmps21;go_wp2_with fail;refine Cb [fun v w'=>Own w' w.heap.size 5 v (bvs (cK 32 0)),fun v w'=>Own w' w.heap.size 5 v (bvs (cK 32 0)),fun v w'=>Own w' w.heap.size 5 v (bvs [1]),fun v w'=>Own w' w.heap.size 5 v (bvs (cK 64 0)),fun v w'=>∃x1 x2 x3 x4,v=.agg #[x1,x2,x3,.int .u8 1,.slice none 0 0,x4]∧Own w' w.heap.size 5 x1 (bvs (cK 32 0))∧Own w' w.heap.size 5 x2 (bvs (cK 32 0))∧Own w' w.heap.size 5 x3 (bvs [1])∧Own w' w.heap.size 5 x4 (bvs (cK 64 0)),fun v w'=>∃x1 x2 x3 x4,v=.agg #[.int .u8 1,x1,x2,x3,.int .u8 1,.slice none 0 0,x4,.slice none 0 0,.slice none 0 0,.slice none 0 0]∧Own w' w.heap.size 5 x1 (bvs (cK 32 0))∧Own w' w.heap.size 5 x2 (bvs (cK 32 0))∧Own w' w.heap.size 5 x3 (bvs [1])∧Own w' w.heap.size 5 x4 (bvs (cK 64 0)),fun v w'=>TreeR w' v [Sg],fun v w'=>TreeR w' v [Sg]] (by kernel_rfl) (by kernel_rfl) (by kernel_rfl) (Ah (fun v x y h _ c=>Own.below h c lR) (Ah (fun v x y h _ c=>Own.below h c lR) (Ah (fun v x y h _ c=>Own.below h c lR) (Ah (fun v x y h _ c=>Own.below h c lR) (Ah (fun v x y h _ c=>let⟨x1,x2,x3,x4,e,q,l,r,p⟩:=h;⟨x1,x2,x3,x4,e,q.below c lR,l.below c lR,r.below c lR,p.below c lR⟩) (Ah (fun v x y h _ c=>let⟨x1,x2,x3,x4,e,q,l,r,p⟩:=h;⟨x1,x2,x3,x4,e,q.below c lR,l.below c lR,r.below c lR,p.below c lR⟩) (Ah (fun v x y h _ c=>TreeR.below h c lR) (Ah (fun v x y h _ c=>TreeR.below h c lR) (Ae))))))))) ?_ ?_
 ·refine gB ?_ (gB ?_ (gB ?_ (gB ?_ (gB ?_ (gB ?_ (gB ?_ (gB ?_ .nil)))))));all_goals
   intro a d m ho D;refine⟨rfl,?_⟩;intro K s;try have D0:=z.out
   try have D1:=A.out
   try(refine Hd ?_;go_simp;exact s _ rfl)
  ·go_simp;exact s _ _ ((Se d 32).mono m.size) (bR.alloc lR _)
  ·go_simp;exact s _ _ ((Se d 32).mono m.size) (bR.alloc lR _)
  ·
   go_simp;exact s _ _ (Own.full (B:=w.heap.size) (cs:=#[.int .u8 1]) rfl (m.size) (by unfold maxLen;simp) rfl) (bR.alloc lR _)
  ·go_simp;exact s _ _ ((Se d 64).mono m.size) (bR.alloc lR _)
  ·have i:Own d w.heap.size 5 (a.tmps[4]?.getD undef) (bvs (cK 32 0)):=D.1;obtain⟨v0,b⟩:=eX (a.tmps[4]?.getD undef);rw[←b]at i;have e0:=b.symm;clear b;have o1:Own d w.heap.size 5 (a.tmps[5]?.getD undef) (bvs (cK 32 0)):=D.2.1;obtain⟨v1,E⟩:=eX (a.tmps[5]?.getD undef);rw[←E]at o1;have V:=E.symm;clear E;have U:Own d w.heap.size 5 (a.tmps[6]?.getD undef) (bvs [1]):=D.2.2.1;obtain⟨v2,C⟩:=eX (a.tmps[6]?.getD undef);rw[←C]at U;have e2:=C.symm;clear C;have o3:Own d w.heap.size 5 (a.tmps[7]?.getD undef) (bvs (cK 64 0)):=D.2.2.2.1;obtain⟨v3,u⟩:=eX (a.tmps[7]?.getD undef);rw[←u]at o3;have e3:=u.symm;clear u;obtain⟨F,m1,d1,rfl⟩:=Dk i;obtain⟨S,m2,d2,rfl⟩:=Dk o1;obtain⟨a3,m3,d3,rfl⟩:=Dk U;obtain⟨a4,m4,d4,rfl⟩:=Dk o3;go_simp;exact s _ _ ⟨_,_,_,_,rfl,i,o1,U,o3⟩ bR
  ·have i:∃x1 x2 x3 x4,(a.tmps[8]?.getD undef)=.agg #[x1,x2,x3,.int .u8 1,.slice none 0 0,x4]∧Own d w.heap.size 5 x1 (bvs (cK 32 0))∧Own d w.heap.size 5 x2 (bvs (cK 32 0))∧Own d w.heap.size 5 x3 (bvs [1])∧Own d w.heap.size 5 x4 (bvs (cK 64 0)):=D.1;obtain⟨v0,b⟩:=eX (a.tmps[8]?.getD undef);rw[←b]at i;have e0:=b.symm;clear b;obtain⟨x1,x2,x3,x4,rfl,q,l,r,p⟩:=i;obtain⟨F,m1,d1,rfl⟩:=Dk q;obtain⟨S,m2,d2,rfl⟩:=Dk l;obtain⟨a3,m3,d3,rfl⟩:=Dk r;obtain⟨a4,m4,d4,rfl⟩:=Dk p;go_simp;exact s _ _ ⟨_,_,_,_,rfl,q,l,r,p⟩ bR
  ·have i:∃x1 x2 x3 x4,(a.tmps[9]?.getD undef)=.agg #[.int .u8 1,x1,x2,x3,.int .u8 1,.slice none 0 0,x4,.slice none 0 0,.slice none 0 0,.slice none 0 0]∧Own d w.heap.size 5 x1 (bvs (cK 32 0))∧Own d w.heap.size 5 x2 (bvs (cK 32 0))∧Own d w.heap.size 5 x3 (bvs [1])∧Own d w.heap.size 5 x4 (bvs (cK 64 0)):=D.1;obtain⟨v0,b⟩:=eX (a.tmps[9]?.getD undef);rw[←b]at i;have e0:=b.symm;clear b;obtain⟨x1,x2,x3,x4,rfl,q,l,r,p⟩:=i;have HT:=Zja q l r p;obtain⟨F,m1,d1,rfl⟩:=Dk q;obtain⟨S,m2,d2,rfl⟩:=Dk l;obtain⟨a3,m3,d3,rfl⟩:=Dk r;obtain⟨a4,m4,d4,rfl⟩:=Dk p;go_simp;exact s _ _ HT (bR.alloc lR _)
  ·have i:TreeR d (a.tmps[10]?.getD undef) [Sg]:=D.1;obtain⟨v0,b⟩:=eX (a.tmps[10]?.getD undef);rw[←b]at i;have e0:=b.symm;clear b;go_simp;exact s _ _ i bR
 ·rintro f w9 k t;have k:Below w.heap.size w w9:=k;have S1:TreeR w9 (f 1) [Sg]:=t.2.2.2.2.2.2.2.1;clear t;simp only[Aj,Aq,Dr,cZ,dA,dB,dC,Nat.reduceBEq,Nat.reduceAdd,dD,dE,cond_true];obtain⟨u1,M⟩:=eX (f 1);rw[←M]at S1⊢;clear M;have T:=Hd S1;have I:=Hd k;clear S1 k;go_wp2_with fail;refine(R.out _ _ T.out).mono ?_;rintro e X ⟨vr,rfl,H,Q⟩;have G:=Hd H;have P:=Hd (I.out.trans (Q.mono I.out.size));obtain⟨o,g,rfl,ho,hg⟩:=H;obtain⟨F,c1,rfl,-⟩:=ho;obtain⟨S,c2,rfl,-⟩:=hg;have el:(Zfc [Sg] (2^0) 0 [0] []).leaves=1:=rfl;have eo:(Zfc [Sg] (2^0) 0 [0] []).own=0:=rfl;have V:(Zfc [Sg] (2^0) 0 [0] []).op.length=1:=rfl;have e2:(Zfc [Sg] (2^0) 0 [0] []).sh.length=0:=rfl;rw[el,eo,V,e2]at G⊢;clear el eo V e2 Q;have HA:=Hd ((Below.refl X.heap.size X).alloc lR (.cells #[.int .i64 1,.int .i64 0,.slice F 1 c1,.slice S 0 c2] 25));have aA:=Hd (J.out _ _ (G.out.below HA.out lR));have L:=Hd (P.out.trans (HA.out.mono P.out.size));have j:=Blk.new X 25 #[.int .i64 1,.int .i64 0,.slice F 1 c1,.slice S 0 c2];have d0:=j.cell 0;have d1:=j.cell 1;have d2:=j.cell 2;have d3:=j.cell 3;simp only[cC,cD,cE]at d0 d1 d2 d3;clear j;go_wp2_with fail;refine(aA.out).mono ?_;rintro e w5 ⟨rfl,O⟩;have Y:=Hd (L.out.trans (O.mono L.out.size));clear O;go_wp2_with fail;go_ret;exact⟨rfl,Y.out⟩
end Go.Proofs.YtfofaiommeckbaaGreat
