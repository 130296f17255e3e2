import Derived.Test.YtfofaiommeckbaaGreatZSliceProves50
open Go.Value renaming slice → q9, int → rA
open Go.IntKind renaming u8 → rD
open Option renaming none → rF
open Nat renaming le_trans → bM, pow_le_pow_right → aY, two_pow_pos → fB, log2 → aX
open Bool renaming and_eq_true → cJ
open List renaming mem_singleton → fS, mem_append → eY, mem_cons → aE, length_map → gE
set_option linter.unusedVariables false
set_option maxRecDepth 100000
set_option maxHeartbeats 40000000
namespace Go.Proofs.YtfofaiommeckbaaGreat
open Go.RowKit Go.Maps WalkM WireM
theorem Zgx {only:Bool} {mk:Nat} {L hx:List Nat} {i:Int}(hL:∀y∈L,y<256)(hl:BL mk L)(h:(Pd (ofS only mk L) hx i).1=0):SpGood (Pd (ofS only mk L) hx i).2∧Ay (Pd (ofS only mk L) hx i).2 only=true:=by
 have e:=(Wb hL hl h).1;have g:=Zaz (only:=only) (mk:=mk) hL hl (by rw[Ye,e]);rw[Ye,e]at g;exact g
open ShaM
def Zl8 (r:Nat×SparseD)(i:Int):LeafD:=if r.1=0 then((Ag r.2.op (2*i)).getD Aq).leaf else noLeafD
theorem Zjz (w:World):LeafC w noLeafD #[q9 rF 0 0,q9 rF 0 0,q9 rF 0 0,rA rD 0,q9 rF 0 0,q9 rF 0 0]:=
 ⟨none,0,none,0,none,0,none,0,none,0,rfl,Tm _,Tm _,Tm _,Tm _,Tm _⟩
theorem Wc (v hv:Value)(L hx:List Nat)(i:Int)(w:World)(h:Rd w v (bvs L))(hh:Rd w hv (bvs hx))(hl:BL 2 L)(hL:∀n∈L,n<256)(J:∀n∈hx,n<256):
  Calls Tryz.prog 27 #[v,hv,rA .i64 i] w fun e w'=>(∃c,e=.returned (.tuple #[.agg c,rA rD ((Pd (ofS true 2 L) hx i).1:Nat)])∧LeafC w' (Zl8 (Pd (ofS true 2 L) hx i) i) c)∧Below w.heap.size w w':=by
 have RD:=fun(W:World) (hw:Below w.heap.size w W)=>Zl7 v hv L hx i 2 true W (h.below hw lR) (hh.below hw lR) hl hL J rfl (by omega);have GO:=fun h=>Zgx (only:=true) (mk:=2) (hx:=hx) (i:=i) hL hl h;have F:=fun h=>(Wb (only:=true) (mk:=2) (hx:=hx) (i:=i) hL hl h);obtain⟨va,vn,vc,rfl⟩:∃a n c,v=.slice a n c:=(by obtain⟨a,c,e,-⟩:=h;exact⟨_,_,_,e⟩);obtain⟨ha,hn,hc,rfl⟩:∃a n c,hv=.slice a n c:=(by obtain⟨a,c,e,-⟩:=hh;exact⟨_,_,_,e⟩);obtain⟨R,hR⟩:=eX (Pd (ofS true 2 L) hx i);rw[←hR]at RD GO F⊢;have F:=fun h0:R.1=0=>(show R.2.own=i from by have:=F h0;rw[this.1]at this;exact this.2.1);obtain⟨er,s⟩:=R;simp only at RD GO F;have aN:=Hd RD;have aI:=Hd GO;have aA:=Hd F;obtain⟨g,hg⟩:=eX w.heap.size;have HG:=Hd hg;have G0:=Hd (show Blk (w.alloc (.cells #[q9 rF 0 0,q9 rF 0 0,q9 rF 0 0,rA rD 0,q9 rF 0 0,q9 rF 0 0] 44)) g 44 #[q9 rF 0 0,q9 rF 0 0,q9 rF 0 0,rA rD 0,q9 rF 0 0,q9 rF 0 0] by rw[hg];exact Blk.new _ _ _);have B:=Hd ((Below.refl w.heap.size w).alloc lR (.cells #[q9 rF 0 0,q9 rF 0 0,q9 rF 0 0,rA rD 0,q9 rF 0 0,q9 rF 0 0] 44));clear RD GO F hR hg h hh hl hL J;go_enter Tryz.func27,Tryz.ntmps27;go_wp2_with fail;refine(aN.out _ B.out).mono ?_;rintro e w1 ⟨E,hr⟩;have r:=Hd (B.out.trans (E.mono B.out.size));have G1:=Hd (G0.out.below E G0.out.lt);rw[←HG.out];clear E
 by_cases h0:er=0
 ·rw[if_pos h0]at hr;obtain⟨ob,sb,gg,rfl,Y,N,P,k4,k5,aB⟩:=hr;subst h0;obtain⟨S,M⟩:=aI.out rfl;have how:=aA.out rfl;obtain⟨d,m,hd,aO,K,aH,-,-,-,hk⟩:=Wa M;have aF:i=(m:Int):=(by rw[←how,K]);subst aF;have aJ:2^d≤65536:=bM (aY (by omega) hd) (by decide);obtain⟨D,hD⟩:∃D,Ag s.op ((2*m:Nat):Int)=some D:=by
   cases e:Ag s.op ((2*m:Nat):Int)with
   |none=>rw[e]at hk;simp[Aq]at hk
   |some D=>exact⟨D,rfl⟩
  have e2:2*(m:Int)=((2*m:Nat):Int):=(by omega);have A:=Hd (show Zl8 (0,s) (m:Int)=D.leaf from by unfold Zl8;rw[if_pos rfl,e2,hD];rfl);have C:=S.small;simp only[Dh,cJ]at C;have aG:=Hd (List.all_eq_true.1 C.1.2 _ (Br hD));obtain⟨lv,t⟩:=eX s.leaves;obtain⟨ow,x⟩:=eX s.own;rw[←t,←x];obtain⟨w2,o⟩:=eX (w1.alloc (.cells #[rA .i64 lv,rA .i64 ow,.map (some ob),.map (some sb)] 101));obtain⟨q,hq⟩:=eX w1.heap.size;have p:Below w1.heap.size w1 w2:=(by rw[o];exact bR.alloc lR _);have aD:=Hd (aB.below p).pieceN;have Q2:=Hd (show Blk w2 q 101 #[rA .i64 lv,rA .i64 ow,.map (some ob),.map (some sb)] by rw[o,hq];exact Blk.new _ _ _);have I:=Hd (r.out.trans (p.mono r.out.size));have G2:=Hd (G1.out.below p G1.out.lt);obtain⟨GM,O,H⟩:=aD.out;have Z:=H ((2*m:Nat):Int);rw[hD]at Z;obtain⟨c,G,Q⟩:=Z;have V:=MapF.run_get (T:=98) O Tryz.underlying98 (Hb _) (k:=((2*m:Nat):Int)) (by unfold inI;omega);rw[G]at V;simp only[Option.getD_some]at V;have aQ:=Hd (If D c w2 Q aG.out);have p2:=Q2.out.cell 2;simp only[List.getElem?_toArray,List.getElem?_cons_zero,List.getElem?_cons_succ]at p2;rw[←e2]at V;have aS: -1000000≤(m:Int):=(by omega);have aR:(m:Int)≤1000000:=(by omega);have aK:=Hd o;have aT:=Hd hq;rw[o]at V p2;rw[hq]at p2;clear aB S M how aO K aH hk hD C t x o hq p O H G Q e2 Y N P k4 k5 aJ;go_wp2_with fail;rw[←aK.out];refine aQ.out.mono ?_;rintro e w3 ⟨c',rfl,aP,E⟩;have aL:=Hd (I.out.trans (E.mono I.out.size));have G3:=Hd (G2.out.below E G2.out.lt);have y:=G2.out.lt;obtain⟨x0,x1,x2,x3,x4,u0,u1,u2,rfl,h0,h1,h2,h3,h4,h5,h6,h7⟩:=aP;have LC:=fun(W:World) (b:∀j,j≠g→W.heap[j]? =w3.heap[j]?)=>Zem h0 h1 h2 h3 h4 (show g<w2.heap.size from y) b;obtain⟨a0,n1,k0,rfl⟩:=Co h0;obtain⟨a1,n2,Y,rfl⟩:=Co h1;obtain⟨a2,n3,N,rfl⟩:=Co h2;obtain⟨a3,n4,P,rfl⟩:=Co h3;obtain⟨a4,n5,k4,rfl⟩:=Co h4;obtain⟨a5,n6,k5,rfl⟩:=Co h5;obtain⟨a6,n7,k6,rfl⟩:=Co h6;obtain⟨a7,n8,k7,rfl⟩:=Co h7;obtain⟨sc,z⟩:=eX D.leaf.source;obtain⟨kd,U⟩:=eX D.kind;rw[←z,←U];rw[←z]at LC;have aE:=Hd LC;clear LC z U h0 h1 h2 h3 h4 h5 h6 h7 E y V p2;have aU:=Qg (rA rD (kd:Nat)) (q9 a0 n1 k0) (q9 a1 n2 Y) (q9 a2 n3 N) (rA rD (sc:Nat)) (q9 a3 n4 P) (q9 a4 n5 k4) (q9 a5 n6 k5) (q9 a6 n7 k6) (q9 a7 n8 k7) w3;go_wp2_with (refine Aa rfl 44 (.tmp 6) (.tmp 27) rfl g #[q9 a0 n1 k0,q9 a1 n2 Y,q9 a2 n3 N,rA rD (sc:Nat),q9 a3 n4 P,q9 a4 n5 k4] rfl rfl 44 #[q9 rF 0 0,q9 rF 0 0,q9 rF 0 0,rA rD 0,q9 rF 0 0,q9 rF 0 0] G3.out (by kernel_rfl) rfl rfl ?_);rintro w4 f u b l;have HK:=Hd f;have aC:=Hd (aL.out.trans (u w.heap.size (by rw[HG.out];exact lR)));have aM:=Hd (aE.out w4 b);clear f u b l;go_wp2_with fail;exact bodyPost_ret (v:=.tuple #[.agg #[q9 a0 n1 k0,q9 a1 n2 Y,q9 a2 n3 N,rA rD (sc:Nat),q9 a3 n4 P,q9 a4 n5 k4],rA rD 0]) (Ad Tryz.results27 _ _ g _ _ _ rfl HK.out Tryz.underlying44 rfl (by kernel_rfl)) rfl ⟨⟨_,rfl,by rw[A.out];exact aM.out⟩,aC.out⟩
 ·rw[if_neg h0]at hr;have aV:((er:Int) !=0)=true:=(by rw[bne_iff_ne];omega);have A:=Hd (show Zl8 (er,s) i=noLeafD from by unfold Zl8;rw[if_neg h0]);obtain rfl:=hr;clear h0;go_wp2_with (refine Aa rfl 44 (.tmp 6) (.tmp 19) rfl g #[q9 rF 0 0,q9 rF 0 0,q9 rF 0 0,rA rD 0,q9 rF 0 0,q9 rF 0 0] rfl rfl 44 #[q9 rF 0 0,q9 rF 0 0,q9 rF 0 0,rA rD 0,q9 rF 0 0,q9 rF 0 0] (G1.out.alloc _) (by kernel_rfl) rfl rfl ?_);rintro w3 f X b l;have P3:=Hd f;have B3:=Hd ((r.out.alloc r.out.size _).trans (X w.heap.size (by rw[HG.out];exact lR)));clear f X b l;go_wp2_with fail;exact bodyPost_ret (v:=.tuple #[.agg #[q9 rF 0 0,q9 rF 0 0,q9 rF 0 0,rA rD 0,q9 rF 0 0,q9 rF 0 0],rA rD (er:Nat)]) (Ad Tryz.results27 _ _ g _ _ _ rfl P3.out Tryz.underlying44 rfl (by kernel_rfl)) rfl ⟨⟨_,rfl,by rw[A.out];exact Zjz _⟩,B3.out⟩
theorem Za1 {V:Nat→Nat→List Int→List Int×List Int×Bool} {i c:Nat} {only:Bool} {d:NodeD} {late:List Int}(h:Bx (2*(i:Int)) (c:Int)=true):Fr V i only c 0 d late=V c 0 []:=by
 unfold Fr;rw[if_pos ⟨rfl,h⟩]
theorem Zl9 {F:Nat→Option NodeD} {i:Nat} {only:Bool}:∀(k x:Nat) (late:List Int),IsLev x k→x+2^k≤131071→(By F i only k x 0 late).2.2=true→inR k x (2*i)→((2*i:Nat):Int)∈(By F i only k x 0 late).1:=by
 intro k
 induction k with
 |zero=>
  intro x late j hx h a;cases e:F x with
  |none=>rw[Bl e]at h;cases h
  |some d=>
   rw[De e,fS];unfold inR at a;simp at a;omega
 |succ k ih=>
  intro x late j hx h a;have r:=fB k;have e2:2^(k+1)=2*2^k:=(by rw[Nat.pow_succ];omega);cases e:F x with
  |none=>rw[Bl e]at h;cases h
  |some d=>
   obtain⟨-,-,f,b,q⟩:=kids_lev (by omega) j;have o:x%2=1:=Fb j;rw[Cr e]at h⊢;unfold Pn at h⊢;simp only[cJ]at h;simp only[eY,fS];have n:∀c,IsLev c k→c≤131070→inR k c (2*i)→Bx (2*(i:Int)) (c:Int)=true:=fun c p m a=>by
    have g:2*i≤131070:=(by unfold inR at a;have:=fB (k+1);unfold inR at*;omega);have:=(Sa m g p).2 a
    rwa [show((2*i:Nat):Int)=2*(i:Int) by omega]at this
   rcases(Bd (by omega)).1 a with e3|a|a
   ·omega
   ·have l:=n (x-2^k) f (by omega) a;have h1:=h.1;rw[Za1 l]at h1⊢;exact .inl (.inl (ih _ _ f (by omega) h1 a))
   ·have l:=n (x+2^k) b (by omega) a;have h1:=h.2;rw[Za1 l]at h1⊢;exact .inr (ih _ _ b (by omega) h1 a)
theorem Zm5 {F:Int→Option NodeD} {H:Int→Option (List Nat)}(h:PieceOk F H):∀k x,∀y∈putS F H k x,y<256:=by
 intro k
 induction k with
 |zero=>
  intro x y a;cases e:F (x:Int)with
  |none=>
   rw[Fu e,aE]at a;rcases a with rfl|a
   ·omega
   ·exact Tc h x y a
  |some d=>
   rw[Il e,aE]at a;rcases a with rfl|a
   ·omega
   ·exact Nh (h.ok _ _ e).1 (h.ok _ _ e).2.1 y a
 |succ k ih=>
  intro x y a;cases e:F (x:Int)with
  |none=>
   rw[Fu e,aE]at a;rcases a with rfl|a
   ·omega
   ·exact Tc h x y a
  |some d=>
   rw[Im e]at a;simp only[eY,aE]at a;rcases a with(rfl|a)|a|a
   ·omega
   ·exact Nh (h.ok _ _ e).1 (h.ok _ _ e).2.1 y a
   ·exact ih _ y a
   ·exact ih _ y a
structure TakenS (t:List NodeD) (s:SparseD) (m mk:Nat) (only:Bool):Prop where
 ok:SparseOk s
 small:Dh s=true
 right:Ay s only=true
 piece:PieceOk (Ag s.op) (Ax s.sh)
 bl:BL mk (bytesOf s mk)
 lt:∀y∈bytesOf s mk,y<256
 hash:Ir s=Cx (nd t) (t.length/2)
 of:ofS only mk (bytesOf s mk)=(0,s)
 chk:Pd (ofS only mk (bytesOf s mk)) (Cx (nd t) (t.length/2)) (m:Int)=(0,s)
 leaf:Ag s.op (2*(m:Int))=some (nd t (2*m))
theorem Zgy {t:List NodeD} (u:Bc t=true) (A:TreeOk t) (U:Bi t=true) {C m d mk:Nat} {only:Bool} {b c:List Nat} (q:t.length=2*C+1) (J:d≤16) (E:C+1=2^d) (V:m<C+1) (hk:(nd t (2*m)).kind=1) (G:mk<256)
  (v:(By (atT t) m only d (2^d-1) 0 []).1=b.map (fun m:Nat=>(m:Int))) (H:(By (atT t) m only d (2^d-1) 0 []).2.1=c.map (fun m:Nat=>(m:Int))) (O:b.Pairwise (· < ·)) (K:c.Pairwise (· < ·))
  (L:∀x∈b,x<t.length) (P:∀x∈c,x<t.length):TakenS t (Ed t (2^d) m b c) m mk only:=by
 have h:=fB d;have Q:2^d≤65536:=bM (aY (by omega) J) (by decide);have I:=Bg u;obtain⟨N,f2,f3,R⟩:=Te (t:=t) (M:=2^d) (m:=m) O K;have j:(By (atT t) m only d (2^d-1) 0 []).2.2=true:=Xx d (2^d-1) 0 [] (Ca d) (by omega) fun y f=>by
  unfold inR at f;unfold atT;rw[if_pos (by omega)];rfl
 have r:2*m∈b:=by
  have:=Zl9 (F:=atT t) (only:=only) d (2^d-1) [] (Ca d) (by omega) j (by unfold inR;omega);rw[v]at this;obtain⟨x,hx,e⟩:=List.mem_map.1 this
  rwa [show 2*m=x by omega]
 have w:2^d-1∈b:=by
  have:=(Vd (F:=atT t) (i:=m) (only:=only) d (2^d-1) 0 [] (Ca d) (by omega) j).1;rw[v]at this;obtain⟨x,hx,e⟩:=List.mem_map.1 this
  rwa [show 2^d-1=x by omega]
 have T:=Nj (atT t) m only d (2^d-1) 0 [];rw[v,H,gE,gE]at T;have a:=Zgt (only:=only) u U q J E (by omega) hk v H O K L P r;have k:SparseOk (Ed t (2^d) m b c):=by
  refine⟨by unfold inI Ed;simp only;omega,by unfold inI Ed;simp only;omega,fun p h=> ?_,fun p h=> ?_⟩
  ·obtain⟨x,hx,rfl⟩:=List.mem_map.1 h;have:=L x hx;exact⟨by unfold inI;simp only;omega,A.nd x⟩
  ·obtain⟨x,hx,rfl⟩:=List.mem_map.1 h;have:=P x hx;exact⟨by unfold inI;simp only;omega,Zal _ _⟩
 have n:Dh (Ed t (2^d) m b c)=true:=by
  unfold Dh;simp only[cJ,decide_eq_true_eq];refine⟨⟨⟨?_,?_⟩,List.all_eq_true.2 fun p h=> ?_⟩,List.all_eq_true.2 fun p h=> ?_⟩
  ·show(b.map _).length≤5000;rw[gE];omega
  ·show(c.map _).length≤5000;rw[gE];omega
  ·obtain⟨x,hx,rfl⟩:=List.mem_map.1 h;exact Cq u x
  ·obtain⟨x,hx,rfl⟩:=List.mem_map.1 h;exact decide_eq_true (by rw[Oz];omega)
 have g:∀p∈(Ed t (2^d) m b c).op,p.2.par.late.length≤200:=fun p h=>by
  obtain⟨x,hx,rfl⟩:=List.mem_map.1 h;have:=of_decide_eq_true (Ie u x);show(nd t x).par.late.length≤200;omega
 have D:=(Kb a k n).1;have l:aX (Ed t (2^d) m b c).leaves.toNat=d:=by
  show aX (((2^d:Nat):Int)).toNat=d;rw[Int.toNat_natCast,Nat.log2_two_pow]
 have S:(Ed t (2^d) m b c).own.toNat=m:=Int.toNat_natCast m;have z:(bytesOf (Ed t (2^d) m b c) mk).length≤1000000:=by
  unfold bytesOf Le;rw[l];have:=La D d (2^d-1);simp only[List.length_append,beN_len,List.length_cons,List.length_nil];omega
 have B:∀y∈bytesOf (Ed t (2^d) m b c) mk,y<256:=by
  intro y f;unfold bytesOf Le at f;simp only[eY,aE,List.not_mem_nil,or_false]at f;rcases f with((rfl|f)|f)|f
  ·exact G
  ·exact beN_lt _ _ y f
  ·exact beN_lt _ _ y f
  ·exact Zm5 D _ _ y f
 have o:=(Zax a g mk (by omega)).1;have s:Ir (Ed t (2^d) m b c)=Cx (nd t) (t.length/2):=by
  unfold Ir;rw[l,Zgu f3 R (Vx a) d (2^d-1) (Ca d) (by omega) (.inl (by rw[N _ w];rfl))];have e:t.length/2=2^d-1:=(by omega);rw[e];unfold Cx;rw[lev_eq (by omega) (Ca d)]
 refine⟨k,n,a,D,Zjt a n g mk z,B,s,o,?_,?_⟩
 ·unfold Pd;rw[o];simp only[ne_eq,not_true_eq_false,if_false];rw[if_neg (by show¬¬((m:Nat):Int)=(m:Int);simp),if_neg (by rw[s];simp)]
 ·have:=N _ r
  rwa [show((2*m:Nat):Int)=2*(m:Int) by omega]at this
end Go.Proofs.YtfofaiommeckbaaGreat
