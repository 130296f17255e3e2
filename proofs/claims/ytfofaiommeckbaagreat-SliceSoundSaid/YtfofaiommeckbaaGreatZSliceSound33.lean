/- Walks: slice.Right. -/
import Derived.Test.YtfofaiommeckbaaGreatZSliceSoundB
import Derived.Test.YtfofaiommeckbaaGreatZSliceSound32
open List renaming length_append → aI, getElem?_toArray → cC, getElem?_cons_zero → cD
set_option linter.unusedVariables false
set_option maxRecDepth 100000
set_option maxHeartbeats 40000000
namespace Go.Proofs.YtfofaiommeckbaaGreat
open Go.RowKit Go.Maps WalkM WireM
theorem Wq (v:Value)(s:SparseD)(w:World)(h:SparseR w v s)(l:SparseOk s)(t:Ec s=true):
  Calls Tryz.prog 58 #[v] w fun e w'=>e=.returned (.bool (Ar s false))∧Below w.heap.size w w':=by
 have r:=fun(W:World) (u:Below w.heap.size w W)=>Ns v s W (h.below u lR) l t;obtain⟨o,g,rfl,-,-⟩:=h;rw[←Zjp];obtain⟨x,k⟩:=eX (Ck s);obtain⟨y,d⟩:=eX (okS s);have p:=Hd k;have n:=Hd d;have i:Hid (∀W,Below w.heap.size w W→Calls Tryz.prog 88 #[.agg #[.int .i64 s.leaves,.int .i64 s.own,o,g]] W (Rv s W)):=r;obtain⟨lv,c⟩:=eX s.leaves;obtain⟨ow,how⟩:=eX s.own;have q:=Hd c;have m:=Hd how;rw[←c,←how]at i⊢;rw[←d];have f:=Hd ((Below.refl w.heap.size w).alloc lR (.cells #[.int .i64 lv,.int .i64 ow,o,g] 25));clear r l t k d c how;go_enter Tryz.func58,Tryz.ntmps58;go_wp2_with fail;refine(i.out _ f.out).mono ?_;rintro e z ⟨j,a⟩;have b:=Hd (f.out.trans (j.mono f.out.size));rw[←p.out,←q.out,←m.out,←n.out]at a;clear j;cases x with
 |false=>
  rw[if_neg (by simp)]at a;obtain rfl:=a;go_wp2_with fail;go_ret;exact⟨rfl,b.out.alloc b.out.size _⟩
 |true=>
  rw[if_pos rfl]at a;obtain⟨ob,sb,rfl,-⟩:=a;go_wp2_with fail;go_ret;exact⟨rfl,b.out.alloc b.out.size _⟩
def Zj (F:Int→Option NodeD)(H:Int→Option (List Nat))(m d i:Nat):List Nat:=([m]++beN 4 (2^d))++beN 4 i++putS F H d (2^d-1)
theorem Uk {d:Nat}(hd:d≤16):Mo ((2^d:Nat):Int)=((2^d-1:Nat):Int):=by
 have hf:fits (((2^d:Nat):Int)).toNat=true:=(by rw[Int.toNat_natCast];exact(fits_iff _).2 ⟨d,hd,rfl⟩);have:=Nat.two_pow_pos d;rw[Mo,if_pos hf];omega
theorem Zbj (F:Int→Option NodeD)(H:Int→Option (List Nat))(hP:PieceOk F H)(d i m ob sb nb mb:Nat)(G G':Int→Option Value)(w0 w:World)(hd:d≤16)(hi:i<2^d)(hm:MapF w0 ob nb G)(hg:NodesG w0 G F)(M:MapF w0 sb mb G')(P:RunsH w0 G' H)(hB:Below w0.heap.size w0 w):
  Calls Tryz.prog 75 #[.agg #[.int .i64 ((2^d:Nat):Int),.int .i64 (i:Nat),.map (some ob),.map (some sb)],.int .u8 (m:Nat)] w fun e w'=>∃v',e=.returned v'∧Own w' w.heap.size 5 v' (bvs (Zj F H m d i))∧Below w.heap.size w w':=by
 have aG:2^d≤65536:=Nat.le_trans (Nat.pow_le_pow_right (by omega) hd) (by decide);have aJ:=Nat.two_pow_pos d;have j:=fun(D:World) (U:Below w0.heap.size w0 D) (v:Value) (xs:List Nat) (W:World) (h2:Below D.heap.size D W) (h4:Own W D.heap.size 5 v (bvs xs)) (h5:xs.length≤100)=>
  Zku F H hP d (2^d-1) ((2^d:Nat):Int) (i:Int) ob sb nb mb G G' D D.heap.size v xs W (Cp d) (by omega) (hm.below U lR) (hg.below U lR) (M.below U lR) (P.below U lR) lR h2 h2.size h4 (by omega)
 have R:=fun(W:World)=>Lw ((2^d:Nat):Int) W (by omega) (by omega);rw[Uk hd]at R;have E:Zj F H m d i=([m]++beN 4 (2^d))++beN 4 i++putS F H d (2^d-1):=rfl;obtain⟨Y,hY⟩:=eX (putS F H d (2^d-1));rw[←hY]at E;simp only[←hY]at j;obtain⟨x,hx⟩:=eX (2^d-1);simp only[←hx]at j R;obtain⟨n,hn⟩:=eX (2^d);rw[←hn]at aG E hi⊢;simp only[←hn]at j R;have P1:=fun(v:Value) (W:World) (h:Rd W v (bvs [m]))=>Fj v [m] 4 n W h (by simp) rfl (by omega);have V:=fun(v:Value) (W:World) (h:Rd W v (bvs ([m]++beN 4 n)))=>Fj v ([m]++beN 4 n) 4 i W h (by rw[aI,beN_len];simp) rfl (by omega);obtain⟨A,hA⟩:=eX ([m]++beN 4 n);obtain⟨C,T⟩:=eX (A++beN 4 i);have Q:C.length≤100:=(by rw[T,hA];simp only[aI,beN_len,List.length_cons,List.length_nil];omega);rw[←hA]at E;simp only[←hA]at P1 V;rw[←T]at E;simp only[←T]at V;rw[E];have O:=Hd j;have aE:=Hd R;have aD:=Hd P1;have aF:=Hd V;have aB:=Hd Q;have HB:=Hd hB;obtain⟨p,hp⟩:=eX w.heap.size;have HP:=Hd hp;have aO:IntKind.u64.wrap ((n:Nat):Int)=(n:Int):=(by rw[IntKind.wrap_u64];omega);have aT:IntKind.u64.wrap ((i:Nat):Int)=(i:Int):=(by rw[IntKind.wrap_u64];omega);have B:=Hd (show Blk (w.alloc (.cells #[.int .i64 (n:Nat),.int .i64 (i:Nat),.map (some ob),.map (some sb)] 101)) w.heap.size 101 #[.int .i64 (n:Nat),.int .i64 (i:Nat),.map (some ob),.map (some sb)]from Blk.new _ _ _);have q0:=B.out.cell 0;simp only[cC,cD]at q0;clear j R P1 V E hY hx hn hA T Q hB hp hm hg M P aJ hd;go_enter Tryz.func75,Tryz.ntmps75;go_wp2_with fail;refine(aD.out _ _ ?rd).mono ?_;case rd=>
  have h1:=Blk.new (w.alloc (.cells #[.int .i64 (n:Nat),.int .i64 (i:Nat),.map (some ob),.map (some sb)] 101)) 5 #[.int .u8 (m:Nat)];exact Blk.rdV (cs:=[.int .u8 (m:Nat)]) (by simpa using h1) (by unfold maxLen;simp)
 rintro e b ⟨v1,rfl,k,t⟩;have s:=Hd ((B.out.alloc (.cells #[.int .u8 (m:Nat)] 5)).below t (B.out.alloc _).lt);have l:=Hd ((((Below.refl w.heap.size w).alloc lR (.cells #[.int .i64 (n:Nat),.int .i64 (i:Nat),.map (some ob),.map (some sb)] 101)).alloc (by simp) (.cells #[.int .u8 (m:Nat)] 5)).trans (t.mono (by simp;omega)));have aK:=Hd k;rw[←HP.out]at s⊢;clear k t q0;go_wp2_with fail;refine Hf [eF (.agg #[.int .i64 (n:Nat),.int .i64 (i:Nat),.map (some ob),.map (some sb)]),eF v1,eF (.pointer (some ⟨p,1,none⟩)),eF (.int .i64 (i:Nat)),eF (.int .u64 (i:Nat)),fun u w'=>Own w' b.heap.size 5 u (bvs C),eF (.pointer (some ⟨p,0,none⟩)),eF (.int .i64 (n:Nat)),eF (.int .i64 (x:Nat)),fun u w'=>Own w' b.heap.size 5 u (bvs (C++Y))∧Below b.heap.size b w',fun u w'=>Own w' b.heap.size 5 u (bvs (C++Y))∧Below b.heap.size b w']
  (fun X=>Below b.heap.size b X) (fun X Z=>Below X.heap.size X Z) none 9 (by kernel_rfl) (by kernel_rfl) (by kernel_rfl) (by kernel_rfl)
  (kE (kE (kE (kE (kE (Ah (fun u x y h hi hs=>Own.below h hs lR) (kE (kE (kE (Ah (fun _ _ _ _ _ _=>trivial) (Ah (fun _ _ _ _ _ _=>trivial) Ae)))))))))))
  (fun u x y h L=>⟨h.1.below L lR,h.2.trans (L.mono h.2.size)⟩) (fun u x y h L=>⟨h.1.below L lR,h.2.trans (L.mono h.2.size)⟩) ⟨rfl,rfl,rfl,lR,fun _ _=>rfl⟩ (fun _ _ _ h=>h) (fun _ _ hx hs=>hx.trans (hs.mono hx.size)) ?_ ?_
 ·refine gO9 rfl ?_ (gP9 rfl ?_ rfl (gP9 rfl ?_ rfl (gP9 rfl ?_ rfl (gP9 rfl ?_ rfl (gO9 rfl ?_ (gP9 rfl ?_ rfl (gP9 rfl ?_ rfl (gO9 rfl ?_ (gO9 rfl ?_ (gT9 rfl ?_ .nil))))))))))
  rotate_right
  ·intro a o ho I;refine⟨rfl,?_⟩;intro K z;have J:Own o b.heap.size 5 (a.tmps[21]?.getD undef) (bvs (C++Y))∧Below b.heap.size b o:=I.1;obtain⟨v2,c⟩:=eX (a.tmps[21]?.getD undef);rw[←c]at J;have e1:=c.symm;clear c;go_simp;exact z _ _ J bR
  all_goals
   intro a o g aS ho I;have g:Below b.heap.size b o:=g;refine⟨rfl,?_⟩;intro K z;try have aM:a.tmps[2]?.getD undef=.pointer (some ⟨p,0,none⟩):=ho 2 (by kernel_rfl)
   try have aQ:a.tmps[5]?.getD undef=v1:=ho 5 (by kernel_rfl)
   try have aP:=eqn I.1
   try have aN:=eqn I.2.1
   try have aR:=eqn I.2.2.1
   have r:=s.out.below g s.out.lt;try(have aC:=r.cell 0;simp only[cC,cD]at aC)
   try(have aH:=r.cell 1;simp only[cC,cD,List.getElem?_cons_succ]at aH)
   try(refine Hd ?_;go_simp;exact z _ rfl)
  ·exact wp_load_row 101 (.tmp 2) rfl _ (evs aM) _ _ (0,0) _ r Tryz.underlying101 rfl (by kernel_rfl) (z _ _ rfl (fun _=>Af rfl bR))
  ·go_simp;refine(aF.out _ o (aK.out.rd.below g lR)).mono ?_;rintro e w2 ⟨u,rfl,aL,aA⟩;exact z _ _ (aL.mono g.size) (fun _=>Af rfl aA)
  ·go_simp;refine(aE.out o).mono ?_;rintro e w2 ⟨rfl,rfl⟩;exact z _ _ rfl (fun _=>Af rfl bR)
  ·have J:Own o b.heap.size 5 (a.tmps[17]?.getD undef) (bvs C):=I.2.1;obtain⟨v2,c⟩:=eX (a.tmps[17]?.getD undef);rw[←c]at J;have e1:=c.symm;clear c;go_simp;refine(O.out b (HB.out.trans (l.out.mono HB.out.size)) v2 C o g J aB.out).mono ?_;rintro e w2 ⟨u,rfl,S⟩;exact z _ _ ⟨S.own,g.trans S.step.1⟩ (fun h=>absurd rfl h)
 ·rintro f w9 q;have S4:Own w9 b.heap.size 5 (f 4) (bvs (C++Y))∧Below b.heap.size b w9:=q.2.2.2.2.2.2.2.2.2.2.1;clear q;simp only[Aj,Aq,Dr,List.filterMap_cons,List.filterMap_nil,List.contains_cons,List.contains_nil,Nat.reduceBEq,Nat.reduceAdd,Bool.or_false,Bool.or_true,cond_true,cond_false];obtain⟨u,hu⟩:=eX (f 4);rw[←hu]at S4⊢;have N:=Hd S4;clear S4 hu;go_wp2_with fail;go_ret;exact⟨_,rfl,N.out.1.mono l.out.size,l.out.trans (N.out.2.mono l.out.size)⟩
theorem Fo {s:SparseD} {only:Bool}(h:Ar s only=true)(c:SparseOk s)(k:Ec s=true):
  PieceOk (Ai s.op) (Ax s.sh)∧∃d i:Nat,d≤16∧s.leaves=((2^d:Nat):Int)∧s.own=(i:Int)∧i<2^d∧Nat.log2 s.leaves.toNat=d∧s.own.toNat=i:=by
 unfold Ar at h;simp only[Bool.and_eq_true]at h;obtain⟨⟨⟨⟨m,l⟩,j⟩,f⟩,-⟩:=h;have l:=of_decide_eq_true l;simp only[Ec,Bool.and_eq_true]at k;refine⟨⟨fun x d g=> ?_,fun x L g=> ?_⟩,?_⟩
 ·have a:=Dw g;exact⟨(c.op _ a).2,List.all_eq_true.1 k.1.2 _ a,(Nm (List.all_eq_true.1 j _ a)).2.1⟩
 ·have a:=Ud g;exact⟨Nat.le_of_eq (of_decide_eq_true (List.all_eq_true.1 f _ a)),(c.sh _ a).2⟩
 ·obtain⟨d,n,e⟩:=(fits_iff _).1 m;have b:s.leaves=((2^d:Nat):Int):=(by omega);exact⟨d,s.own.toNat,n,b,by omega,by omega,by rw[b,Int.toNat_natCast,Nat.log2_two_pow],rfl⟩
def bytesOf (s:SparseD)(m:Nat):List Nat:=Zj (Ai s.op) (Ax s.sh) m (Nat.log2 s.leaves.toNat) s.own.toNat
theorem Wr (v:Value)(s:SparseD)(w:World)(h:SparseR w v s)(n:SparseOk s)(H:Ec s=true):
  Calls Tryz.prog 42 #[v] w fun e w'=>(if Ar s false=true then∃v',e=.returned (.tuple #[v',.int .u8 0])∧Own w' w.heap.size 5 v' (bvs (bytesOf s 1))else e=.returned (.tuple #[.slice none 0 0,.int .u8 3]))∧Below w.heap.size w w':=by
 have S:=fun(W:World) (X:Below w.heap.size w W)=>Ns v s W (h.below X lR) n H;have A:=fun(T:Ar s false=true) (ob sb:Nat) (G y:Int→Option Value) (w0 W:World) (C:MapF w0 ob s.op.length G) (D:NodesG w0 G (Ai s.op)) (m:MapF w0 sb s.sh.length y) (l:RunsH w0 y (Ax s.sh)) (V:Below w0.heap.size w0 W)=>(show Calls Tryz.prog 75 #[.agg #[.int .i64 s.leaves,.int .i64 s.own,.map (some ob),.map (some sb)],.int .u8 1] W fun e w'=>∃v',e=.returned v'∧Own w' W.heap.size 5 v' (bvs (bytesOf s 1))∧Below W.heap.size W w' from by
  obtain⟨hP,d,i,hd,h1,h2,h3,U,Z⟩:=Fo T n H;unfold bytesOf;rw[U,Z,h1,h2];exact Zbj _ _ hP d i 1 ob sb _ _ G y w0 W hd h3 C D m l V)
 obtain⟨o,g,rfl,-,-⟩:=h;have f:=Zjp s;obtain⟨M,r⟩:=eX (Ck s);have q:Ck s=false→Ar s false=false:=fun e=>(by rw[←f,okS,e];rfl);obtain⟨Y,p⟩:=eX (Ar s false);rw[←r,←p]at q;rw[←p]at A f⊢;have O:=Hd r;have J:=Hd q;have K:=Hd f;have x:Hid (∀W,Below w.heap.size w W→Calls Tryz.prog 88 #[.agg #[.int .i64 s.leaves,.int .i64 s.own,o,g]] W (Rv s W)):=S;obtain⟨lv,j⟩:=eX s.leaves;obtain⟨ow,how⟩:=eX s.own;have Q:=Hd j;have I:=Hd how;obtain⟨YS,u⟩:=eX (bytesOf s 1);rw[←j,←how]at x A;rw[←u]at A;rw[←j,←how,←u];have B:=Hd A;have t:=Hd ((Below.refl w.heap.size w).alloc lR (.cells #[.int .i64 lv,.int .i64 ow,o,g] 25));clear S A n H r p j how u q f;go_enter Tryz.func42,Tryz.ntmps42;go_wp2_with fail;refine(x.out _ t.out).mono ?_;rintro e w3 ⟨k,b⟩;have a:=Hd (t.out.trans (k.mono t.out.size));rw[←O.out,←Q.out,←I.out,K.out]at b;cases M with
 |false=>
  rw[if_neg (by simp)]at b;obtain rfl:=J.out rfl;obtain rfl:=b;go_wp2_with fail;go_ret2;exact⟨rfl,a.out.alloc a.out.size _⟩
 |true=>
  rw[if_pos rfl]at b;obtain⟨ob,sb,rfl,R,N,-,G,y,C,D,m,l⟩:=b;cases Y with
  |false=>
   go_wp2_with fail;go_ret2;exact⟨rfl,a.out.alloc a.out.size _⟩
  |true=>
   have HM:=Hd C;have P:=Hd m;have HG:=Hd (D.below k lR);have E:=Hd (l.below k lR);clear k C m D l R N;go_wp2_with fail;refine(B.out (by trivial) ob sb G y w3 _ HM.out HG.out P.out E.out (bR.alloc lR _)).mono ?_;rintro e w4 ⟨v4,rfl,c,z⟩;have F:=Hd ((a.out.alloc a.out.size _).trans (z.mono (by have:=a.out.size;simp;omega)));have L:=Hd (c.mono (show w.heap.size≤_ by have:=a.out.size;simp;omega));clear c z;go_wp2_with fail;go_ret2;exact⟨⟨_,rfl,L.out⟩,F.out⟩
end Go.Proofs.YtfofaiommeckbaaGreat
namespace Go.Proofs.YtfofaiommeckbaaGreat
open Go.RowKit WalkM WireM
end Go.Proofs.YtfofaiommeckbaaGreat
