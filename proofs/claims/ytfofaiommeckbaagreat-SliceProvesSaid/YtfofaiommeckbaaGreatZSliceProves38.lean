import Derived.Test.YtfofaiommeckbaaGreatZSliceProves37
open Go.Value renaming slice → q9, pointer → rB
open Option renaming none → rF
open Go.Proofs.Tryz
open Int renaming toNat_natCast → dG, tmod → fC, tmod_eq_emod_of_nonneg → fD
open Nat renaming two_pow_pos → fB, le_trans → bM, pow_le_pow_right → aY, log2 → aX
open List renaming length_append → aG, length_cons → bY, length_nil → bT, getElem?_toArray → bZ, getElem?_cons_zero → cA, getElem?_cons_succ → cB, filterMap_cons → cX, filterMap_nil → cY, contains_cons → cZ, contains_nil → dA
open Bool renaming or_false → dB, or_true → dC, and_eq_true → cJ
set_option linter.unusedVariables false
set_option maxRecDepth 100000
set_option maxHeartbeats 40000000
namespace Go.Proofs.YtfofaiommeckbaaGreat
open Go.RowKit Go.Maps WalkM WireM
theorem Xu (v:Value)(s:SparseD)(w:World)(h:SparseR w v s)(j:SparseOk s)(t:Dh s=true):
  Calls prog 58 #[v] w fun e w'=>e=.returned (.bool (Ay s false))∧Below w.heap.size w w':=by
 have r:=fun(W:World) (u:Below w.heap.size w W)=>Xs v s W (h.below u lR) j t;obtain⟨o,g,rfl,-,-⟩:=h;rw[←Zmz];obtain⟨x,i⟩:=eX (Ct s);obtain⟨z,c⟩:=eX (okS s);have q:=Hd i;have n:=Hd c;have l:Hid (∀W,Below w.heap.size w W→Calls prog 88 #[.agg #[.int .i64 s.leaves,.int .i64 s.own,o,g]] W (Zag s W)):=r;obtain⟨lv,f⟩:=eX s.leaves;obtain⟨ow,how⟩:=eX s.own;have m:=Hd f;have p:=Hd how;rw[←f,←how]at l⊢;rw[←c];have d:=Hd ((Below.refl w.heap.size w).alloc lR (.cells #[.int .i64 lv,.int .i64 ow,o,g] 25));clear r j t i c f how;go_enter func58,ntmps58;go_wp2_with fail;refine(l.out _ d.out).mono ?_;rintro e y ⟨k,a⟩;have b:=Hd (d.out.trans (k.mono d.out.size));rw[←q.out,←m.out,←p.out,←n.out]at a;clear k;cases x with
 |false=>
  rw[if_neg (by simp)]at a;obtain rfl:=a;go_wp2_with fail;go_ret;exact⟨rfl,b.out.alloc b.out.size _⟩
 |true=>
  rw[if_pos rfl]at a;obtain⟨ob,sb,rfl,-⟩:=a;go_wp2_with fail;go_ret;exact⟨rfl,b.out.alloc b.out.size _⟩
def Le (F:Int→Option NodeD)(H:Int→Option (List Nat))(m d i:Nat):List Nat:=([m]++beN 4 (2^d))++beN 4 i++putS F H d (2^d-1)
theorem Vs {d:Nat}(hd:d≤16):Nu ((2^d:Nat):Int)=((2^d-1:Nat):Int):=by
 have hf:fits (((2^d:Nat):Int)).toNat=true:=(by rw[dG];exact(fits_iff _).2 ⟨d,hd,rfl⟩);have:=fB d;rw[Nu,if_pos hf];omega
theorem Zb7 (F:Int→Option NodeD)(H:Int→Option (List Nat))(hP:PieceOk F H)(d i m ob sb nb mb:Nat)(G G':Int→Option Value)(w0 w:World)(hd:d≤16)(hi:i<2^d)(hm:MapF w0 ob nb G)(hg:NodesG w0 G F)(L:MapF w0 sb mb G')(P:RunsH w0 G' H)(hB:Below w0.heap.size w0 w):
  Calls prog 75 #[.agg #[.int .i64 ((2^d:Nat):Int),.int .i64 (i:Nat),.map (some ob),.map (some sb)],.int .u8 (m:Nat)] w fun e w'=>∃v',e=.returned v'∧Own w' w.heap.size 5 v' (bvs (Le F H m d i))∧Below w.heap.size w w':=by
 have aD:2^d≤65536:=bM (aY (by omega) hd) (by decide);have aE:=fB d;have j:=fun(I:World) (h0:Below w0.heap.size w0 I) (v:Value) (xs:List Nat) (W:World) (h2:Below I.heap.size I W) (h4:Own W I.heap.size 5 v (bvs xs)) (h5:xs.length≤100)=>
  Zlt F H hP d (2^d-1) ((2^d:Nat):Int) (i:Int) ob sb nb mb G G' I I.heap.size v xs W (Ca d) (by omega) (hm.below h0 lR) (hg.below h0 lR) (L.below h0 lR) (P.below h0 lR) lR h2 h2.size h4 (by omega)
 have J:=fun(W:World)=>Mx ((2^d:Nat):Int) W (by omega) (by omega);rw[Vs hd]at J;have E:Le F H m d i=([m]++beN 4 (2^d))++beN 4 i++putS F H d (2^d-1):=rfl;obtain⟨Y,hY⟩:=eX (putS F H d (2^d-1));rw[←hY]at E;simp only[←hY]at j;obtain⟨x,hx⟩:=eX (2^d-1);simp only[←hx]at j J;obtain⟨n,hn⟩:=eX (2^d);rw[←hn]at aD E hi⊢;simp only[←hn]at j J;have P1:=fun(v:Value) (W:World) (h:Rd W v (bvs [m]))=>Fl v [m] 4 n W h (by simp) rfl (by omega);have V:=fun(v:Value) (W:World) (h:Rd W v (bvs ([m]++beN 4 n)))=>Fl v ([m]++beN 4 n) 4 i W h (by rw[aG,beN_len];simp) rfl (by omega);obtain⟨A,T⟩:=eX ([m]++beN 4 n);obtain⟨C,U⟩:=eX (A++beN 4 i);have O:C.length≤100:=(by rw[U,T];simp only[aG,beN_len,bY,bT];omega);rw[←T]at E;simp only[←T]at P1 V;rw[←U]at E;simp only[←U]at V;rw[E];have N:=Hd j;have aJ:=Hd J;have aH:=Hd P1;have aA:=Hd V;have aC:=Hd O;have HB:=Hd hB;obtain⟨p,hp⟩:=eX w.heap.size;have HP:=Hd hp;have aS:IntKind.u64.wrap ((n:Nat):Int)=(n:Int):=(by rw[IntKind.wrap_u64];omega);have aO:IntKind.u64.wrap ((i:Nat):Int)=(i:Int):=(by rw[IntKind.wrap_u64];omega);have t:=Hd (show Blk (w.alloc (.cells #[.int .i64 (n:Nat),.int .i64 (i:Nat),.map (some ob),.map (some sb)] 101)) w.heap.size 101 #[.int .i64 (n:Nat),.int .i64 (i:Nat),.map (some ob),.map (some sb)]from Blk.new _ _ _);have q0:=t.out.cell 0;simp only[bZ,cA]at q0;clear j J P1 V E hY hx hn T U O hB hp hm hg L P aE hd;go_enter func75,ntmps75;go_wp2_with fail;refine(aH.out _ _ ?rd).mono ?_;case rd=>
  have h1:=Blk.new (w.alloc (.cells #[.int .i64 (n:Nat),.int .i64 (i:Nat),.map (some ob),.map (some sb)] 101)) 5 #[.int .u8 (m:Nat)];exact Blk.rdV (cs:=[.int .u8 (m:Nat)]) (by simpa using h1) (by unfold maxLen;simp)
 rintro e b ⟨v1,rfl,k,B⟩;have s:=Hd ((t.out.alloc (.cells #[.int .u8 (m:Nat)] 5)).below B (t.out.alloc _).lt);have l:=Hd ((((Below.refl w.heap.size w).alloc lR (.cells #[.int .i64 (n:Nat),.int .i64 (i:Nat),.map (some ob),.map (some sb)] 101)).alloc (by simp) (.cells #[.int .u8 (m:Nat)] 5)).trans (B.mono (by simp;omega)));have aI:=Hd k;rw[←HP.out]at s⊢;clear k B q0;go_wp2_with fail;refine Hm [eF (.agg #[.int .i64 (n:Nat),.int .i64 (i:Nat),.map (some ob),.map (some sb)]),eF v1,eF (rB (some ⟨p,1,rF⟩)),eF (.int .i64 (i:Nat)),eF (.int .u64 (i:Nat)),fun u w'=>Own w' b.heap.size 5 u (bvs C),eF (rB (some ⟨p,0,rF⟩)),eF (.int .i64 (n:Nat)),eF (.int .i64 (x:Nat)),fun u w'=>Own w' b.heap.size 5 u (bvs (C++Y))∧Below b.heap.size b w',fun u w'=>Own w' b.heap.size 5 u (bvs (C++Y))∧Below b.heap.size b w']
  (fun X=>Below b.heap.size b X) (fun X Z=>Below X.heap.size X Z) none 9 (by kernel_rfl) (by kernel_rfl) (by kernel_rfl) (by kernel_rfl)
  (kE (kE (kE (kE (kE (Ai (fun u x y h hi hs=>Own.below h hs lR) (kE (kE (kE (Ai (fun _ _ _ _ _ _=>trivial) (Ai (fun _ _ _ _ _ _=>trivial) Ah)))))))))))
  (fun u x y h S=>⟨h.1.below S lR,h.2.trans (S.mono h.2.size)⟩) (fun u x y h S=>⟨h.1.below S lR,h.2.trans (S.mono h.2.size)⟩) ⟨rfl,rfl,rfl,lR,fun _ _=>rfl⟩ (fun _ _ _ h=>h) (fun _ _ hx hs=>hx.trans (hs.mono hx.size)) ?_ ?_
 ·refine gO9 rfl ?_ (gP9 rfl ?_ rfl (gP9 rfl ?_ rfl (gP9 rfl ?_ rfl (gP9 rfl ?_ rfl (gO9 rfl ?_ (gP9 rfl ?_ rfl (gP9 rfl ?_ rfl (gO9 rfl ?_ (gO9 rfl ?_ (gT9 rfl ?_ .nil))))))))))
  rotate_right
  ·intro a o ho D;refine⟨rfl,?_⟩;intro K z;have Q:Own o b.heap.size 5 (a.tmps[21]?.getD undef) (bvs (C++Y))∧Below b.heap.size b o:=D.1;obtain⟨v2,c⟩:=eX (a.tmps[21]?.getD undef);rw[←c]at Q;have e1:=c.symm;clear c;go_simp;exact z _ _ Q bR
  all_goals
   intro a o g aN ho D;have g:Below b.heap.size b o:=g;refine⟨rfl,?_⟩;intro K z;try have aL:a.tmps[2]?.getD undef=rB (some ⟨p,0,rF⟩):=ho 2 (by kernel_rfl)
   try have aQ:a.tmps[5]?.getD undef=v1:=ho 5 (by kernel_rfl)
   try have aR:=eqn D.1
   try have aT:=eqn D.2.1
   try have aP:=eqn D.2.2.1
   have r:=s.out.below g s.out.lt;try(have aK:=r.cell 0;simp only[bZ,cA]at aK)
   try(have aB:=r.cell 1;simp only[bZ,cA,cB]at aB)
   try(refine Hd ?_;go_simp;exact z _ rfl)
  ·exact wp_load_row 101 (.tmp 2) rfl _ (evs aL) _ _ (0,0) _ r underlying101 rfl (by kernel_rfl) (z _ _ rfl (fun _=>Af rfl bR))
  ·go_simp;refine(aA.out _ o (aI.out.rd.below g lR)).mono ?_;rintro e w2 ⟨u,rfl,aF,aM⟩;exact z _ _ (aF.mono g.size) (fun _=>Af rfl aM)
  ·go_simp;refine(aJ.out o).mono ?_;rintro e w2 ⟨rfl,rfl⟩;exact z _ _ rfl (fun _=>Af rfl bR)
  ·have Q:Own o b.heap.size 5 (a.tmps[17]?.getD undef) (bvs C):=D.2.1;obtain⟨v2,c⟩:=eX (a.tmps[17]?.getD undef);rw[←c]at Q;have e1:=c.symm;clear c;go_simp;refine(N.out b (HB.out.trans (l.out.mono HB.out.size)) v2 C o g Q aC.out).mono ?_;rintro e w2 ⟨u,rfl,R⟩;exact z _ _ ⟨R.own,g.trans R.step.1⟩ (fun h=>absurd rfl h)
 ·rintro f w9 q;have S4:Own w9 b.heap.size 5 (f 4) (bvs (C++Y))∧Below b.heap.size b w9:=q.2.2.2.2.2.2.2.2.2.2.1;clear q;simp only[Am,Az,Ex,cX,cY,cZ,dA,Nat.reduceBEq,Nat.reduceAdd,dB,dC,cond_true,cond_false];obtain⟨u,hu⟩:=eX (f 4);rw[←hu]at S4⊢;have M:=Hd S4;clear S4 hu;go_wp2_with fail;go_ret;exact⟨_,rfl,M.out.1.mono l.out.size,l.out.trans (M.out.2.mono l.out.size)⟩
theorem Kb {s:SparseD} {only:Bool}(h:Ay s only=true)(b:SparseOk s)(l:Dh s=true):
  PieceOk (Ag s.op) (Ax s.sh)∧∃d i:Nat,d≤16∧s.leaves=((2^d:Nat):Int)∧s.own=(i:Int)∧i<2^d∧aX s.leaves.toNat=d∧s.own.toNat=i:=by
 unfold Ay at h;simp only[cJ]at h;obtain⟨⟨⟨⟨n,k⟩,g⟩,j⟩,-⟩:=h;have k:=of_decide_eq_true k;simp only[Dh,cJ]at l;refine⟨⟨fun x d f=> ?_,fun x L f=> ?_⟩,?_⟩
 ·have a:=Br f;exact⟨(b.op _ a).2,List.all_eq_true.1 l.1.2 _ a,(Ox (List.all_eq_true.1 g _ a)).2.1⟩
 ·have a:=Ij f;exact⟨Nat.le_of_eq (of_decide_eq_true (List.all_eq_true.1 j _ a)),(b.sh _ a).2⟩
 ·obtain⟨d,m,e⟩:=(fits_iff _).1 n;have c:s.leaves=((2^d:Nat):Int):=(by omega);exact⟨d,s.own.toNat,m,c,by omega,by omega,by rw[c,dG,Nat.log2_two_pow],rfl⟩
def bytesOf (s:SparseD)(m:Nat):List Nat:=Le (Ag s.op) (Ax s.sh) m (aX s.leaves.toNat) s.own.toNat
end Go.Proofs.YtfofaiommeckbaaGreat
namespace Go.Proofs.YtfofaiommeckbaaGreat
open Go.RowKit WalkM WireM
def Zlu (l:List (Int×NodeD))(h:List (Int×List Nat))(k:Nat):Prop:=
 ∀(x:Nat) (lv ow:Int) (o v:Value) (w:World),IsLev x k→x+2^k≤131071→SpotsR w o l→StubsR w v h→
  Calls prog 78 #[.agg #[.int .i64 lv,.int .i64 ow,o,v],.int .i64 (x:Nat)] w fun e w'=>∃u,e=.returned u∧Own w' w.heap.size 5 u (bvs (putS (Ag l) (Ax h) k x))∧Below w.heap.size w w'
theorem Qz (l:List (Int×NodeD))(h:List (Int×List Nat))(hP:PieceOk (Ag l) (Ax h))(k:Nat)(cC:k≤16)(IH:∀j,k=j+1→Zlu l h j):Zlu l h k:=by
 intro x lv ow o v w hl hx ho aJ;have G:=fun(W:World) (A:Below w.heap.size w W)=>Fg o l (x:Int) W (ho.below A lR);have B:=fun(W:World) (A:Below w.heap.size w W)=>Zb3 lv ow o v h (x:Int) W (aJ.below A lR);have KD:=fun(W:World) (A:Below w.heap.size w W)=>(show SpotsR W o l∧StubsR W v h from⟨ho.below A lR,aJ.below A lR⟩);have aN:=Ha hP x;have PN:=fun(e:Ag l (x:Int)=none)=>Fu (H:=Ax h) (k:=k) e;have SE:Ev (Ax h) x=(Ax h (x:Int)).getD []:=rfl;rw[←SE]at B;obtain⟨L,hL⟩:=eX (Ev (Ax h) x);rw[←hL]at B aN PN;have aI:=fun d (e:Ag l (x:Int)=some d)=>hP.ok _ _ e;obtain⟨R,hR⟩:=eX (Ag l (x:Int));rw[←hR]at G PN aI;obtain⟨p,hp⟩:=eX w.heap.size;have HP:=Hd hp;have aH:=Hd B;have P:=Hd KD;have b9:=Hd aN;have b4:=Hd PN;have bC:=Hd aI;have HR:=Hd hR;have HX:=Hd hx;have aP:=Hd hl;have HF:=Hd (G _ ((Below.refl w.heap.size w).alloc lR (.cells #[.int .i64 lv,.int .i64 ow,o,v] 25)));have aE:=Hd (show Blk (w.alloc (.cells #[.int .i64 lv,.int .i64 ow,o,v] 25)) w.heap.size 25 #[.int .i64 lv,.int .i64 ow,o,v]from Blk.new _ _ _);have bK:=Hd ((Below.refl w.heap.size w).alloc lR (.cells #[.int .i64 lv,.int .i64 ow,o,v] 25));have p2:=(aE.out).cell 2;simp only[bZ,cA,cB]at p2;clear G B KD aN PN SE hL aI hR hp hx hl ho aJ;go_enter func78,ntmps78;go_wp2_with fail;refine HF.out.mono ?_;rintro e w2 ⟨c,rfl,S,aR⟩;have bE:=Hd S.oneL;obtain⟨c0,c1,c2,c3,c4,c5,c6,c7,c8,c9,rfl⟩:=S.ten;have b5:=Hd S;have aQ:=Hd (aE.out.below aR aE.out.lt);have aB:=Hd (bK.out.trans (aR.mono bK.out.size));rw[←HP.out]at aQ⊢;obtain⟨q,hq⟩:=eX w2.heap.size;have HQ:=Hd hq;obtain⟨is,aL⟩:=eX R.isSome;rw[←aL];have a1:=Hd aL;clear S aR p2 hq aL;go_wp2_with (refine Aa rfl 52 (.tmp 5) (.tmp 15) rfl w2.heap.size #[c0,c1,c2,c3,c4,c5,c6,c7,c8,c9] rfl rfl 52 #[.int .u8 0,q9 rF 0 0,q9 rF 0 0,q9 rF 0 0,.int .u8 0,q9 rF 0 0,q9 rF 0 0,q9 rF 0 0,q9 rF 0 0,q9 rF 0 0] (Blk.new _ _ _) (by kernel_rfl) rfl bE.out ?_);rintro w3 I aO a5 aF;have g:=Hd ((aB.out.alloc aB.out.size (.cells #[.int .u8 0,q9 rF 0 0,q9 rF 0 0,q9 rF 0 0,.int .u8 0,q9 rF 0 0,q9 rF 0 0,q9 rF 0 0,q9 rF 0 0,q9 rF 0 0] 52)).trans ((aO w2.heap.size lR).mono aB.out.size));have aA:=Hd (((Below.refl w2.heap.size w2).alloc lR (.cells #[.int .u8 0,q9 rF 0 0,q9 rF 0 0,q9 rF 0 0,.int .u8 0,q9 rF 0 0,q9 rF 0 0,q9 rF 0 0,q9 rF 0 0,q9 rF 0 0] 52)).trans (aO w2.heap.size lR));have z:=Hd (aQ.out.below aA.out aQ.out.lt);have bN:=Hd (b5.out.below aA.out lR);rw[←HQ.out]at I⊢;have b:=Hd I;clear I aO a5 aF;cases is with
 |false=>
  have hN:R=none:=by have:=a1.out;cases R with
   |none=>rfl
   |some d=>cases this
  have bU:=Hd (b4.out hN);have k0:=z.out.cell 0;have k1:=z.out.cell 1;have k2:=z.out.cell 2;have k3:=z.out.cell 3;simp only[bZ,cA,cB]at k0 k1 k2 k3;have bP:=z.out.lt;clear hN;go_wp2_with fail;refine(aH.out _ (g.out.alloc g.out.size _)).mono ?_;rintro e w4 ⟨u,rfl,bD,i⟩;have bW:=Hd bD;have m:=Hd ((g.out.alloc g.out.size (.cells #[.int .u8 0] 5)).trans (i.mono (by have:=g.out.size;simp;omega)));have HZ:=Hd (show Rd w4 (q9 (some ⟨w3.heap.size,0,rF⟩) 1 1) (bvs [0])from(Blk.rdV (cs:=[.int .u8 0]) (Blk.new w3 5 _) (by unfold maxLen;simp)).below i lR);clear bD i k0 k1 k2 k3 bP;go_wp2_with fail;refine(El _ u [0] L w4 HZ.out bW.out (by have:=b9.out;simp only[bY,bT];omega)).mono ?_;rintro e w5 ⟨u5,rfl,F,C⟩;have T:=Hd (F.mono m.out.size);have M:=Hd (m.out.trans (C.mono m.out.size));clear F C;go_wp2_with fail;go_ret;exact⟨_,rfl,by rw[bU.out];exact T.out,M.out⟩
 |true=>
  obtain⟨d,rfl⟩:=Option.isSome_iff_exists.1 a1.out.symm;have hF:=HR.out.symm;obtain⟨a2,aS,hr⟩:=bC.out d rfl;have aX:NodeC w3 d #[c0,c1,c2,c3,c4,c5,c6,c7,c8,c9]:=bN.out;have aW:=Hd fun(W:World) (A:Below w3.heap.size w3 W)=>Iu d _ W (aX.below A lR) a2 aS fun _ u E=>Hn (Eh hr) u E;have aC:=Hd (Da aS);have a7:=Hd hF;have k0:=b.out.cell 0;have k1:=b.out.cell 1;have k2:=b.out.cell 2;have k3:=b.out.cell 3;have k4:=b.out.cell 4;have k5:=b.out.cell 5;have k6:=b.out.cell 6;have k7:=b.out.cell 7;have k8:=b.out.cell 8;have k9:=b.out.cell 9;simp only[bZ,cA,cB]at k0 k1 k2 k3 k4 k5 k6 k7 k8 k9;obtain⟨NB,aM⟩:=eX (Bm d);have aZ:=Hd aM;rw[←aM]at aW aC;have b3:=b.out.lt;clear hF a2 aS hr aX aM;go_wp2_with fail;refine(aW.out _ (bR.alloc lR _)).mono ?_;rintro e w4 ⟨u4,rfl,bG,i⟩;have a0:=Hd ((z.out.alloc (.cells #[.int .u8 1] 5)).below i (z.out.alloc _).lt);have m:=Hd ((g.out.alloc g.out.size (.cells #[.int .u8 1] 5)).trans (i.mono (by have:=g.out.size;simp;omega)));have HZ:=Hd (show Rd w4 (q9 (some ⟨w3.heap.size,0,rF⟩) 1 1) (bvs [1])from(Blk.rdV (cs:=[.int .u8 1]) (Blk.new w3 5 _) (by unfold maxLen;simp)).below i lR);have b1:=Hd bG.rd;clear bG i k0 k1 k2 k3 k4 k5 k6 k7 k8 k9 b3;go_wp2_with fail;refine(El _ u4 [1] NB w4 HZ.out b1.out (by have:=aC.out;simp only[bY,bT];omega)).mono ?_;rintro e w5 ⟨u5,rfl,F,C⟩;have T:=Hd (F.mono m.out.size);have M:=Hd (m.out.trans (C.mono m.out.size));have aU:=Hd (a0.out.below C a0.out.lt);clear F C;cases k with
  |zero=>
   have aK:x%2=0:=Gf aP.out;have a4:fC (x:Int) 2=0:=(by rw[fD (by omega)];omega);have aD:(x:Int)%2=0:=(by omega);clear aK;go_wp2_with fail;go_ret;refine⟨_,rfl,?_,M.out⟩;rw[Il a7.out,←aZ.out];exact T.out
  |succ j=>
   have bL:x%2=1:=Fb aP.out;have a4:fC (x:Int) 2=1:=(by rw[fD (by omega)];omega);have aD:(x:Int)%2=1:=(by omega);have b2:=fB j;have bQ:2^(j+1)=2*2^j:=(by rw[Nat.pow_succ];omega);have hX:=HX.out;have J:x≤131070:=(by omega);obtain⟨kl,kr,a3,bH,kx⟩:=kids_lev J aP.out;have KI:=fun(W:World)=>Hr (x:Int) W;rw[kl,kr]at KI;have PS:=Im (H:=Ax h) (k:=j) a7.out;have bA:2^j≤32768:=bM (aY (by omega) (show j≤15 by omega)) (by decide);have a9:=La hP j (x-2^j);have aV:=La hP j (x+2^j);have I1:=fun(W:World) (A:Below w.heap.size w W)=>IH j rfl (x-2^j) lv ow o v W a3 (by omega) (P.out W A).1 (P.out W A).2;have I2:=fun(W:World) (A:Below w.heap.size w W)=>IH j rfl (x+2^j) lv ow o v W bH (by omega) (P.out W A).1 (P.out W A).2;obtain⟨N,a6⟩:=eX (putS (Ag l) (Ax h) j (x-2^j));obtain⟨O,a8⟩:=eX (putS (Ag l) (Ax h) j (x+2^j));rw[←a6]at I1 PS a9;rw[←a8]at I2 PS aV;obtain⟨xl,bF⟩:=eX (x-2^j);obtain⟨xr,bI⟩:=eX (x+2^j);rw[←bF]at I1 KI;rw[←bI]at I2 KI;have aT:=Hd (show N.length≤400000000∧O.length≤400000000 by omega);have b6:=Hd I1;have b8:=Hd I2;have bV:=Hd KI;have b7:=Hd PS;clear I1 I2 KI PS kl kr a3 bH kx a6 a8 bF bI hX J bL bQ b2 bA a9 aV;go_wp2_with fail;refine(bV.out _).mono ?_;rintro e w6 ⟨rfl,Q⟩;have b0:=Hd (T.out.below Q lR);have r:=Hd (M.out.trans (Q.mono M.out.size));have U:=Hd (aU.out.below Q aU.out.lt);clear Q;go_wp2_with fail;refine Dv [eF u5,eF (.agg #[.int .i64 lv,.int .i64 ow,o,v]),eF (.int .i64 (xl:Nat)),fun u w'=>Rd w' u (bvs N),eF (.agg #[.int .i64 lv,.int .i64 ow,o,v]),eF (.int .i64 (xr:Nat)),fun u w'=>Rd w' u (bvs O),fun u w'=>Rd w' u (bvs (N++O)),fun u w'=>Own w' w6.heap.size 5 u (bvs (([1]++NB)++(N++O))),fun u w'=>Own w' w6.heap.size 5 u (bvs (([1]++NB)++(N++O)))] (by kernel_rfl) (by kernel_rfl) (by kernel_rfl)
    (kE (kE (kE (bX (fun v x y h V=>Rd.below h V lR) (kE (kE (bX (fun v x y h V=>Rd.below h V lR) (bX (fun v x y h V=>Rd.below h V lR) (bX (fun v x y h V=>Own.below h V lR) (bX (fun v x y h V=>Own.below h V lR) Ah)))))))))) ?_ ?_
   ·refine gQ ?_ (gB ?_ (gQ ?_ (gB ?_ (gB ?_ (gQ ?_ (gB ?_ (gB ?_ (gB ?_ (gB ?_ .nil)))))))));all_goals
     intro a X D ha hf;refine⟨rfl,?_⟩;intro K Z;try have bJ:a.tmps[2]?.getD undef=rB (some ⟨p,0,rF⟩):=ha 2 (by kernel_rfl)
     try have cD:a.tmps[7]?.getD undef=u5:=ha 7 (by kernel_rfl)
     try have cF:a.tmps[8]?.getD undef=.int .i64 (xl:Nat):=ha 8 (by kernel_rfl)
     try have cG:a.tmps[9]?.getD undef=.int .i64 (xr:Nat):=ha 9 (by kernel_rfl)
     try have cE:=eqn hf.1
     try have cH:=eqn hf.2.1
     try(refine Hd ?_;go_simp;exact Z _ rfl)
    ·exact wp_load_row 25 (.tmp 2) rfl _ (evs bJ) _ _ (0,0) _ (U.out.below D U.out.lt) underlying25 rfl (by kernel_rfl) (Z _ _ rfl bR)
    ·go_simp;refine(b6.out X (r.out.trans (D.mono r.out.size))).mono ?_;rintro e w7 ⟨u,rfl,E,s⟩;exact Z _ _ E.rd s
    ·exact wp_load_row 25 (.tmp 2) rfl _ (evs bJ) _ _ (0,0) _ (U.out.below D U.out.lt) underlying25 rfl (by kernel_rfl) (Z _ _ rfl bR)
    ·go_simp;refine(b8.out X (r.out.trans (D.mono r.out.size))).mono ?_;rintro e w7 ⟨u,rfl,E,s⟩;exact Z _ _ E.rd s
    ·have o1:Rd X (a.tmps[39]?.getD undef) (bvs N):=hf.1;have o2:Rd X (a.tmps[42]?.getD undef) (bvs O):=hf.2.1;obtain⟨v1,t⟩:=eX (a.tmps[39]?.getD undef);obtain⟨v2,n⟩:=eX (a.tmps[42]?.getD undef);rw[←t]at o1;rw[←n]at o2;have e1:=t.symm;have e2:=n.symm;clear t n;go_simp;refine(El v1 v2 N O X o1 o2 (by have:=aT.out;omega)).mono ?_;rintro e w7 ⟨u,rfl,E,s⟩;exact Z _ _ E.rd s
    ·have o2:Rd X (a.tmps[43]?.getD undef) (bvs (N++O)):=hf.2.1;obtain⟨v2,n⟩:=eX (a.tmps[43]?.getD undef);rw[←n]at o2;have e2:=n.symm;clear n;go_simp;refine(El u5 v2 ([1]++NB) (N++O) X (b0.out.rd.below D lR) o2 (by have:=aT.out;have:=aC.out;simp only[aG,bY,bT];omega)).mono ?_;rintro e w7 ⟨u,rfl,E,s⟩;exact Z _ _ (E.mono D.size) s
    ·have o0:Own X w6.heap.size 5 (a.tmps[44]?.getD undef) (bvs (([1]++NB)++(N++O))):=hf.1;obtain⟨v1,t⟩:=eX (a.tmps[44]?.getD undef);rw[←t]at o0;have e1:=t.symm;clear t;go_simp;exact Z _ _ o0 bR
   ·rintro f w9 bB Y;have S7:Own w9 w6.heap.size 5 (f 7) (bvs (([1]++NB)++(N++O))):=Y.2.2.2.2.2.2.2.2.2.1;clear Y;simp only[Am,Az,Ex,cX,cY,cZ,dA,Nat.reduceBEq,Nat.reduceAdd,dB,dC,cond_true,cond_false];obtain⟨u,E⟩:=eX (f 7);rw[←E]at S7⊢;have bO:=Hd (S7.mono r.out.size);have bS:=Hd (r.out.trans (bB.mono r.out.size));clear S7 E bB;go_wp2_with fail;go_ret;refine⟨_,rfl,?_,bS.out⟩;rw[b7.out,←aZ.out];exact bO.out
theorem Zfm (l:List (Int×NodeD))(h:List (Int×List Nat))(hP:PieceOk (Ag l) (Ax h)):∀k,k≤16→Zlu l h k:=by
 intro k
 induction k with
 |zero=>intro _;exact Qz l h hP 0 (by omega) fun j e=>by cases e
 |succ k ih=>intro hk;exact Qz l h hP (k+1) hk fun j e=>by cases e;exact ih (by omega)
end Go.Proofs.YtfofaiommeckbaaGreat
