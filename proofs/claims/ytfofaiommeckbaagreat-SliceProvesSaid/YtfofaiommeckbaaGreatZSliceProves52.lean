import Derived.Test.YtfofaiommeckbaaGreatZSliceProves51
open Go.Value renaming slice → q9, int → rA, pointer → rB
open Go.IntKind renaming i64 → rC, u8 → rD
open Option renaming none → rF
open Go.Proofs.Tryz
open Bool renaming and_eq_true → cJ
set_option linter.unusedVariables false
set_option maxRecDepth 100000
set_option maxHeartbeats 40000000
namespace Go.Proofs.YtfofaiommeckbaaGreat
open Go.RowKit Go.Maps WalkM ShaM WireM
theorem Zj0 {n m:Nat}(h1:1≤n)(h2:n≤1000)(h3:m=(n-1)/2):IntKind.i64.wrap ((n:Int)-1)=(n:Int)-1∧IntKind.i64.wrap ((m:Nat):Int)=(m:Int)∧Int.tdiv ((n:Int)-1) 2=(m:Int):=by
 refine⟨IntWalk.i64_in _ ⟨by omega,by omega⟩,IntWalk.i64_in _ ⟨by omega,by omega⟩,?_⟩;rw[Int.tdiv_eq_ediv_of_nonneg (by omega)];omega
theorem Yj (v:Value)(t:List NodeD)(w:World)(h:TreeR w v t)(l:Bc t=true)(b:TreeOk t)(i:Bi t=true):
  Calls prog 33 #[v] w fun e w'=>∃u,e=.returned u∧Rd w' u (bvs (Cx (nd t) (t.length/2)))∧Below w.heap.size w w':=by
 have g:=Bg l;obtain⟨f,k⟩:Ap t.length≠0∧Bh t=true:=by
  rw[Bi,cJ,cJ]at i;exact⟨of_decide_eq_true i.1,i.2.1⟩
 obtain⟨d,D,C,s⟩:=Dc f;have I:=Nat.two_pow_pos d;have e2:2^(d+1)=2*2^d:=(by rw[Nat.pow_succ];omega);have a:=Ra t l b i (t.length/2) (by omega) v (q9 rF 0 0) [] w h (Rt w);have A:woD t []=nd t:=funext fun x=>Zea t x;rw[A]at a;obtain⟨K,c,rfl,F,o⟩:=h.sl;obtain⟨n,z⟩:=eX t.length;rw[←z]at a g s⊢;obtain⟨X,q⟩:=eX (Cx (nd t) (n/2));rw[←q]at a⊢;obtain⟨m,p⟩:=eX (n/2);rw[←p]at a;obtain⟨E,G,L⟩:=Zj0 (n:=n) (m:=m) (by omega) (by omega) (by omega);have j:=Hd a;clear a q p s z f k C e2 I D A h l b i F o;go_enter func33,ntmps33;go_wp2_with fail;refine j.out.mono ?_;rintro e J ⟨u,rfl,r,y⟩;have B:=Hd r.rd;have H:=Hd y;clear r y;go_wp2_with fail;go_ret;exact⟨_,rfl,B.out,H.out⟩
theorem Mo (a:Option Addr)(n c er:Nat)(i:Int)(w:World)(h0:er≠0)(d:∀W,Below w.heap.size w W→Calls prog 74 #[q9 a n c,rA rC i,.bool true] W fun e w'=>e=.returned (.tuple #[.agg #[rA rC 0,rA rC 0,.map none,.map none],rA rD (er:Nat)])∧Below W.heap.size W w'):
  Calls prog 31 #[q9 a n c,rA rC i] w fun e w'=>e=.returned (.tuple #[q9 rF 0 0,rA rD (er:Nat)])∧Below w.heap.size w w':=by
 have g:((er:Int) !=0)=true:=(by rw[bne_iff_ne];omega);have h:=Hd (d w bR);clear d h0;go_enter func31,ntmps31;go_wp2_with fail;refine h.out.mono ?_;rintro e j ⟨rfl,b⟩;have f:=Hd (b.alloc b.size (.cells #[rA rC 0,rA rC 0,.map none,.map none] 101));clear b;go_wp2_with fail;go_ret2;exact⟨rfl,f.out⟩
theorem Yk (v:Value) (t:List NodeD) (I m d:Nat) (b f:List Nat) (w:World) (h:TreeR w v t) (hs:Bc t=true) (H:TreeOk t) (hr:Bi t=true) (l:t.length=2*I+1) (Q:Ap t.length=I+1) (U:d≤16) (F:I+1=2^d) (hi:((m:Nat):Int)∈Dk t (I+1))
  (eO:(By (atT t) m true d (2^d-1) 0 []).1=b.map fun m:Nat=>(m:Int)) (eS:(By (atT t) m true d (2^d-1) 0 []).2.1=f.map fun m:Nat=>(m:Int)) (r:b.Pairwise (· < ·)) (s:f.Pairwise (· < ·))
  (hO:∀x∈b,x<t.length) (hS:∀x∈f,x<t.length) (J:b.length≤100000) (E:f.length≤100000) (hP:PieceOk (Ag (Ed t (2^d) m b f).op) (Ax (Ed t (2^d) m b f).sh)) (C:m<2^d):
  Calls prog 31 #[v,rA rC (m:Nat)] w fun e w'=>∃v',e=.returned (.tuple #[v',rA rD 0])∧Own w' w.heap.size 5 v' (bvs (bytesOf (Ed t (2^d) m b f) 2))∧Below w.heap.size w w':=by
 have K:=Hd (Zfx v t I m d true b f w h hs H hr l Q U F hi eO eS r s hO hS J E);obtain⟨f1,f2,f3,f4⟩:=Te (t:=t) (M:=2^d) (m:=m) r s;have eb:bytesOf (Ed t (2^d) m b f) 2=Le (Ag (Ed t (2^d) m b f).op) (Ax (Ed t (2^d) m b f).sh) 2 d m:=by
  unfold bytesOf;rw[show(Ed t (2^d) m b f).leaves.toNat=2^d from Int.toNat_natCast _,show(Ed t (2^d) m b f).own.toNat=m from Int.toNat_natCast _,Nat.log2_two_pow]
 rw[eb];have q:=Hd fun(z W:World) (ob sb:Nat) (G o:Int→Option Value) (hm:MapF z ob b.length G) (hk:Df G (b.map fun m:Nat=>(m:Int))) (hn:∀x∈b,∃c,G ((x:Nat):Int)=some (.agg c)∧NodeC z (nd t x) c) (S:MapF z sb f.length o) (X:Df o (f.map fun m:Nat=>(m:Int))) (hu:∀x∈f,∃u,o ((x:Nat):Int)=some u∧Rd z u (bvs (Cx (nd t) x))) (hB:Below z.heap.size z W)=>
  Zb7 (Ag (Ed t (2^d) m b f).op) (Ax (Ed t (2^d) m b f).sh) hP d m 2 ob sb b.length f.length G o z W U C hm (fun x=>by
   cases e:Ag (Ed t (2^d) m b f).op x with
   |none=>
    show G x=none;cases eg:G x with
    |none=>rfl
    |some g=>
     obtain⟨y,p,rfl⟩:=List.mem_map.1 ((hk.2 x).2 (by rw[eg];rfl));rw[f1 y p]at e;cases e
   |some D=>
    obtain⟨y,p,e2⟩:=List.mem_map.1 (Br e);simp only[Prod.mk.injEq]at e2;obtain⟨rfl,rfl⟩:=e2;exact hn y p) S (fun x=>by
   cases e:Ax (Ed t (2^d) m b f).sh x with
   |none=>
    show o x=none;cases eg:o x with
    |none=>rfl
    |some g=>
     obtain⟨y,p,rfl⟩:=List.mem_map.1 ((X.2 x).2 (by rw[eg];rfl));rw[f2 y p]at e;cases e
   |some D=>
    obtain⟨y,p,e2⟩:=List.mem_map.1 (Ij e);simp only[Prod.mk.injEq]at e2;obtain⟨rfl,rfl⟩:=e2;exact hu y p) hB
 obtain⟨BS,P⟩:=eX (Le (Ag (Ed t (2^d) m b f).op) (Ax (Ed t (2^d) m b f).sh) 2 d m);rw[←P]at q⊢;obtain⟨M,hM⟩:=eX (2^d);rw[←hM]at K q;obtain⟨a,n,c,rfl⟩:∃a n c,v=.slice a n c:=(by obtain⟨a,c,e,_⟩:=h.sl;exact⟨_,_,_,e⟩);clear h hs H hr l Q U F hi eO eS r s hO hS J E hM hP C f1 f2 f3 f4 eb P;go_enter func31,ntmps31;go_wp2_with fail;refine K.out.mono ?_;rintro e A ⟨ob,sb,G,o,rfl,m1,m2,m3,Z,m5,m6,N⟩;have O:=Hd N;obtain⟨R,k⟩:=eX (A.alloc (.cells #[rA rC (M:Nat),rA rC (m:Nat),.map (some ob),.map (some sb)] 101));have i:Below A.heap.size A R:=(by rw[k];exact bR.alloc lR _);have HX:=Hd (q.out A R ob sb G o m1 m2 m3 Z m5 m6 i);have j:=Hd (O.out.trans (i.mono O.out.size));have B:=Hd (show Blk R A.heap.size 101 #[rA rC (M:Nat),rA rC (m:Nat),.map (some ob),.map (some sb)]from by rw[k];exact Blk.new _ _ _);rw[k]at HX j B;clear N m1 m2 m3 Z m5 m6 i k;go_wp2_with (refine wpList_load_row rfl 101 (.tmp 6) rfl A.heap.size rfl 101 _ (0,0) _ B.out underlying101 rfl (by kernel_rfl) ?_);refine HX.out.mono ?_;rintro e w5 ⟨x,rfl,T,L⟩;have V:=Hd (j.out.trans (L.mono j.out.size));have Y:=Hd (T.mono j.out.size);obtain⟨xa,xn,xc,rfl⟩:=Dg T;clear T L;go_wp2_with fail;go_ret2;exact⟨_,rfl,Y.out,V.out⟩
theorem Zcp:(prog.info? 44).map (·.size)=some 6:=by kernel_rfl
theorem Mu {w:World}(v:Value)(t:List NodeD)(i:Int)(a8:TreeR w v t∧TreeOk t)(T: -9223372036854775808≤i∧i≤9223372036854775807):
  Calls prog 7 #[v,rA rC i] w fun e w'=>e=.returned (.bool true)∧Below w.heap.size w w':=by
 obtain⟨h,o⟩:=a8;have X:=Hd fun(W:World)=>Zl6 W;have SM:=fun(W:World) (C:Below w.heap.size w W)=>Zbh v t W (h.below C lR);obtain⟨ta,V,tc,rfl⟩:∃a n c,v=.slice a n c:=(by obtain⟨a,c,e,_⟩:=h.sl;exact⟨_,_,_,e⟩);have R:=fun(W:World) (C:Below w.heap.size w W)=>h.below C lR;cases r:Bc t with
 |false=>
  rw[r]at SM;have Q:=Hd SM;clear SM R h o r T;have B:=Hd (Below.refl w.heap.size w);go_enter func7,ntmps7;go_wp2_with fail;refine(X.out w).mono ?_;rintro e w1 ⟨rfl,g⟩;have k:=Hd (B.out.trans (g.mono B.out.size));clear g;go_wp2_with fail;refine(Q.out w1 k.out).mono ?_;rintro e U ⟨rfl,g⟩;have l:=Hd (k.out.trans (g.mono k.out.size));clear g;go_wp2_with fail;go_ret;exact⟨rfl,l.out⟩
 |true=>
  rw[r]at SM;have Q:=Hd SM;cases hr:Bi t with
  |false=>
   have I:=Hd fun(W:World) (C:Below w.heap.size w W)=>(show Calls prog 31 #[q9 ta V tc,rA rC i] W fun e w'=>e=.returned (.tuple #[q9 rF 0 0,rA rD 12])∧Below W.heap.size W w' from Mo ta V tc 12 i W (by decide) fun W2 aG=>Zm0 _ t i true W2 (R W2 (C.trans (aG.mono C.size))) r o hr);have P:=Hd fun(W:World) (C:Below w.heap.size w W)=>Xv _ t i W (R W C) r o hr;clear SM R h o r hr T;have B:=Hd (Below.refl w.heap.size w);go_enter func7,ntmps7;go_wp2_with fail;refine(X.out w).mono ?_;rintro e w1 ⟨rfl,g⟩;have k:=Hd (B.out.trans (g.mono B.out.size));clear g;go_wp2_with fail;refine(Q.out w1 k.out).mono ?_;rintro e U ⟨rfl,g⟩;have l:=Hd (k.out.trans (g.mono k.out.size));clear g;go_wp2_with fail;refine(I.out U l.out).mono ?_;rintro e w3 ⟨rfl,g⟩;have z:=Hd (l.out.trans (g.mono l.out.size));clear g;go_wp2_with fail;refine(P.out w3 z.out).mono ?_;rintro e w4 ⟨rfl,g⟩;have F:=Hd (z.out.trans (g.mono z.out.size));clear g;go_wp2_with fail;go_ret;exact⟨rfl,F.out⟩
  |true=>
   obtain⟨aC,aL⟩:Ap t.length≠0∧Bh t=true:=by
    rw[Bi,cJ,cJ]at hr;exact⟨of_decide_eq_true hr.1,hr.2.1⟩
   obtain⟨d,hd,hN,hl⟩:=Dc aC;have hp:=Nat.two_pow_pos d;obtain⟨J,S⟩:∃J,J+1=2^d:=⟨2^d-1,by omega⟩;have A:t.length=2*J+1:=(by omega);have aA:Ap t.length=J+1:=(by omega);have ME:=fun(W:World) (C:Below w.heap.size w W)=>Vu _ t J i W (R W C) r o hr A
   by_cases hi:i∈Dk t (J+1)
   ·rw[if_pos hi]at ME;obtain⟨m,rfl⟩:∃m:Nat,i=(m:Int):=by
     unfold Dk at hi;obtain⟨m,-,rfl⟩:=List.mem_map.1 hi;exact⟨m,rfl⟩
    obtain⟨a7,aX⟩:=(mem_iff t (J+1) m).1 hi;have bC:=Bg r;obtain⟨OL,SL,o1,s1,o2,s2,o3,s3,o4,s4,o5,s5⟩:=Zly r hr true A hd S (show 2*m<t.length by omega);have O:=Zgy (only:=true) (mk:=2) r o hr A hd S (by omega) aX (by omega) o1 s1 o3 s3 o4 s4;have P:=Hd ME;have e2:2^(d+1)=2*2^d:=(by rw[Nat.pow_succ];omega);have PR:=fun(W:World) (C:Below w.heap.size w W)=>Yk _ t J m d OL SL W (R W C) r o hr A aA hd S hi o1 s1 o3 s3 o4 s4 o5 s5 O.piece (by omega);have RC:=fun(W:World) (C:Below w.heap.size w W)=>Zi7 t r o hr d m true OL SL hd hl (by omega) o2 s2 o4 s4 o5 s5 _ W (R W C);obtain⟨s,aQ⟩:=eX (Ed t (2^d) m OL SL);rw[←aQ]at PR RC O;have bI:=Hd RC;have PV:=fun(x hv:Value) (W:World) (hx:Rd W x (bvs (bytesOf s 2))) (J:Rd W hv (bvs (Cx (nd t) (t.length/2))))=>Wc x hv (bytesOf s 2) (Cx (nd t) (t.length/2)) (m:Int) W hx J O.bl O.lt (Zal _ _);rw[O.chk]at PV;have pe:Zl8 ((0:Nat),s) (m:Int)=(nd t (2*m)).leaf:=by
     unfold Zl8;rw[if_pos rfl,O.leaf];rfl
    rw[pe]at PV;have aY:=Hd fun(W:World) (C:Below w.heap.size w W)=>Yj _ t W (R W C) r o hr;have aR:=Hd fun(c2:Array Value) (W:World) (M:SparseR W (.agg c2) s)=>(show Calls prog 34 #[.agg c2,rA rD 2] W fun e w'=>∃u,e=.returned u∧Rd w' u (bvs (bytesOf s 2))∧Below W.heap.size W w' from Vy _ s true 2 W M O.ok O.small O.right);have aS:=Hd fun(a b:Value) (W:World) (k1:Rd W a (bvs (bytesOf s 2))) (k2:Rd W b (bvs (bytesOf s 2)))=>(show Calls prog 19 #[a,b] W fun e w'=>e=.returned (.bool true)∧Below W.heap.size W w' from by
     refine(Yo a b _ _ W k1 k2 O.lt O.lt).mono ?_;rintro e w' ⟨rfl,n,rfl⟩;exact⟨by rw[decide_eq_true rfl],Ab bR n⟩)
    have aJ:=o.nd (2*m);have aF:LeafOk (nd t (2*m)).leaf:=aJ.leaf;have a6:=Hd fun(c c':Array Value) (W:World) (k1:LeafC W (nd t (2*m)).leaf c) (k2:LeafC W (nd t (2*m)).leaf c')=>(show Calls prog 28 #[.agg c,.agg c'] W fun e w'=>e=.returned (.bool true)∧Below W.heap.size W w' from by
     have e:=Kl _ _ c c' W k1 k2 aF aF;have e3:Jn (nd t (2*m)).leaf (nd t (2*m)).leaf=true:=by simp[Jn]
     rwa [e3]at e)
    have I:=Hd PR;have Z:=Hd fun(x hv:Value) (W:World) (hx:Rd W x (bvs (bytesOf s 2))) (J:Rd W hv (bvs (Cx (nd t) (t.length/2))))=>(show Calls prog 27 #[x,hv,rA rC (m:Nat)] W fun e w'=>(∃c,e=.returned (.tuple #[.agg c,rA rD 0])∧LeafC w' (nd t (2*m)).leaf c)∧Below W.heap.size W w' from PV x hv W hx J);have a9:V=t.length:=(by obtain⟨a',c',e,_⟩:=h.sl;simp only[Value.slice.injEq]at e;exact e.2.1);obtain⟨b,E,cs,rfl,aZ,aV,aD⟩:=h.node (i:=2*m) (by omega);obtain⟨c6,l1,l2,l3⟩:=aV.leaf;obtain⟨f0,f1,f2,f3,f4,f5,rfl⟩:∃f0 f1 f2 f3 f4 f5,c6=#[f0,f1,f2,f3,f4,f5]:=by
     obtain⟨a1,c1,a2,c2,a3,c3,a4,c4,a5,c5,e,-⟩:=l1;exact⟨_,_,_,_,_,_,e⟩
    have aN:=Hd fun(W:World) (C:Below w.heap.size w W)=>l1.below C lR;obtain⟨D,hD⟩:=eX ((nd t (2*m)).leaf);rw[←hD]at Z a6 aN;obtain⟨j,hj⟩:=eX (2*m);rw[←hj]at aD;have bD:=Hd (show w.rangeAt b (E+j*10+1) [f0,f1,f2,f3,f4,f5]from fun q u hu=>by
     have:=aD (q+1) u (l3 q u hu)
     rwa [show E+j*10+1+q=E+j*10+(q+1) by omega])
    have bH:=Hd aZ;have HJ:=Hd (show(2:Int)*(m:Int)=(j:Int)∧j≤1000∧IntKind.i64.wrap (2*(m:Int))=(j:Int)from⟨by omega,by omega,by rw[show(2:Int)*(m:Int)=(j:Int) by omega];exact IntWalk.i64_in _ ⟨by omega,by omega⟩⟩);have bE:=Hd (show j<V∧((j:Nat):Int)<(V:Int) by omega);obtain⟨L,hL⟩:=eX (bytesOf s 2);rw[←hL]at I Z aR aS;obtain⟨n1,aU⟩:=eX D.box.length;obtain⟨n2,aW⟩:=eX D.sign.length;obtain⟨n3,aP⟩:=eX D.ident.length;obtain⟨n4,aT⟩:=eX D.par.length;obtain⟨n5,aM⟩:=eX D.sig.length;obtain⟨sr,aK⟩:=eX D.source;have bM:=Hd fun(W:World) (c:Array Value) (hc:LeafC W D c)=>(show∃y1 z1 y2 z2 y3 z3 y4 z4 y5 z5,c=#[q9 y1 n1 z1,q9 y2 n2 z2,q9 y3 n3 z3,rA rD (sr:Nat),q9 y4 n4 z4,q9 y5 n5 z5]from by
     obtain⟨a1,c1,a2,c2,a3,c3,a4,c4,a5,c5,e,-⟩:=hc;exact⟨a1,c1,a2,c2,a3,c3,a4,c4,a5,c5,by rw[e,aU,aW,aP,aT,aM,aK]⟩)
    obtain⟨HX,aO⟩:=eX (Cx (nd t) (t.length/2));rw[←aO]at aY Z;clear SM R ME h o r hr T aC aL hd hN hl S A aA hi a7 aX bC o1 s1 o2 s2 o3 s3 o4 s4 o5 s5 e2 hp O PR RC aQ PV pe aJ aF aZ aV aD l1 l2 l3 hD hj hL aU aW aP aT aM aK aO a9;have B:=Hd (Below.refl w.heap.size w);go_enter func7,ntmps7;go_wp2_with fail;refine(X.out w).mono ?_;rintro e w1 ⟨rfl,g⟩;have k:=Hd (B.out.trans (g.mono B.out.size));clear g;go_wp2_with fail;refine(Q.out w1 k.out).mono ?_;rintro e U ⟨rfl,g⟩;have l:=Hd (k.out.trans (g.mono k.out.size));clear g;go_wp2_with fail;refine(I.out U l.out).mono ?_;rintro e w3 ⟨x,rfl,ox,g⟩;have z:=Hd (l.out.trans (g.mono l.out.size));have X3:=Hd ox.rd;obtain⟨xa,xn,xc,rfl⟩:=Dg ox;clear ox;clear g;go_wp2_with fail;refine(P.out w3 z.out).mono ?_;rintro e w4 ⟨rfl,g⟩;have F:=Hd (z.out.trans (g.mono z.out.size));have X4:=Hd (X3.out.below g lR);clear g;go_wp2_with fail;refine(aY.out w4 F.out).mono ?_;rintro e w5 ⟨hv,rfl,oh,g⟩;have a0:=Hd (F.out.trans (g.mono F.out.size));have X5:=Hd (X4.out.below g lR);have V5:=Hd oh;obtain⟨va,vn,vc,rfl⟩:∃a n c,hv=.slice a n c:=(by obtain⟨a,c,e,_⟩:=oh;exact⟨_,_,_,e⟩);clear oh;clear g;go_wp2_with fail;refine(Z.out _ _ w5 X5.out V5.out).mono ?_;rintro e w6 ⟨⟨c,rfl,r⟩,g⟩;have aI:=Hd (a0.out.trans (g.mono a0.out.size));have X6:=Hd (X5.out.below g lR);have V6:=Hd (V5.out.below g lR);have G6:=Hd r;clear r;clear g;obtain⟨y1,z1,y2,z2,y3,z3,y4,z4,y5,z5,rfl⟩:=bM.out _ _ G6.out;obtain⟨p,hp⟩:=eX w6.heap.size;obtain⟨w7,Y⟩:=eX (w6.alloc (.cells #[q9 y1 n1 z1,q9 y2 n2 z2,q9 y3 n3 z3,rA rD (sr:Nat),q9 y4 n4 z4,q9 y5 n5 z5] 44));have g:Below w6.heap.size w6 w7:=(by rw[Y];exact bR.alloc lR _);have G:=Hd (aI.out.trans (g.mono aI.out.size));have X7:=Hd (X6.out.below g lR);have V7:=Hd (V6.out.below g lR);have G7:=Hd (G6.out.below g lR);have P7:=Hd (show Blk w7 p 44 #[q9 y1 n1 z1,q9 y2 n2 z2,q9 y3 n3 z3,rA rD (sr:Nat),q9 y4 n4 z4,q9 y5 n5 z5] by rw[Y,hp];exact Blk.new _ _ _);have bL:=Hd Y;have bJ:=Hd hp;clear g hp Y;go_wp2_with fail;rw[←bL.out,←bJ.out];have E7:=Hd (aN.out w7 G.out);refine Dv [eF (rA rD 0),eF (rA rC 0),eF (.bool true),eF (.bool true),eF (rA rD 0),eF (rA rC 0),eF (.bool true),eF (.bool true),eF (.bool true),eF (q9 xa xn xc),eF (q9 (some ⟨b,E,rF⟩) V tc),eF (rA rC (m:Nat)),fun v w'=>∃c2,v=.agg c2∧SparseR w' (.agg c2) s,fun v w'=>Rd w' v (bvs L),eF (.bool true),eF (.bool true),eF (.bool true),eF (.agg #[q9 y1 n1 z1,q9 y2 n2 z2,q9 y3 n3 z3,rA rD (sr:Nat),q9 y4 n4 z4,q9 y5 n5 z5]),eF (q9 (some ⟨b,E,rF⟩) V tc),eF (rA rC (m:Nat)),eF (rA rC (j:Nat)),eF (rB (some ⟨b,E+j*10,rF⟩)),eF (rB (some ⟨b,E+j*10+1,rF⟩)),eF (.agg #[f0,f1,f2,f3,f4,f5]),eF (.bool true),eF (.bool true),eF (.bool true)] (by kernel_rfl) (by kernel_rfl) (by kernel_rfl) (kE (kE (kE (kE (kE (kE (kE (kE (kE (kE (kE (kE (Ai (fun v x y h _ r=>let⟨c2,e,h2⟩:=h;⟨c2,e,h2.below r lR⟩) (Ai (fun v x y h _ r=>Rd.below h r lR) (kE (kE (kE (kE (kE (kE (kE (kE (kE (kE (kE (kE (kE (Ah)))))))))))))))))))))))))))) ?_ ?_
    ·refine gQ ?_ (gQ ?_ (gQ ?_ (gQ ?_ (gQ ?_ (gQ ?_ (gQ ?_ (gQ ?_ (gQ ?_ (gQ ?_ (gQ ?_ (gQ ?_ (gB ?_ (gB ?_ (gB ?_ (gQ ?_ (gQ ?_ (gB ?_ (gQ ?_ (gQ ?_ (gB ?_ (gQ ?_ (gQ ?_ (gB ?_ (gB ?_ (gQ ?_ (gQ ?_ .nil))))))))))))))))))))))))));all_goals
      intro a wx N ho hf;refine⟨by first|rfl|exact Ba rfl rfl rfl hf.1|exact Ba rfl rfl rfl hf.2.1|exact Ba rfl rfl rfl hf.2.2.1|exact Ba rfl rfl rfl hf.2.2.2.1,?_⟩;intro K hK;try have bO:a.tmps[0]?.getD undef=q9 (some ⟨b,E,rF⟩) V tc:=ho 0 (by kernel_rfl)
      try have bQ:a.tmps[1]?.getD undef=rA rC (m:Nat):=ho 1 (by kernel_rfl)
      try have bT:a.tmps[5]?.getD undef=.slice xa xn xc:=ho 5 (by kernel_rfl)
      try have bS:a.tmps[6]?.getD undef=rA rD 0:=ho 6 (by kernel_rfl)
      try have bK:a.tmps[8]?.getD undef=rB (some ⟨p,0,rF⟩):=ho 8 (by kernel_rfl)
      try have bU:a.tmps[9]?.getD undef=rA rD 0:=ho 9 (by kernel_rfl)
      try have bF:=eqn hf.1
      try have bV:=eqn hf.2.1
      try have bW:IntKind.i64.wrap (0)=0:=by rw[IntKind.wrap_i64];omega
      try have bN:=bE.out
      try(refine Hd ?_;go_simp;exact hK _ rfl)
     ·go_simp;refine(bI.out wx (G.out.trans (N.mono G.out.size))).mono ?_;rintro e U ⟨v2,rfl,M,H⟩;obtain⟨c2,rfl⟩:∃c,v2=.agg c:=(by obtain⟨_,_,e,_⟩:=M;exact⟨_,e⟩);exact hK _ _ ⟨_,rfl,M⟩ H
     ·have o0:∃c2,(a.tmps[55]?.getD undef)=.agg c2∧SparseR wx (.agg c2) s:=hf.1;obtain⟨v0,aE⟩:=eX (a.tmps[55]?.getD undef);rw[←aE]at o0;have e0:=aE.symm;clear aE;obtain⟨c2,rfl,M⟩:=o0;go_simp;refine(aR.out _ wx M).mono ?_;rintro e U ⟨u,rfl,hu,H⟩;exact hK _ _ hu H
     ·have o1:Rd wx (a.tmps[56]?.getD undef) (bvs L):=hf.2.1;obtain⟨v1,aH⟩:=eX (a.tmps[56]?.getD undef);rw[←aH]at o1;have e1:=aH.symm;clear aH;go_simp;refine(aS.out _ _ wx (X7.out.below N lR) o1).mono ?_;rintro e U ⟨rfl,H⟩;exact hK _ _ rfl H
     ·exact wp_load_row 44 (.tmp 8) rfl _ (evs bK) _ _ (0,0) _ (P7.out.below N P7.out.lt) underlying44 rfl (by kernel_rfl) (hK _ _ rfl bR)
     ·have gm:=HJ.out;have bG:IntKind.i64.wrap ((j:Int))=(j:Int):=(by rw[IntKind.wrap_i64];omega);have bB:2*(m:Int)=(j:Int):=(by omega);have bP:IntKind.i64.wrap (2*(m:Int))=(j:Int):=(by rw[bB];exact bG);go_simp;exact hK _ _ rfl bR
     ·exact wp_load_mid 44 (.tmp 65) rfl b (E+j*10+1) (evs bF) _ _ (Ao bD.out (G.out.trans (N.mono G.out.size)) bH.out) underlying44 rfl (Zcp) (hK _ _ rfl bR)
     ·go_simp;refine(a6.out _ _ wx (G7.out.below N lR) (E7.out.below N lR)).mono ?_;rintro e U ⟨rfl,H⟩;exact hK _ _ rfl H
    ·rintro f w8 g aB;have g:Below w7.heap.size w7 w8:=g;have S4:f 4=.bool true:=aB.2.2.2.2.2.2.2.2.2.2.2.2.2.2.2.2.2.2.2.2.2.2.2.2.2.2.1;clear aB;simp only[Am,Az,Ex,List.filterMap_cons,List.filterMap_nil,List.contains_cons,List.contains_nil,Nat.reduceBEq,Nat.reduceAdd,Bool.or_false,Bool.or_true,cond_true,cond_false];rw[S4];clear S4;have bA:=Hd (G.out.trans (g.mono G.out.size));have P8:=Hd (P7.out.below g P7.out.lt);have X8:=Hd (X7.out.below g lR);have V8:=Hd (V7.out.below g lR);have G8:=Hd (G7.out.below g lR);clear g;go_wp2_with fail;go_ret;exact⟨rfl,bA.out⟩
   ·rw[if_neg hi]at ME;have P:=Hd ME;have I:=Hd fun(W:World) (C:Below w.heap.size w W)=>(show Calls prog 31 #[q9 ta V tc,rA rC i] W fun e w'=>e=.returned (.tuple #[q9 rF 0 0,rA rD 7])∧Below W.heap.size W w' from Mo ta V tc 7 i W (by decide) fun W2 aG=>Zi8 _ t J i true W2 (R W2 (C.trans (aG.mono C.size))) r o hr A aA T hi);clear SM R ME h o r hr T aC aL hd hN hl S A aA hi hp;have B:=Hd (Below.refl w.heap.size w);go_enter func7,ntmps7;go_wp2_with fail;refine(X.out w).mono ?_;rintro e w1 ⟨rfl,g⟩;have k:=Hd (B.out.trans (g.mono B.out.size));clear g;go_wp2_with fail;refine(Q.out w1 k.out).mono ?_;rintro e U ⟨rfl,g⟩;have l:=Hd (k.out.trans (g.mono k.out.size));clear g;go_wp2_with fail;refine(I.out U l.out).mono ?_;rintro e w3 ⟨rfl,g⟩;have z:=Hd (l.out.trans (g.mono l.out.size));clear g;go_wp2_with fail;refine(P.out w3 z.out).mono ?_;rintro e w4 ⟨rfl,g⟩;have F:=Hd (z.out.trans (g.mono z.out.size));clear g;go_wp2_with fail;go_ret;exact⟨rfl,F.out⟩
end Go.Proofs.YtfofaiommeckbaaGreat
