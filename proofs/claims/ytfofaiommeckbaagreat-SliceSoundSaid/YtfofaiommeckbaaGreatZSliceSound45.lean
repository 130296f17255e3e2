/- Walks: tree.member, tree.Leaf. -/
import Derived.Test.YtfofaiommeckbaaGreatZSliceSoundB
import Derived.Test.YtfofaiommeckbaaGreatZSliceSound20
import Derived.Test.YtfofaiommeckbaaGreatZSliceSound24
set_option linter.unusedVariables false
set_option maxRecDepth 100000
set_option maxHeartbeats 40000000
namespace Go.Proofs.YtfofaiommeckbaaGreat
open Go.RowKit WalkM WireM
theorem Zbt (x0 x1 x2 x3 x4 x5 x6 x7 x8 x9:Value)(w:World):(Instr.field 52 (.agg #[x0,x1,x2,x3,x4,x5,x6,x7,x8,x9]) 1).run Tryz.prog w=.ok (.agg #[x1,x2,x3,x4,x5,x6]) w:=by kernel_rfl
theorem Zk5 {w' h W:World} {d:LeafD} {x0 x1 x2 x3 x4:Value} {g:Nat} (u:Own h w'.heap.size 5 x0 (bvs d.box)) (C:Own h w'.heap.size 5 x1 (bvs d.sign)) (h2:Own h w'.heap.size 5 x2 (bvs d.ident)) (h3:Own h w'.heap.size 5 x3 (bvs d.par)) (w:Own h w'.heap.size 5 x4 (bvs d.sig))
  (G:g<w'.heap.size) (i:∀j,j≠g→W.heap[j]? =h.heap[j]?):Zaq W d #[x0,x1,x2,.int .u8 (d.source:Nat),x3,x4]:=by
 have f:∀ {v:Value} {xs:List Value},Own h w'.heap.size 5 v xs→Own W w'.heap.size 5 v xs:=by
  intro v xs m;obtain⟨q,E|⟨s,D,l,rfl,k,hh,rest⟩⟩:=m
  ·exact⟨q,.inl E⟩
  ·exact⟨q,.inr ⟨s,D,l,rfl,k,by rw[i s (by omega)];exact hh,rest⟩⟩
 have e:∀ {v:Value} {b:List Nat},Own W w'.heap.size 5 v (bvs b)→∃a c,v=.slice a b.length c:=by
  intro v b m;obtain⟨a,c,e,_⟩:=m.rd;rw[bvs_len]at e;exact⟨a,c,e⟩
 have t:=f u;have o:=f C;have r:=f h2;have p:=f h3;have n:=f w;obtain⟨z,F,rfl⟩:=e t;obtain⟨x,c1,rfl⟩:=e o;obtain⟨y,c2,rfl⟩:=e r;obtain⟨B,c3,rfl⟩:=e p;obtain⟨A,c4,rfl⟩:=e n;exact⟨z,F,x,c1,y,c2,B,c3,A,c4,rfl,t.rd,o.rd,r.rd,p.rd,n.rd⟩
theorem Zbu (v:Value)(t:List NodeD)(hh:Nat)(i:Int)(w:World)(h:TreeR w v t)(j:TreeOk t)(d:t.length=2*hh+1)(r:Ap t.length=hh+1)(u:hh≤1000)(B: -9223372036854775808≤i∧i≤9223372036854775807):
  Calls Tryz.prog 190 #[v,.int .i64 i] w fun e w'=>e=.returned (.bool (decide (i∈Nf t (hh+1))))∧w'=w:=by
 obtain⟨C,c,rfl,l,A⟩:=h.sl;have g:=fun(W:World)=>Je C t.length c W (by omega);rw[r]at g
 by_cases h0:i<0
 ·rw[decide_eq_false (Zkc t (hh+1) h0)];have z:decide (i≥0)=false:=decide_eq_false (by omega);obtain⟨n,k⟩:=eX t.length;rw[←k];clear g h j d r u l k;go_enter Tryz.func190,Tryz.ntmps190;go_wp2_with fail;go_ret;exact⟨rfl,rfl⟩
 ·obtain⟨m,rfl⟩:∃m:Nat,i=(m:Int):=⟨i.toNat,by omega⟩
  by_cases hm:m<hh+1
  ·obtain⟨b,D,J,K,rfl,E,y,-,-⟩:=h.at (i:=2*m) (by omega);have q:=(j.nd (2*m)).kind;have a:=mem_iff t (hh+1) m;obtain⟨x,p⟩:=eX ((nd t (2*m)).kind);rw[←p]at y q a;have e:decide (((m:Nat):Int)∈Nf t (hh+1))=((x:Int)==1):=by
    by_cases hk:x=1
    ·rw[decide_eq_true (a.2 ⟨hm,hk⟩),hk];rfl
    ·rw[decide_eq_false (fun l=>hk (a.1 l).2),Eq.comm,beq_eq_false_iff_ne];omega
   rw[e];obtain⟨N,f⟩:=eX (hh+1);rw[←f]at g hm;have s:2*m<t.length:=(by omega);obtain⟨n,k⟩:=eX t.length;rw[←k]at g l s⊢;have o:=Hd g;have G:decide (m<N)=true:=decide_eq_true hm;have h2:decide ((m:Int)<(N:Int))=true:=decide_eq_true (by omega);have I:wrap64 (2*(m:Int))=2*(m:Int):=(by clear g a e;unfold wrap64;omega);have F:(2*(m:Int)).toNat=2*m:=(by omega);have H:2*(m:Int)<(n:Int):=(by omega);clear g h j d r u a e f k p h0;go_enter Tryz.func190,Tryz.ntmps190;go_wp2_with fail;refine(o.out w).mono ?_;rintro e w' ⟨rfl,rfl⟩;go_wp2_with fail;go_ret;exact⟨rfl,rfl⟩
  ·rw[decide_eq_false (fun l=>hm ((mem_iff t (hh+1) m).1 l).1)];obtain⟨N,f⟩:=eX (hh+1);rw[←f]at g hm;obtain⟨n,k⟩:=eX t.length;rw[←k]at g l⊢;have o:=Hd g;have G:decide (m<N)=false:=decide_eq_false hm;have h2:decide ((m:Int)<(N:Int))=false:=decide_eq_false (by omega);clear g h j d r u f k h0;go_enter Tryz.func190,Tryz.ntmps190;go_wp2_with fail;refine(o.out w).mono ?_;rintro e w' ⟨rfl,rfl⟩;go_wp2_with fail;go_ret;exact⟨rfl,rfl⟩
theorem Rz (v:Value)(t:List NodeD)(hh m:Nat)(w:World)(h:TreeR w v t)(J:Zcv t=true)(x:TreeOk t)(hr:Bv t=true)(g:t.length=2*hh+1)(hN:Ap t.length=hh+1)(hi:((m:Nat):Int)∈Nf t (hh+1)):
  Calls Tryz.prog 132 #[v,.int .i64 (m:Nat)] w fun e w'=>∃c6:Array Value,e=.returned (.tuple #[.agg c6,.bool true])∧Zaq w' (nd t (2*m)).leaf c6∧Below w.heap.size w w':=by
 have aE:=((mem_iff t (hh+1) m).1 hi).1;have c:=Qv J;have H:=fun(W:World) (A:Below w.heap.size w W)=>Ph v t W (h.below A lR) J x;rw[hr]at H;have S:=Hd H;have I:=fun(W:World) (A:Below w.heap.size w W)=>Zbu v t hh (m:Int) W (h.below A lR) x g hN (by omega) (by omega);rw[decide_eq_true hi]at I;have L:=Hd I;have E:2*m<t.length:=(by omega);obtain⟨ta,n0,rfl,hc,aJ⟩:=h.sl;obtain⟨b,aF,cs,rfl,aG,o,q⟩:=h.node E;have Y:=fun(W:World) (A:Below w.heap.size w W)=>Ld (nd t (2*m)) cs W (o.below A lR) (Zcw J (2*m));have z:=Hd Y;have i:=Hd q;have aB:=Hd o.size;obtain⟨D,hD⟩:=eX (nd t (2*m));rw[←hD]at z⊢;obtain⟨n,hn⟩:=eX t.length;rw[←hn]at S L hc E⊢;have A:wrap64 (2*(m:Int))=2*(m:Int):=(by clear S L z i q H I Y;unfold wrap64;omega);have aI:(2*(m:Int)).toNat=2*m:=(by omega);have aL:2*(m:Int)<(n:Int):=(by omega);clear H I Y h J x hr g hN hi o q hn hD aE c;have B:=(Below.refl w.heap.size w).alloc lR (.cells #[.slice none 0 0,.slice none 0 0,.slice none 0 0,.int .u8 0,.slice none 0 0,.slice none 0 0] 44);have u:=Hd B;clear B;go_enter Tryz.func132,Tryz.ntmps132;go_wp2_with fail;refine(S.out _ u.out).mono ?_;rintro e w1 ⟨rfl,T⟩;have C:=Hd (u.out.trans (T.mono u.out.size));have r:=Hd ((Blk.new w 44 #[.slice none 0 0,.slice none 0 0,.slice none 0 0,.int .u8 0,.slice none 0 0,.slice none 0 0]).below T (by simp));clear T;go_wp2_with fail;refine(L.out _ C.out).mono ?_;rintro e w' ⟨rfl,rfl⟩;have aC:=Hd (Am i.out C.out aG);go_wp2_with (refine wpList_load_mid rfl 52 (.tmp 19) rfl b (aF+2*m*10) rfl cs.toList _ aC.out Tryz.underlying52 rfl (by rw[Array.length_toList,aB.out];exact Ak) ?_);refine(z.out w' C.out).mono ?_;rintro e w2 ⟨c',rfl,M,p⟩;have O:=Hd (C.out.trans (p.mono C.out.size));have G:=Hd (r.out.below p r.out.lt);have d:=r.out.lt;obtain⟨x0,x1,x2,x3,x4,u0,u1,u2,rfl,K,Z,h2,h3,h4,h5,h6,h7⟩:=M;have R:=fun(W:World) (a:∀j,j≠w.heap.size→W.heap[j]? =w2.heap[j]?)=>Zk5 K Z h2 h3 h4 (show w.heap.size<w'.heap.size from d) a;obtain⟨a0,n1,Q,rfl⟩:=Dk K;obtain⟨N,n2,k1,rfl⟩:=Dk Z;obtain⟨a2,P,V,rfl⟩:=Dk h2;obtain⟨a3,n4,k3,rfl⟩:=Dk h3;obtain⟨X,U,k4,rfl⟩:=Dk h4;obtain⟨a5,n6,k5,rfl⟩:=Dk h5;obtain⟨a6,n7,k6,rfl⟩:=Dk h6;obtain⟨a7,n8,k7,rfl⟩:=Dk h7;obtain⟨s,y⟩:=eX D.leaf.source;obtain⟨kd,F⟩:=eX D.kind;rw[←y,←F];rw[←y]at R;have aA:=Hd R;clear R y F K Z h2 h3 h4 h5 h6 h7 p d;have aK:=Zbt (.int .u8 (kd:Nat)) (.slice a0 n1 Q) (.slice N n2 k1) (.slice a2 P V) (.int .u8 (s:Nat)) (.slice a3 n4 k3) (.slice X U k4) (.slice a5 n6 k5) (.slice a6 n7 k6) (.slice a7 n8 k7) w2;go_wp2_with (refine Aa rfl 44 (.tmp 4) (.tmp 22) rfl w.heap.size #[.slice a0 n1 Q,.slice N n2 k1,.slice a2 P V,.int .u8 (s:Nat),.slice a3 n4 k3,.slice X U k4] rfl rfl 44 #[.slice none 0 0,.slice none 0 0,.slice none 0 0,.int .u8 0,.slice none 0 0,.slice none 0 0] G.out (by kernel_rfl) rfl rfl ?_);rintro w3 f k a l;have HK:=Hd f;have aH:=Hd (O.out.trans (k w.heap.size lR));have aD:=Hd (aA.out w3 a);clear f k a l;go_wp2_with fail;exact bodyPost_ret (v:=.tuple #[.agg #[.slice a0 n1 Q,.slice N n2 k1,.slice a2 P V,.int .u8 (s:Nat),.slice a3 n4 k3,.slice X U k4],.bool true]) (Ad Tryz.results132 _ _ w.heap.size _ _ _ rfl HK.out Tryz.underlying44 rfl (by kernel_rfl)) rfl ⟨_,rfl,aD.out,aH.out⟩
theorem Zfa (v:Value)(t:List NodeD)(hh m:Nat)(w:World)(h:TreeR w v t)(g:Bg t=true)(b:TreeOk t)(c:Bv t=true)(a:t.length=2*hh+1)(d:Ap t.length=hh+1)(f:((m:Nat):Int)∈Nf t (hh+1)):
  Calls Tryz.prog 132 #[v,.int .i64 (m:Nat)] w fun e w'=>∃c6:Array Value,e=.returned (.tuple #[.agg c6,.bool true])∧Zaq w' (nd t (2*m)).leaf c6∧Below w.heap.size w w':=
 Rz v t hh m w h (Oz g) b c a d f
end Go.Proofs.YtfofaiommeckbaaGreat
