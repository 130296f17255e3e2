import Derived.Lib.AppendZerosOnto
import Derived.Laws.MakeOwn
import Derived.Test.YtfofaiommeckbaaGreatZPn13
open Go.Obj renaming cells -> rJ
open Go.Ending renaming returned -> rK
open Go.Value renaming slice -> rC, int -> rD
open Go.IntKind renaming u8 -> rG
open Option renaming none -> rI
open Go.Proofs.Tryz
open Array renaming length_toList -> fM
open Nat renaming mul_one -> fN, mul_le_mul_left -> aC, zero_add -> aD
open List renaming length_append -> bA, size_toArray -> fH, take_left -> fP, length_nil -> cO, replicate -> eL, length_cons -> dB
set_option linter.unusedVariables false
set_option maxRecDepth 100000
set_option maxHeartbeats 40000000
namespace Go.Proofs.YtfofaiommeckbaaGreat
open Go.RowKit WalkM WireM
theorem Qc (x0 x1 x2 x3 x4 x5 x6 x7 x8 x9:Value)(w:World):(Instr.field 52 (.agg #[x0,x1,x2,x3,x4,x5,x6,x7,x8,x9]) 1).run prog w=.ok (.agg #[x1,x2,x3,x4,x5,x6]) w:=by kernel_rfl
theorem Zds {w' h W:World} {d:LeafD} {x0 x1 x2 x3 x4:Value} {g:Nat} (h0:Own h w'.heap.size 5 x0 (bvs d.box)) (h1:Own h w'.heap.size 5 x1 (bvs d.sign)) (h2:Own h w'.heap.size 5 x2 (bvs d.ident)) (h3:Own h w'.heap.size 5 x3 (bvs d.par)) (C:Own h w'.heap.size 5 x4 (bvs d.sig))
  (F:g<w'.heap.size) (i:∀j,j≠g->W.heap[j]? =h.heap[j]?):LeafC W d #[x0,x1,x2,rD rG (d.source:Nat),x3,x4]:=by
 have f:∀ {v:Value} {xs:List Value},Own h w'.heap.size 5 v xs->Own W w'.heap.size 5 v xs:=by
  intro v xs m;obtain⟨t,E|⟨n,B,k,rfl,l,D,rest⟩⟩:=m
  ·exact⟨t,.inl E⟩
  ·exact⟨t,.inr ⟨n,B,k,rfl,l,by rw[i n (by omega)];exact D,rest⟩⟩
 have e:∀ {v:Value} {b:List Nat},Own W w'.heap.size 5 v (bvs b)->∃a c,v=.slice a b.length c:=by
  intro v b m;obtain⟨a,c,e,_⟩:=m.rd;rw[bvs_len]at e;exact⟨a,c,e⟩
 have o:=f h0;have p:=f h1;have q:=f h2;have r:=f h3;have s:=f C;obtain⟨u,A,rfl⟩:=e o;obtain⟨w,c1,rfl⟩:=e p;obtain⟨x,c2,rfl⟩:=e q;obtain⟨y,c3,rfl⟩:=e r;obtain⟨z,c4,rfl⟩:=e s;exact⟨u,A,w,c1,x,c2,y,c3,z,c4,rfl,o.rd,p.rd,q.rd,r.rd,s.rd⟩
theorem Za7 (v:Value)(t:List NodeD)(g:Nat)(i:Int)(w:World)(h:TreeR w v t)(k:TreeOk t)(j:t.length=2*g+1)(s:Bc t.length=g+1)(u:g<=1000)(D: -9223372036854775808<=i/\i<=9223372036854775807):
  Calls prog 190 #[v,rD .i64 i] w fun e w'=>e=rK (.bool (decide (i∈Pg t (g+1))))/\w'=w:=by
 obtain⟨H,c,rfl,p,C⟩:=h.sl;have d:=fun(W:World)=>Je H t.length c W (by omega);rw[s]at d
 by_cases h0:i<0
 ·rw[dF (Zkf t (g+1) h0)];have A:decide (i>=0)=false:=dF (by omega);obtain⟨n,l⟩:=eX t.length;rw[<-l];clear d h k j s u p l;go_in;go_wp2_with fail;go_ret;exact⟨rfl,rfl⟩
 ·obtain⟨m,rfl⟩:∃m:Nat,i=(m:Int):=⟨i.toNat,by omega⟩
  by_cases hm:m<g+1
  ·obtain⟨b,G,J,e1,rfl,B,z,-,-⟩:=h.at (i:=2*m) (by omega);have r:=(k.nd (2*m)).kind;have a:=mem_iff t (g+1) m;obtain⟨y,q⟩:=eX ((nd t (2*m)).kind);rw[<-q]at z r a;have e:decide (((m:Nat):Int)∈Pg t (g+1))=((y:Int)==1):=by
    by_cases hk:y=1
    ·rw[dT (a.2 ⟨hm,hk⟩),hk];rfl
    ·rw[dF (fun p=>hk (a.1 p).2),Eq.comm,qN];omega
   rw[e];obtain⟨N,f⟩:=eX (g+1);rw[<-f]at d hm;have x:2*m<t.length:=(by omega);obtain⟨n,l⟩:=eX t.length;rw[<-l]at d p x|-;have o:=Hd d;have h1:decide (m<N)=true:=dT hm;have h2:decide ((m:Int)<(N:Int))=true:=dT (by omega);have I:wrap64 (2*(m:Int))=2*(m:Int):=(by clear d a e;unfold wrap64;omega);have E:(2*(m:Int)).toNat=2*m:=(by omega);have F:2*(m:Int)<(n:Int):=(by omega);clear d h k j s u a e f l q h0;go_in;go_wp2_with fail;refine(o.out w).mono ?_;rintro e w' ⟨rfl,rfl⟩;go_wp2_with fail;go_ret;exact⟨rfl,rfl⟩
  ·rw[dF (fun p=>hm ((mem_iff t (g+1) m).1 p).1)];obtain⟨N,f⟩:=eX (g+1);rw[<-f]at d hm;obtain⟨n,l⟩:=eX t.length;rw[<-l]at d p|-;have o:=Hd d;have h1:decide (m<N)=false:=dF hm;have h2:decide ((m:Int)<(N:Int))=false:=dF (by omega);clear d h k j s u f l h0;go_in;go_wp2_with fail;refine(o.out w).mono ?_;rintro e w' ⟨rfl,rfl⟩;go_wp2_with fail;go_ret;exact⟨rfl,rfl⟩
theorem Rx (v:Value)(t:List NodeD)(F m:Nat)(w:World)(h:TreeR w v t)(K:Zcr t=true)(u:TreeOk t)(hr:Fw t=true)(i:t.length=2*F+1)(hN:Bc t.length=F+1)(hi:((m:Nat):Int)∈Pg t (F+1)):
  Calls prog 132 #[v,rD .i64 (m:Nat)] w fun e w'=>∃c6:Array Value,e=rK (.tuple #[.agg c6,.bool true])/\LeafC w' (nd t (2*m)).leaf c6/\Below w.heap.size w w':=by
 have aB:=((mem_iff t (F+1) m).1 hi).1;have c:=Rn K;have J:=fun(W:World) (A:Below w.heap.size w W)=>Pz v t W (h.below A lR) K u;rw[hr]at J;have T:=Hd J;have I:=fun(W:World) (A:Below w.heap.size w W)=>Za7 v t F (m:Int) W (h.below A lR) u i hN (by omega) (by omega);rw[dT hi]at I;have Q:=Hd I;have H:2*m<t.length:=(by omega);obtain⟨ta,n0,rfl,hc,aE⟩:=h.sl;obtain⟨b,aD,cs,rfl,aA,r,x⟩:=h.node H;have L:=fun(W:World) (A:Below w.heap.size w W)=>Hk (nd t (2*m)) cs W (r.below A lR) (Zcs K (2*m));have p:=Hd L;have d:=Hd x;have S:=Hd r.size;obtain⟨D,hD⟩:=eX (nd t (2*m));rw[<-hD]at p|-;obtain⟨n,hn⟩:=eX t.length;rw[<-hn]at T Q hc H|-;have A:wrap64 (2*(m:Int))=2*(m:Int):=(by clear T Q p d x J I L;unfold wrap64;omega);have aG:(2*(m:Int)).toNat=2*m:=(by omega);have aH:2*(m:Int)<(n:Int):=(by omega);clear J I L h K u hr i hN hi r x hn hD aB c;have E:=(Below.refl w.heap.size w).alloc lR (rJ #[rC rI 0 0,rC rI 0 0,rC rI 0 0,rD rG 0,rC rI 0 0,rC rI 0 0] 44);have l:=Hd E;clear E;go_in;go_wp2_with fail;refine(T.out _ l.out).mono ?_;rintro e w1 ⟨rfl,hb⟩;have B:=Hd (l.out.trans (hb.mono l.out.size));have o:=Hd ((Blk.new w 44 #[rC rI 0 0,rC rI 0 0,rC rI 0 0,rD rG 0,rC rI 0 0,rC rI 0 0]).below hb (by simp));clear hb;go_wp2_with fail;refine(Q.out _ B.out).mono ?_;rintro e w' ⟨rfl,rfl⟩;have R:=Hd (As d.out B.out aA);go_wp2_with (refine wpList_load_mid rfl 52 (.tmp 19) rfl b (aD+2*m*10) rfl cs.toList _ R.out underlying52 rfl (by rw[fM,S.out];exact Bk) ?_);refine(p.out w' B.out).mono ?_;rintro e w2 ⟨c',rfl,aC,q⟩;have M:=Hd (B.out.trans (q.mono B.out.size));have C:=Hd (o.out.below q o.out.lt);have k:=o.out.lt;obtain⟨x0,x1,x2,x3,x4,u0,u1,u2,rfl,h0,h1,h2,h3,h4,h5,h6,h7⟩:=aC;have U:=fun(W:World) (a:∀j,j≠w.heap.size->W.heap[j]? =w2.heap[j]?)=>Zds h0 h1 h2 h3 h4 (show w.heap.size<w'.heap.size from k) a;obtain⟨V,n1,k0,rfl⟩:=Cg h0;obtain⟨X,n2,k1,rfl⟩:=Cg h1;obtain⟨Y,n3,k2,rfl⟩:=Cg h2;obtain⟨Z,n4,k3,rfl⟩:=Cg h3;obtain⟨a4,n5,k4,rfl⟩:=Cg h4;obtain⟨a5,n6,k5,rfl⟩:=Cg h5;obtain⟨a6,n7,k6,rfl⟩:=Cg h6;obtain⟨a7,n8,k7,rfl⟩:=Cg h7;obtain⟨s,z⟩:=eX D.leaf.source;obtain⟨kd,G⟩:=eX D.kind;rw[<-z,<-G];rw[<-z]at U;have P:=Hd U;clear U z G h0 h1 h2 h3 h4 h5 h6 h7 q k;have aF:=Qc (rD rG (kd:Nat)) (rC V n1 k0) (rC X n2 k1) (rC Y n3 k2) (rD rG (s:Nat)) (rC Z n4 k3) (rC a4 n5 k4) (rC a5 n6 k5) (rC a6 n7 k6) (rC a7 n8 k7) w2;go_wp2_with (refine Aa rfl 44 (.tmp 4) (.tmp 22) rfl w.heap.size #[rC V n1 k0,rC X n2 k1,rC Y n3 k2,rD rG (s:Nat),rC Z n4 k3,rC a4 n5 k4] rfl rfl 44 #[rC rI 0 0,rC rI 0 0,rC rI 0 0,rD rG 0,rC rI 0 0,rC rI 0 0] C.out (by kernel_rfl) rfl rfl ?_);rintro w3 g f a y;have HK:=Hd g;have N:=Hd (M.out.trans (f w.heap.size lR));have O:=Hd (P.out w3 a);clear g f a y;go_wp2_with fail;exact bodyPost_ret (v:=.tuple #[.agg #[rC V n1 k0,rC X n2 k1,rC Y n3 k2,rD rG (s:Nat),rC Z n4 k3,rC a4 n5 k4],.bool true]) (Ac results132 _ _ w.heap.size _ _ _ rfl HK.out underlying44 rfl (by kernel_rfl)) rfl ⟨_,rfl,O.out,N.out⟩
theorem Zdt (v:Value)(t:List NodeD)(b m:Nat)(w:World)(h:TreeR w v t)(i:Ef t=true)(c:TreeOk t)(g:Fw t=true)(a:t.length=2*b+1)(d:Bc t.length=b+1)(f:((m:Nat):Int)∈Pg t (b+1)):
  Calls prog 132 #[v,rD .i64 (m:Nat)] w fun e w'=>∃c6:Array Value,e=rK (.tuple #[.agg c6,.bool true])/\LeafC w' (nd t (2*m)).leaf c6/\Below w.heap.size w w':=
 Rx v t b m w h (Pt i) c g a d f
end Go.Proofs.YtfofaiommeckbaaGreat
namespace Go.Proofs.YtfofaiommeckbaaGreat
open Go.RowKit
theorem Ry {P:Program} {w:World} (t H ty e:TypeId) (z:Value) (d:Nat) (F:Elem P t e z d) (R:IntKind) (s:P.underlying H=some (.int R)) {B:Nat} (v:Value) (xs:List Value) (n:Own w B e v xs)
  (k:Nat) (hk:0<k) (Q:z.cells.size=1) (h1:∀u∈(Builtin.zeroCells z.cells k).toList,u.oneCell'=true) (hn:xs.length+k<1099511627776) (U:B<=w.heap.size):
  ∃v' w',(Builtin.append_ #[t,H] ty #[v,rD .i64 (k:Nat)]).run P w=.ok v' w'/\Own w' B e v' (xs++(Builtin.zeroCells z.cells k).toList)/\w.grownBy w' v.ownBlock:=by
 obtain⟨i,K,O,G,m⟩:=info_parts F.inf;have low:=F.low;have ht:=F.ty;have b:∀k,(Builtin.zeroCells z.cells k).size=k:=fun k=>(by rw[size_zeroCells,Q,fN]);have y:(Builtin.zeroCells z.cells k).toList.length=k:=(fM (xs:=Builtin.zeroCells z.cells k)).trans (b k);have T:(xs.length+k)*d<=(xs.length+k)*64:=aC _ low;have L:k*d<=k*64:=aC _ low;have a:(xs++(Builtin.zeroCells z.cells k).toList).length=xs.length+k:=(by rw[bA,y]);have grown:∀(c:Nat),c<xs.length+k->∀(row:Option Nat),
   Own (w.drew.alloc (.cells (xs.toArray++Builtin.zeroCells z.cells k++Builtin.zeroCells z.cells (grownCap w (xs.length+k) c e-(xs.length+k))) e)) B e
    (rC (some ⟨w.heap.size,0,rI⟩) (xs.length+k) (grownCap w (xs.length+k) c e)) (xs++(Builtin.zeroCells z.cells k).toList)/\
   w.grownBy (w.drew.alloc (.cells (xs.toArray++Builtin.zeroCells z.cells k++Builtin.zeroCells z.cells (grownCap w (xs.length+k) c e-(xs.length+k))) e)) row:=by
  intro c ho row;have J:=grownCap_ge w (xs.length+k) c e;have p:grownCap w (xs.length+k) c e<=maxLen:=grownCap_le_maxLen w (xs.length+k) c e (by unfold maxLen;omega);refine⟨⟨by simp,.inr ⟨w.heap.size,_,_,by rw[a],U,heap_alloc_new w.drew _,by rw[a];exact J,p,?_,?_⟩⟩,⟨rfl,rfl,rfl,by simp,fun j X _=>heap_alloc_old w.drew _ X⟩⟩
  ·simp only[Array.size_append,fH,b];omega
  ·rw[a,fN];simp only[Array.toList_append];rw[<-a];exact fP
 have r:=n;obtain⟨hl,V⟩:=r;rcases V with⟨rfl,h0⟩|⟨g,o,l,rfl,I,S,Y,p,W,h⟩
 ·have hx:xs=[]:=List.eq_nil_of_length_eq_zero (by omega);subst hx;have N:=Lib.run_append_nil_zeros (P:=P) w t H ty e i z .i64 R ht s K O k hk (by omega) (by omega) (by rw[m];omega);have f:=grown 0 (by omega) (Value.ownBlock (rC rI 0 0));simp only[cO,aD,List.nil_append]at f|-;exact⟨_,_,N,by simpa using f.1,by simpa using f.2⟩
 ·by_cases hroom:xs.length+k<=o
  ·have D:=run_storeCells_at P g xs.length e (Builtin.zeroCells z.cells k).toList 0 l w S (by rw[y];omega) h1;simp only[Nat.add_zero]at D;have Z:IntKind.i64.wrap (k:Int)=k:=(by rw[IntKind.wrap_i64];omega);have A:¬((k:Int)<0):=(by omega);have x:¬(281474976710656<(k:Int)*(i.bytes:Int)):=by
    rw[<-Int.natCast_mul,m];omega
   have M:¬(k=0):=(by omega);refine⟨rC (some ⟨g,0,rI⟩) (xs.length+k) o,w.setRow g (l.toList.take xs.length++(Builtin.zeroCells z.cells k).toList++l.toList.drop (xs.length+(Builtin.zeroCells z.cells k).toList.length)).toArray,?_,?_,?_⟩
   ·have E:(storeCells ⟨g,xs.length,rI⟩ (Builtin.zeroCells z.cells k).toList).run P w=_:=D;simp[Builtin.append_,run_underlying ht,run_underlying s,sizeOf,typeInfo,zeroValue,K,O,G,asInt,asIntOf,Z,hroom,A,x,M,Addr.add_lit,E]
   ·refine⟨by simp,.inr ⟨g,o,_,by rw[a],I,setRow_heap w g l _ e _ S,by rw[a];exact hroom,p,?_,?_⟩⟩
    ·simp only[fH,bA,List.length_take,List.length_drop,fM,b];omega
    ·rw[a,fN];rw[fN]at h;rw[h,<-a];exact fP
   ·exact⟨rfl,rfl,rfl,by simp,fun k _ hk=>setRow_other w g k _ (fun e=>hk (by simp[Value.ownBlock,e]))⟩
  ·have q:∀j u,xs[j]? =some u->w.cell? ((⟨g,0,rI⟩:Addr).add j)=some u:=World.ownsRow.cells (g:=g) n rfl;have C:=run_firstCells_some (P:=P) w.drew i.size xs.length ⟨g,0,rI⟩ xs.length o xs (by rw[G];omega) (by simpa using q);have N:=Lib.run_append_grow_zeros (P:=P) w t H ty e i z .i64 R ht s K O (some ⟨g,0,rI⟩) xs.length o xs C k hk (by omega) (by omega) (by omega) (by rw[m];omega) (growslice_fits (by omega) (by rw[m];omega));have f:=grown o (by omega) (Value.ownBlock (rC (some ⟨g,0,rI⟩) xs.length o));exact⟨_,_,N,f.1,f.2⟩
open ShaM WireM
theorem If (L:List Nat):(shaF L).length=32:=by
 unfold shaF;rw[<-Ru (blocksN_ok _ HL0_len HL0_lt _).1,Ie]
theorem zcN (n:Nat):(Builtin.zeroCells (Value.int .u8 0).cells n).toList=bvs (eL n 0):=by
 refine List.ext_getElem (by simp[Builtin.zeroCells,Value.cells]) fun i h1 h2=> ?_;simp[Builtin.zeroCells,Value.cells,Nat.mod_one,bvs]
theorem Own.take0 {w:World} {B:Nat} {e:TypeId} {a:Option Addr} {n c:Nat} {xs:List Value}(h:Own w B e (rC a n c) xs):Own w B e (rC a 0 c) []:=by
 obtain⟨h1,h2⟩:=h;refine⟨by simp,?_⟩;rcases h2 with⟨h2,h3⟩|⟨g,l,b,d,f,i,m,j,k,ht⟩
 ·simp only[Value.slice.injEq]at h2;obtain⟨rfl,rfl,rfl⟩:=h2;exact .inl ⟨rfl,rfl⟩
 ·simp only[Value.slice.injEq]at d;obtain⟨rfl,rfl,rfl⟩:=d;exact .inr ⟨g,c,b,rfl,f,i,by simp,j,k,by simp⟩
theorem Zhy (n:Nat)(w:World)(l:n<1000000000):
  Calls prog 234 #[rC rI 0 0,rD .i64 (n:Nat)] w fun e w'=>∃v',e=rK v'/\Own w' w.heap.size 5 v' []/\Below w.heap.size w w':=by
 have h0:decide ((n:Int)<0)=false:=(by simp);rcases Nat.eq_zero_or_pos n with rfl|i
 ·go_in;go_wp2_with fail;go_ret;exact⟨_,rfl,Own.nil _ _ _,bR⟩
 ·have h1:decide ((n:Int)>0)=true:=(by simp;omega);obtain⟨m,j,b,a,f⟩:=Ry (P:=prog) (w:=w) 28 3 28 5 (rD rG 0) 1 Cp .i64 rfl (rC rI 0 0) [] (Own.nil w w.heap.size _) n i rfl (by rw[zcN];exact Cf _) (by simp;omega) lR;rw[zcN]at a;have d:Below w.heap.size w j:=(Below.refl w.heap.size w).grown f lR (fun k hk=>by simp[Value.ownBlock]at hk);obtain⟨o,p,q,rfl⟩:=Cw a;have h:=Hd a.take0;have g:=Hd d;have c:=Hd b;clear a f d b;go_in;go_wp2_with (at_builtin;refine Lib.wpList_append_run _ rfl _ _ _ _ rfl _ _ rfl rfl _ _ c.out ?_);go_ret;exact⟨_,rfl,h.out,g.out⟩
theorem Za8 (g:Nat)(v:Value)(L:List Nat)(w:World)(D:w.cell? ⟨g,0,rI⟩=some v)(z:g<w.heap.size)(h:Rd w v (bvs L))(E:L.length<1000000000):
  Calls prog 199 #[rC (some ⟨g,0,rI⟩) 1 1] w fun e w'=>∃v',e=rK v'/\Own w' w.heap.size 5 v' (bvs L)/\Below w.heap.size w w':=by
 obtain⟨N,O,rfl⟩:∃a c,v=.slice a L.length c:=(by obtain⟨a,c,e,_⟩:=h;exact⟨a,c,by rw[e,bvs_len]⟩);obtain⟨n,A⟩:=eX L.length;rw[<-A]at D h E;have J:=Hd (Zhy n w E);have M:=Hd A;have H:=Hd h;have K:=Hd D;have P:decide ((n:Int)<0)=false:=(by simp);clear A h;go_in;go_wp2_with fail
 go_loopg [11,3] 1 (fun q iv C wr=>∃i:Nat,i+q=1/\iv=rD .i64 (i:Nat)/\C=rD .i64 ((i*n:Nat):Int)/\wr=w)
 case atStart=>exact⟨0,rfl,rfl,by simp,rfl⟩
 case round=>
  obtain⟨i,o,rfl,rfl,rfl⟩:=hrel
  by_cases h1:i=0
  ·subst h1;have y:gk=1:=(by omega);have B:(((0*n:Nat):Int))=0:=(by simp);rw[B];subst y;go_wp2_with fail;go_roundg 0;case measure=>omega
   case rel=>exact⟨1,rfl,rfl,by simp,rfl⟩
  ·obtain rfl:i=1:=(by omega);have B:(((1*n:Nat):Int))=n:=(by simp);rw[B];clear h1 o;go_wp2_with fail;refine(J.out).mono ?_;rintro e S ⟨Q,rfl,b,l⟩;have t:=Hd b;have r:=Hd l;obtain⟨X,Y,Z,rfl⟩:=Cw b;clear b l;go_wp2_with fail;obtain⟨k,rfl⟩:∃k:World,k=wr:=⟨_,rfl⟩
   go_loopg [27,6] 1 (fun q iv C wr=>∃i:Nat,i+q=1/\iv=rD .i64 (i:Nat)/\Own wr k.heap.size 5 C (if i=0 then []else bvs L)/\Below k.heap.size k wr)
   case atStart=>exact⟨0,rfl,rfl,t.out,r.out⟩
   case round=>
    obtain⟨i,o,rfl,b,l⟩:=hrel;have j:=Hd b;have d:=Hd l;obtain⟨F,G,I,rfl⟩:=Cw b;clear b l
    by_cases h1:i=0
    ·subst h1;obtain rfl:gk=1:=(by omega);clear o;have f:Hid (Own wr k.heap.size 5 (rC F G I) []):=j;have x:wr.cell? ⟨g,0,rI⟩=some (rC N n O):=(d.out.cell (p:=⟨g,0,rI⟩) z).trans K.out;clear j;go_wp2_with (at_builtin;refine Ak rfl (.tmp 31) (.tmp 32) 28 rfl k.heap.size 5 _ 1 Cp _ [] rfl f.out _ (bvs L) rfl (H.out.below d.out lR) (Cf _) ?c2 ?c3 ?_);case c2=>rw[bvs_len,<-M.out];simp;omega
     case c3=>exact d.out.size
     rintro R T b-m;have u:=Hd b;have s:=Hd (d.out.trans m);obtain⟨U,V,W,rfl⟩:=Cw b;clear b m;go_wp2_with fail;go_roundg 0;case measure=>omega
     case rel=>exact⟨1,rfl,rfl,u.out,s.out⟩
    ·obtain rfl:i=1:=(by omega);have f:Hid (Own wr k.heap.size 5 (rC F G I) (bvs L)):=j;clear h1 o j;go_wp2_with fail;go_ret;exact⟨_,rfl,f.out,d.out⟩
theorem Kk (g:Nat)(v:Value)(L:List Nat)(w:World)(E:w.cell? ⟨g,0,rI⟩=some v)(s:g<w.heap.size)(h:Rd w v (bvs L))(C:∀x∈L,x<256)(F:L.length<=1000000):
  Calls prog 151 #[rC (some ⟨g,0,rI⟩) 1 1] w fun e w'=>∃b,e=rK (rC (some ⟨b,0,rI⟩) 32 32)/\w.heap.size<=b/\b<w'.heap.size/\Rd w' (rC (some ⟨b,0,rI⟩) 32 32) (bvs (shaF L))/\Below w.heap.size w w':=by
 have Q:∀w,(zeroValue 224).run prog w=.ok (.agg Z32a) w:=fun _=>(by kernel_rfl);have q:=Hd (Za8 g v L w E s h (by omega));have f:=Hd (fun(x:Value) (n:World) (N:Rd n x (bvs L))=>Zhq x L n N C F);have l:=If L;obtain⟨i,a⟩:=eX ((bvs (shaF L)).toArray);rw[<-a]at f;have m:i.size=32:=(by rw[a,fH,bvs_len,l]);have SI:=Hd (show(prog.info? 224).map (·.size)=some i.size by rw[m];kernel_rfl);have K:=Hd (show i.all (·.oneCell')=true by rw[a];simp[bvs,Value.oneCell']);have M:=Hd (show Z32a.size=i.size by rw[m];kernel_rfl);have r:=Hd a;have A:=Hd m;clear l a m h C F E;go_in;go_wp2_with fail;refine(q.out).mono ?_;rintro e n ⟨R,rfl,c,D⟩;have I:=Hd c.rd;have z:=Hd D;obtain⟨T,U,V,rfl⟩:=Cw c;clear c D;go_wp2_with fail;refine(f.out _ n I.out).mono ?_;rintro e o ⟨rfl,k⟩;have d:=Hd (z.out.trans (k.mono z.out.size));have J:=Hd (Blk.new o 224 Z32a);clear k;go_wp2_with (refine Aa rfl 224 (.tmp 3) (.tmp 6) rfl o.heap.size i rfl rfl 224 Z32a J.out SI.out M.out (by have:=K.out;rw[<-Array.all_toList]at this;exact this) ?_);intro S G H P y;have B:=Hd G;have p:=Hd ((d.out.alloc d.out.size (.cells Z32a 224)).trans ((H o.heap.size lR).mono d.out.size));have t:Hid (w.heap.size<=o.heap.size):=Hd d.out.size;clear G H P y;go_wp2_with fail;go_ret;refine⟨_,rfl,t.out,B.out.lt,?_,p.out⟩;refine⟨_,32,by rw[bvs_len,If],by rw[bvs_len,If];omega,by unfold maxLen;omega,.inr ⟨_,0,rfl,fun j u O=> ?_⟩⟩;rw[aD,B.out.cell j,r.out,List.getElem?_toArray];exact O
open WalkM
mutual
def Ph (t:Nat->NodeD):Nat->Nat->List Nat
 |0,x=>([1]++beN 4 (x/2))++By (t x)
 |k+1,x=>([2]++By (t x))++(Be (Ha t k (x-2^k))++Be (Ha t k (x+2^k)))
def Ha (t:Nat->NodeD):Nat->Nat->List Nat
 |0,x=>shaF (([1]++beN 4 (x/2))++By (t x))
 |k+1,x=>shaF (([2]++By (t x))++(Be (Ha t k (x-2^k))++Be (Ha t k (x+2^k))))
end
theorem Mt (t:Nat->NodeD)(k x:Nat):Ha t k x=shaF (Ph t k x):=by cases k<;>simp only[Ha,Ph]
theorem Lf (t:Nat->NodeD)(x:Nat):Ph t 0 x=([1]++beN 4 (x/2))++By (t x):=by simp only[Ph]
theorem Lg (t:Nat->NodeD)(k x:Nat):Ph t (k+1) x=([2]++By (t x))++(Be (Ha t k (x-2^k))++Be (Ha t k (x+2^k))):=by simp only[Ph]
theorem Et (t:Nat->NodeD)(k x:Nat):(Ha t k x).length=32:=by rw[Mt];exact If _
theorem Zdu (b:List Nat):∀x∈shaF b,x<256:=by
 intro x hx;unfold shaF at hx;rw[List.mem_flatten]at hx;obtain⟨l,hl,hx⟩:=hx;obtain⟨y,_,rfl⟩:=List.mem_map.1 hl;exact beN_lt _ _ x hx
theorem Yr (t:Nat->NodeD)(k x:Nat):∀y∈Ha t k x,y<256:=by rw[Mt];exact Zdu _
theorem Zjg {L:List Nat}(h:L.length=32):(Be L).length<=36:=by have:=Bh L (by omega);omega
theorem Ud {t:Nat->NodeD}(hs:∀x,Cj (t x)=true)(k x:Nat):(Ph t k x).length<=8000:=by
 have h:=Hj (hs x);cases k with
 |zero=>
  rw[Lf];simp only[bA,dB,cO,beN_len];omega
 |succ k=>
  have h1:=Zjg (Et t k (x-2^k));have h2:=Zjg (Et t k (x+2^k));rw[Lg];simp only[bA,dB,cO];omega
end Go.Proofs.YtfofaiommeckbaaGreat
namespace Go.Proofs.YtfofaiommeckbaaGreat
open Go.RowKit WireM
def Sx:NodeD:=⟨1,⟨eL 32 0,eL 32 0,[1],1,[],eL 64 0⟩,noParD⟩
theorem Qd {n:Nat} {N:Int}(d:N=(n:Int))(g:n<=4000000):∀w:World,(Instr.makeSlice 28 (rD .i64 N) (rD .i64 N)).run prog w=.ok (rC (some ⟨w.heap.size,0,rI⟩) n n) (w.alloc (.cells (madeCells (Value.int .u8 0).cells (n*1)) 5)):=by
 intro w;subst d;obtain⟨i,e,f,b,a⟩:∃i,prog.info? 5=some i/\i.zero=some (rD rG 0)/\i.size=1/\i.bytes=1:=info_parts (by kernel_rfl);have c:=run_make (P:=prog) w 28 5 i (rD rG 0) underlying28 e f .i64 .i64 n n (by omega) (by omega) (by rw[a];omega) (by omega);simp only[Int.toNat_natCast,b]at c;exact c
theorem Rz (w:World)(n:Nat)(a:n<=4000000:=by omega):Own (w.alloc (.cells (madeCells (Value.int .u8 0).cells (n*1)) 5)) w.heap.size 5 (rC (some ⟨w.heap.size,0,rI⟩) n n) (bvs (eL n 0)):=by
 have e:bvs (eL n 0)=(madeCells (Value.int .u8 0).cells (n*1)).toList:=by
  rw[fN];have:=toList_madeCells_one (rD rG 0) n;rw[show(Value.int .u8 0).cells=#[rD rG 0]from rfl,this];simp[bvs]
 rw[e];exact Own.full (B:=w.heap.size) rfl lR (by unfold maxLen;simp[madeCells];omega) (by simp[madeCells])
theorem Zhz {w:World} {B:Nat} {x1 x2 x3 x4:Value}(e:Own w B 5 x1 (bvs (eL 32 0)))(f:Own w B 5 x2 (bvs (eL 32 0)))(g:Own w B 5 x3 (bvs [1]))(h:Own w B 5 x4 (bvs (eL 64 0))):
  TreeR (w.alloc (rJ #[rD rG 1,x1,x2,x3,rD rG 1,rC rI 0 0,x4,rC rI 0 0,rC rI 0 0,rC rI 0 0] 52)) (rC (some ⟨w.heap.size,0,rI⟩) 1 1) [Sx]:=by
 have a:NodeO (w.alloc (rJ #[rD rG 1,x1,x2,x3,rD rG 1,rC rI 0 0,x4,rC rI 0 0,rC rI 0 0,rC rI 0 0] 52)) B Sx #[rD rG 1,x1,x2,x3,rD rG 1,rC rI 0 0,x4,rC rI 0 0,rC rI 0 0,rC rI 0 0]:=
  ⟨_,_,_,_,_,_,_,_,rfl,e.alloc _,f.alloc _,g.alloc _,Own.nil _ _ _,h.alloc _,Own.nil _ _ _,Own.nil _ _ _,Own.nil _ _ _⟩
 refine⟨_,1,rfl,lR,by unfold maxLen;omega,fun i b=>⟨w.heap.size,0,#[rD rG 1,x1,x2,x3,rD rG 1,rC rI 0 0,x4,rC rI 0 0,rC rI 0 0,rC rI 0 0],rfl,by simp,?_,?_⟩⟩
 ·have:i=0:=(by simpa using b);subst this;exact a.c
 ·have:i=0:=(by simpa using b);subst this;intro j u d;have:=(Blk.new w 52 #[rD rG 1,x1,x2,x3,rD rG 1,rC rI 0 0,x4,rC rI 0 0,rC rI 0 0,rC rI 0 0]).cell j;rw[show 0+0*10+j=j by omega,this];simpa using d
end Go.Proofs.YtfofaiommeckbaaGreat
namespace Go.Proofs.YtfofaiommeckbaaGreat
open Go.RowKit
open WalkM WireM
theorem NodeC.leaf {w:World} {d:NodeD} {c:Array Value}(h:NodeC w d c):∃c6:Array Value,LeafC w d.leaf c6/\c6.size=6/\∀j u,c6.toList[j]? =some u->c.toList[j+1]? =some u:=by
 obtain⟨b,c1,e,c2,f,c3,g,c4,i,c5,b1,e1,m,e2,n,e3,rfl,h1,h2,h3,k,l,o,p,q⟩:=h;refine⟨_,⟨b,c1,e,c2,f,c3,g,c4,i,c5,rfl,h1,h2,h3,k,l⟩,rfl,?_⟩;intro j u a
 match j,a with
 |0,a=>exact a
 |1,a=>exact a
 |2,a=>exact a
 |3,a=>exact a
 |4,a=>exact a
 |5,a=>exact a
 |j+6,a=>simp at a
