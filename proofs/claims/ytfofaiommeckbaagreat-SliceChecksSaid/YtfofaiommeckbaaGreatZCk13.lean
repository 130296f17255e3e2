import Derived.Test.YtfofaiommeckbaaGreatZCk12
import Derived.Lib.AppendZerosOnto
import Derived.ArgAppend
open Go.Obj renaming cells -> rJ
open Go.Ending renaming returned -> rK
open Go.Value renaming slice -> rC, int -> rD, pointer -> rE
open Go.IntKind renaming i64 -> rF, u8 -> rG
open Option renaming none -> rI
open Go.Proofs.Tryz
open Array renaming length_toList -> fH, getElem?_setIfInBounds -> aL
open Nat renaming mul_one -> fI, mul_le_mul_left -> aC, zero_add -> aD, pow_succ -> bF, pos_of_ne_zero -> bH, lt_of_lt_of_le -> cH, le_of_lt -> eW
open List renaming length_append -> bA, size_toArray -> fG, take_left -> fJ, length_nil -> cO, replicate -> eK, mem_flatten -> fK, length_cons -> dB, mem_map -> eA, mem_cons -> aZ, mem_append -> fL, not_mem_nil -> dC
set_option linter.unusedVariables false
set_option maxRecDepth 100000
set_option maxHeartbeats 40000000
namespace Go.Proofs.YtfofaiommeckbaaGreat
open Go.RowKit WalkM WireM
theorem Za8 (x0 x1 x2 x3 x4 x5 x6 x7 x8 x9:Value)(w:World):(Instr.field 52 (.agg #[x0,x1,x2,x3,x4,x5,x6,x7,x8,x9]) 1).run prog w=.ok (.agg #[x1,x2,x3,x4,x5,x6]) w:=by kernel_rfl
theorem Zkn {w' h W:World} {d:LeafD} {x0 x1 x2 x3 x4:Value} {g:Nat} (h0:Own h w'.heap.size 5 x0 (bvs d.box)) (h1:Own h w'.heap.size 5 x1 (bvs d.sign)) (h2:Own h w'.heap.size 5 x2 (bvs d.ident)) (h3:Own h w'.heap.size 5 x3 (bvs d.par)) (C:Own h w'.heap.size 5 x4 (bvs d.sig))
  (F:g<w'.heap.size) (i:∀j,j≠g->W.heap[j]? =h.heap[j]?):Zaq W d #[x0,x1,x2,rD rG (d.source:Nat),x3,x4]:=by
 have f:∀ {v:Value} {xs:List Value},Own h w'.heap.size 5 v xs->Own W w'.heap.size 5 v xs:=by
  intro v xs m;obtain⟨t,E|⟨n,B,k,rfl,l,D,rest⟩⟩:=m
  ·exact⟨t,.inl E⟩
  ·exact⟨t,.inr ⟨n,B,k,rfl,l,by rw[i n (by omega)];exact D,rest⟩⟩
 have e:∀ {v:Value} {b:List Nat},Own W w'.heap.size 5 v (bvs b)->∃a c,v=.slice a b.length c:=by
  intro v b m;obtain⟨a,c,e,_⟩:=m.rd;rw[bvs_len]at e;exact⟨a,c,e⟩
 have o:=f h0;have p:=f h1;have q:=f h2;have r:=f h3;have s:=f C;obtain⟨u,A,rfl⟩:=e o;obtain⟨w,c1,rfl⟩:=e p;obtain⟨x,c2,rfl⟩:=e q;obtain⟨y,c3,rfl⟩:=e r;obtain⟨z,c4,rfl⟩:=e s;exact⟨u,A,w,c1,x,c2,y,c3,z,c4,rfl,o.rd,p.rd,q.rd,r.rd,s.rd⟩
theorem Za9 (v:Value)(t:List NodeD)(g:Nat)(i:Int)(w:World)(h:TreeR w v t)(k:TreeOk t)(j:t.length=2*g+1)(s:Be t.length=g+1)(u:g<=1000)(D: -9223372036854775808<=i/\i<=9223372036854775807):
  Calls prog 190 #[v,rD rF i] w fun e w'=>e=rK (.bool (decide (i∈Pj t (g+1))))/\w'=w:=by
 obtain⟨H,c,rfl,p,C⟩:=h.sl;have d:=fun(W:World)=>Jg H t.length c W (by omega);rw[s]at d
 by_cases h0:i<0
 ·rw[dF (Zkh t (g+1) h0)];have A:decide (i>=0)=false:=dF (by omega);obtain⟨n,l⟩:=eX t.length;rw[<-l];clear d h k j s u p l;go_in;go_wp2_with fail;go_ret;exact⟨rfl,rfl⟩
 ·obtain⟨m,rfl⟩:∃m:Nat,i=(m:Int):=⟨i.toNat,by omega⟩
  by_cases hm:m<g+1
  ·obtain⟨b,G,J,e1,rfl,B,z,-,-⟩:=h.at (i:=2*m) (by omega);have r:=(k.nd (2*m)).kind;have a:=mem_iff t (g+1) m;obtain⟨y,q⟩:=eX ((nd t (2*m)).kind);rw[<-q]at z r a;have e:decide (((m:Nat):Int)∈Pj t (g+1))=((y:Int)==1):=by
    by_cases hk:y=1
    ·rw[dT (a.2 ⟨hm,hk⟩),hk];rfl
    ·rw[dF (fun p=>hk (a.1 p).2),Eq.comm,qN];omega
   rw[e];obtain⟨N,f⟩:=eX (g+1);rw[<-f]at d hm;have x:2*m<t.length:=(by omega);obtain⟨n,l⟩:=eX t.length;rw[<-l]at d p x|-;have o:=Hd d;have h1:decide (m<N)=true:=dT hm;have h2:decide ((m:Int)<(N:Int))=true:=dT (by omega);have I:wrap64 (2*(m:Int))=2*(m:Int):=(by clear d a e;unfold wrap64;omega);have E:(2*(m:Int)).toNat=2*m:=(by omega);have F:2*(m:Int)<(n:Int):=(by omega);clear d h k j s u a e f l q h0;go_in;go_wp2_with fail;refine(o.out w).mono ?_;rintro e w' ⟨rfl,rfl⟩;go_wp2_with fail;go_ret;exact⟨rfl,rfl⟩
  ·rw[dF (fun p=>hm ((mem_iff t (g+1) m).1 p).1)];obtain⟨N,f⟩:=eX (g+1);rw[<-f]at d hm;obtain⟨n,l⟩:=eX t.length;rw[<-l]at d p|-;have o:=Hd d;have h1:decide (m<N)=false:=dF hm;have h2:decide ((m:Int)<(N:Int))=false:=dF (by omega);clear d h k j s u f l h0;go_in;go_wp2_with fail;refine(o.out w).mono ?_;rintro e w' ⟨rfl,rfl⟩;go_wp2_with fail;go_ret;exact⟨rfl,rfl⟩
theorem Ry (v:Value)(t:List NodeD)(F m:Nat)(w:World)(h:TreeR w v t)(K:Zcv t=true)(u:TreeOk t)(hr:Fy t=true)(i:t.length=2*F+1)(hN:Be t.length=F+1)(hi:((m:Nat):Int)∈Pj t (F+1)):
  Calls prog 132 #[v,rD rF (m:Nat)] w fun e w'=>∃c6:Array Value,e=rK (.tuple #[.agg c6,.bool true])/\Zaq w' (nd t (2*m)).leaf c6/\Below w.heap.size w w':=by
 have aB:=((mem_iff t (F+1) m).1 hi).1;have c:=Rq K;have J:=fun(W:World) (A:Below w.heap.size w W)=>Qb v t W (h.below A lR) K u;rw[hr]at J;have T:=Hd J;have I:=fun(W:World) (A:Below w.heap.size w W)=>Za9 v t F (m:Int) W (h.below A lR) u i hN (by omega) (by omega);rw[dT hi]at I;have Q:=Hd I;have H:2*m<t.length:=(by omega);obtain⟨ta,n0,rfl,hc,aE⟩:=h.sl;obtain⟨b,aD,cs,rfl,aA,r,x⟩:=h.node H;have L:=fun(W:World) (A:Below w.heap.size w W)=>Lw (nd t (2*m)) cs W (r.below A lR) (Zcw K (2*m));have p:=Hd L;have d:=Hd x;have S:=Hd r.size;obtain⟨D,hD⟩:=eX (nd t (2*m));rw[<-hD]at p|-;obtain⟨n,hn⟩:=eX t.length;rw[<-hn]at T Q hc H|-;have A:wrap64 (2*(m:Int))=2*(m:Int):=(by clear T Q p d x J I L;unfold wrap64;omega);have aG:(2*(m:Int)).toNat=2*m:=(by omega);have aH:2*(m:Int)<(n:Int):=(by omega);clear J I L h K u hr i hN hi r x hn hD aB c;have E:=(Below.refl w.heap.size w).alloc lR (rJ #[rC rI 0 0,rC rI 0 0,rC rI 0 0,rD rG 0,rC rI 0 0,rC rI 0 0] 44);have l:=Hd E;clear E;go_in;go_wp2_with fail;refine(T.out _ l.out).mono ?_;rintro e w1 ⟨rfl,hb⟩;have B:=Hd (l.out.trans (hb.mono l.out.size));have o:=Hd ((Blk.new w 44 #[rC rI 0 0,rC rI 0 0,rC rI 0 0,rD rG 0,rC rI 0 0,rC rI 0 0]).below hb (by simp));clear hb;go_wp2_with fail;refine(Q.out _ B.out).mono ?_;rintro e w' ⟨rfl,rfl⟩;have R:=Hd (Aj d.out B.out aA);go_wp2_with (refine wpList_load_mid rfl 52 (.tmp 19) rfl b (aD+2*m*10) rfl cs.toList _ R.out underlying52 rfl (by rw[fH,S.out];exact Bc) ?_);refine(p.out w' B.out).mono ?_;rintro e w2 ⟨c',rfl,aC,q⟩;have M:=Hd (B.out.trans (q.mono B.out.size));have C:=Hd (o.out.below q o.out.lt);have k:=o.out.lt;obtain⟨x0,x1,x2,x3,x4,u0,u1,u2,rfl,h0,h1,h2,h3,h4,h5,h6,h7⟩:=aC;have U:=fun(W:World) (a:∀j,j≠w.heap.size->W.heap[j]? =w2.heap[j]?)=>Zkn h0 h1 h2 h3 h4 (show w.heap.size<w'.heap.size from k) a;obtain⟨V,n1,k0,rfl⟩:=Df h0;obtain⟨X,n2,k1,rfl⟩:=Df h1;obtain⟨Y,n3,k2,rfl⟩:=Df h2;obtain⟨Z,n4,k3,rfl⟩:=Df h3;obtain⟨a4,n5,k4,rfl⟩:=Df h4;obtain⟨a5,n6,k5,rfl⟩:=Df h5;obtain⟨a6,n7,k6,rfl⟩:=Df h6;obtain⟨a7,n8,k7,rfl⟩:=Df h7;obtain⟨s,z⟩:=eX D.leaf.source;obtain⟨kd,G⟩:=eX D.kind;rw[<-z,<-G];rw[<-z]at U;have P:=Hd U;clear U z G h0 h1 h2 h3 h4 h5 h6 h7 q k;have aF:=Za8 (rD rG (kd:Nat)) (rC V n1 k0) (rC X n2 k1) (rC Y n3 k2) (rD rG (s:Nat)) (rC Z n4 k3) (rC a4 n5 k4) (rC a5 n6 k5) (rC a6 n7 k6) (rC a7 n8 k7) w2;go_wp2_with (refine Aa rfl 44 (.tmp 4) (.tmp 22) rfl w.heap.size #[rC V n1 k0,rC X n2 k1,rC Y n3 k2,rD rG (s:Nat),rC Z n4 k3,rC a4 n5 k4] rfl rfl 44 #[rC rI 0 0,rC rI 0 0,rC rI 0 0,rD rG 0,rC rI 0 0,rC rI 0 0] C.out (by kernel_rfl) rfl rfl ?_);rintro w3 g f a y;have HK:=Hd g;have N:=Hd (M.out.trans (f w.heap.size lR));have O:=Hd (P.out w3 a);clear g f a y;go_wp2_with fail;exact bodyPost_ret (v:=.tuple #[.agg #[rC V n1 k0,rC X n2 k1,rC Y n3 k2,rD rG (s:Nat),rC Z n4 k3,rC a4 n5 k4],.bool true]) (Ac results132 _ _ w.heap.size _ _ _ rfl HK.out underlying44 rfl (by kernel_rfl)) rfl ⟨_,rfl,O.out,N.out⟩
theorem Zdn (v:Value)(t:List NodeD)(b m:Nat)(w:World)(h:TreeR w v t)(i:El t=true)(c:TreeOk t)(g:Fy t=true)(a:t.length=2*b+1)(d:Be t.length=b+1)(f:((m:Nat):Int)∈Pj t (b+1)):
  Calls prog 132 #[v,rD rF (m:Nat)] w fun e w'=>∃c6:Array Value,e=rK (.tuple #[.agg c6,.bool true])/\Zaq w' (nd t (2*m)).leaf c6/\Below w.heap.size w w':=
 Ry v t b m w h (Pv i) c g a d f
end Go.Proofs.YtfofaiommeckbaaGreat
namespace Go.Proofs.YtfofaiommeckbaaGreat
open Go.RowKit
theorem Rz {P:Program} {w:World} (t H ty e:TypeId) (z:Value) (d:Nat) (F:Elem P t e z d) (R:IntKind) (s:P.underlying H=some (.int R)) {B:Nat} (v:Value) (xs:List Value) (n:Own w B e v xs)
  (k:Nat) (hk:0<k) (Q:z.cells.size=1) (h1:∀u∈(Builtin.zeroCells z.cells k).toList,u.oneCell'=true) (hn:xs.length+k<1099511627776) (U:B<=w.heap.size):
  ∃v' w',(Builtin.append_ #[t,H] ty #[v,rD rF (k:Nat)]).run P w=.ok v' w'/\Own w' B e v' (xs++(Builtin.zeroCells z.cells k).toList)/\w.grownBy w' v.ownBlock:=by
 obtain⟨i,K,O,G,m⟩:=info_parts F.inf;have low:=F.low;have ht:=F.ty;have b:∀k,(Builtin.zeroCells z.cells k).size=k:=fun k=>(by rw[size_zeroCells,Q,fI]);have y:(Builtin.zeroCells z.cells k).toList.length=k:=(fH (xs:=Builtin.zeroCells z.cells k)).trans (b k);have T:(xs.length+k)*d<=(xs.length+k)*64:=aC _ low;have L:k*d<=k*64:=aC _ low;have a:(xs++(Builtin.zeroCells z.cells k).toList).length=xs.length+k:=(by rw[bA,y]);have grown:∀(c:Nat),c<xs.length+k->∀(row:Option Nat),
   Own (w.drew.alloc (.cells (xs.toArray++Builtin.zeroCells z.cells k++Builtin.zeroCells z.cells (grownCap w (xs.length+k) c e-(xs.length+k))) e)) B e
    (rC (some ⟨w.heap.size,0,rI⟩) (xs.length+k) (grownCap w (xs.length+k) c e)) (xs++(Builtin.zeroCells z.cells k).toList)/\
   w.grownBy (w.drew.alloc (.cells (xs.toArray++Builtin.zeroCells z.cells k++Builtin.zeroCells z.cells (grownCap w (xs.length+k) c e-(xs.length+k))) e)) row:=by
  intro c ho row;have J:=grownCap_ge w (xs.length+k) c e;have p:grownCap w (xs.length+k) c e<=maxLen:=grownCap_le_maxLen w (xs.length+k) c e (by unfold maxLen;omega);refine⟨⟨by simp,.inr ⟨w.heap.size,_,_,by rw[a],U,heap_alloc_new w.drew _,by rw[a];exact J,p,?_,?_⟩⟩,⟨rfl,rfl,rfl,by simp,fun j X _=>heap_alloc_old w.drew _ X⟩⟩
  ·simp only[Array.size_append,fG,b];omega
  ·rw[a,fI];simp only[Array.toList_append];rw[<-a];exact fJ
 have r:=n;obtain⟨hl,V⟩:=r;rcases V with⟨rfl,h0⟩|⟨g,o,l,rfl,I,S,Y,p,W,h⟩
 ·have hx:xs=[]:=List.eq_nil_of_length_eq_zero (by omega);subst hx;have N:=Lib.run_append_nil_zeros (P:=P) w t H ty e i z .i64 R ht s K O k hk (by omega) (by omega) (by rw[m];omega);have f:=grown 0 (by omega) (Value.ownBlock (rC rI 0 0));simp only[cO,aD,List.nil_append]at f|-;exact⟨_,_,N,by simpa using f.1,by simpa using f.2⟩
 ·by_cases hroom:xs.length+k<=o
  ·have D:=run_storeCells_at P g xs.length e (Builtin.zeroCells z.cells k).toList 0 l w S (by rw[y];omega) h1;simp only[Nat.add_zero]at D;have Z:IntKind.i64.wrap (k:Int)=k:=(by rw[IntKind.wrap_i64];omega);have A:¬((k:Int)<0):=(by omega);have x:¬(281474976710656<(k:Int)*(i.bytes:Int)):=by
    rw[<-Int.natCast_mul,m];omega
   have M:¬(k=0):=(by omega);refine⟨rC (some ⟨g,0,rI⟩) (xs.length+k) o,w.setRow g (l.toList.take xs.length++(Builtin.zeroCells z.cells k).toList++l.toList.drop (xs.length+(Builtin.zeroCells z.cells k).toList.length)).toArray,?_,?_,?_⟩
   ·have E:(storeCells ⟨g,xs.length,rI⟩ (Builtin.zeroCells z.cells k).toList).run P w=_:=D;simp[Builtin.append_,run_underlying ht,run_underlying s,sizeOf,typeInfo,zeroValue,K,O,G,asInt,asIntOf,Z,hroom,A,x,M,Addr.add_lit,E]
   ·refine⟨by simp,.inr ⟨g,o,_,by rw[a],I,setRow_heap w g l _ e _ S,by rw[a];exact hroom,p,?_,?_⟩⟩
    ·simp only[fG,bA,List.length_take,List.length_drop,fH,b];omega
    ·rw[a,fI];rw[fI]at h;rw[h,<-a];exact fJ
   ·exact⟨rfl,rfl,rfl,by simp,fun k _ hk=>setRow_other w g k _ (fun e=>hk (by simp[Value.ownBlock,e]))⟩
  ·have q:∀j u,xs[j]? =some u->w.cell? ((⟨g,0,rI⟩:Addr).add j)=some u:=World.ownsRow.cells (g:=g) n rfl;have C:=run_firstCells_some (P:=P) w.drew i.size xs.length ⟨g,0,rI⟩ xs.length o xs (by rw[G];omega) (by simpa using q);have N:=Lib.run_append_grow_zeros (P:=P) w t H ty e i z .i64 R ht s K O (some ⟨g,0,rI⟩) xs.length o xs C k hk (by omega) (by omega) (by omega) (by rw[m];omega) (growslice_fits (by omega) (by rw[m];omega));have f:=grown o (by omega) (Value.ownBlock (rC (some ⟨g,0,rI⟩) xs.length o));exact⟨_,_,N,f.1,f.2⟩
open ShaM WireM
theorem Ij (L:List Nat):(shaF L).length=32:=by
 unfold shaF;rw[<-Rx (blocksN_ok _ HL0_len HL0_lt _).1,Ii]
theorem zcN (n:Nat):(Builtin.zeroCells (Value.int .u8 0).cells n).toList=bvs (eK n 0):=by
 refine List.ext_getElem (by simp[Builtin.zeroCells,Value.cells]) fun i h1 h2=> ?_;simp[Builtin.zeroCells,Value.cells,Nat.mod_one,bvs]
theorem Own.take0 {w:World} {B:Nat} {e:TypeId} {a:Option Addr} {n c:Nat} {xs:List Value}(h:Own w B e (rC a n c) xs):Own w B e (rC a 0 c) []:=by
 obtain⟨h1,h2⟩:=h;refine⟨by simp,?_⟩;rcases h2 with⟨h2,h3⟩|⟨g,l,b,d,f,i,m,j,k,ht⟩
 ·simp only[Value.slice.injEq]at h2;obtain⟨rfl,rfl,rfl⟩:=h2;exact .inl ⟨rfl,rfl⟩
 ·simp only[Value.slice.injEq]at d;obtain⟨rfl,rfl,rfl⟩:=d;exact .inr ⟨g,c,b,rfl,f,i,by simp,j,k,by simp⟩
theorem Zhu (n:Nat)(w:World)(l:n<1000000000):
  Calls prog 234 #[rC rI 0 0,rD rF (n:Nat)] w fun e w'=>∃v',e=rK v'/\Own w' w.heap.size 5 v' []/\Below w.heap.size w w':=by
 have h0:decide ((n:Int)<0)=false:=(by simp);rcases Nat.eq_zero_or_pos n with rfl|i
 ·go_in;go_wp2_with fail;go_ret;exact⟨_,rfl,Own.nil _ _ _,bR⟩
 ·have h1:decide ((n:Int)>0)=true:=(by simp;omega);obtain⟨m,j,b,a,f⟩:=Rz (P:=prog) (w:=w) 28 3 28 5 (rD rG 0) 1 Cq .i64 rfl (rC rI 0 0) [] (Own.nil w w.heap.size _) n i rfl (by rw[zcN];exact Ch _) (by simp;omega) lR;rw[zcN]at a;have d:Below w.heap.size w j:=(Below.refl w.heap.size w).grown f lR (fun k hk=>by simp[Value.ownBlock]at hk);obtain⟨o,p,q,rfl⟩:=Cx a;have h:=Hd a.take0;have g:=Hd d;have c:=Hd b;clear a f d b;go_in;go_wp2_with (at_builtin;refine Lib.wpList_append_run _ rfl _ _ _ _ rfl _ _ rfl rfl _ _ c.out ?_);go_ret;exact⟨_,rfl,h.out,g.out⟩
theorem Zba (g:Nat)(v:Value)(L:List Nat)(w:World)(D:w.cell? ⟨g,0,rI⟩=some v)(z:g<w.heap.size)(h:Rd w v (bvs L))(E:L.length<1000000000):
  Calls prog 199 #[rC (some ⟨g,0,rI⟩) 1 1] w fun e w'=>∃v',e=rK v'/\Own w' w.heap.size 5 v' (bvs L)/\Below w.heap.size w w':=by
 obtain⟨N,O,rfl⟩:∃a c,v=.slice a L.length c:=(by obtain⟨a,c,e,_⟩:=h;exact⟨a,c,by rw[e,bvs_len]⟩);obtain⟨n,A⟩:=eX L.length;rw[<-A]at D h E;have J:=Hd (Zhu n w E);have M:=Hd A;have H:=Hd h;have K:=Hd D;have P:decide ((n:Int)<0)=false:=(by simp);clear A h;go_in;go_wp2_with fail
 go_loopg [11,3] 1 (fun q iv C wr=>∃i:Nat,i+q=1/\iv=rD rF (i:Nat)/\C=rD rF ((i*n:Nat):Int)/\wr=w)
 case atStart=>exact⟨0,rfl,rfl,by simp,rfl⟩
 case round=>
  obtain⟨i,o,rfl,rfl,rfl⟩:=hrel
  by_cases h1:i=0
  ·subst h1;have y:gk=1:=(by omega);have B:(((0*n:Nat):Int))=0:=(by simp);rw[B];subst y;go_wp2_with fail;go_roundg 0;case measure=>omega
   case rel=>exact⟨1,rfl,rfl,by simp,rfl⟩
  ·obtain rfl:i=1:=(by omega);have B:(((1*n:Nat):Int))=n:=(by simp);rw[B];clear h1 o;go_wp2_with fail;refine(J.out).mono ?_;rintro e S ⟨Q,rfl,b,l⟩;have t:=Hd b;have r:=Hd l;obtain⟨X,Y,Z,rfl⟩:=Cx b;clear b l;go_wp2_with fail;obtain⟨k,rfl⟩:∃k:World,k=wr:=⟨_,rfl⟩
   go_loopg [27,6] 1 (fun q iv C wr=>∃i:Nat,i+q=1/\iv=rD rF (i:Nat)/\Own wr k.heap.size 5 C (if i=0 then []else bvs L)/\Below k.heap.size k wr)
   case atStart=>exact⟨0,rfl,rfl,t.out,r.out⟩
   case round=>
    obtain⟨i,o,rfl,b,l⟩:=hrel;have j:=Hd b;have d:=Hd l;obtain⟨F,G,I,rfl⟩:=Cx b;clear b l
    by_cases h1:i=0
    ·subst h1;obtain rfl:gk=1:=(by omega);clear o;have f:Hid (Own wr k.heap.size 5 (rC F G I) []):=j;have x:wr.cell? ⟨g,0,rI⟩=some (rC N n O):=(d.out.cell (p:=⟨g,0,rI⟩) z).trans K.out;clear j;go_wp2_with (at_builtin;refine Ak rfl (.tmp 31) (.tmp 32) 28 rfl k.heap.size 5 _ 1 Cq _ [] rfl f.out _ (bvs L) rfl (H.out.below d.out lR) (Ch _) ?c2 ?c3 ?_);case c2=>rw[bvs_len,<-M.out];simp;omega
     case c3=>exact d.out.size
     rintro R T b-m;have u:=Hd b;have s:=Hd (d.out.trans m);obtain⟨U,V,W,rfl⟩:=Cx b;clear b m;go_wp2_with fail;go_roundg 0;case measure=>omega
     case rel=>exact⟨1,rfl,rfl,u.out,s.out⟩
    ·obtain rfl:i=1:=(by omega);have f:Hid (Own wr k.heap.size 5 (rC F G I) (bvs L)):=j;clear h1 o j;go_wp2_with fail;go_ret;exact⟨_,rfl,f.out,d.out⟩
theorem Km (g:Nat)(v:Value)(L:List Nat)(w:World)(E:w.cell? ⟨g,0,rI⟩=some v)(s:g<w.heap.size)(h:Rd w v (bvs L))(C:∀x∈L,x<256)(F:L.length<=1000000):
  Calls prog 151 #[rC (some ⟨g,0,rI⟩) 1 1] w fun e w'=>∃b,e=rK (rC (some ⟨b,0,rI⟩) 32 32)/\w.heap.size<=b/\b<w'.heap.size/\Rd w' (rC (some ⟨b,0,rI⟩) 32 32) (bvs (shaF L))/\Below w.heap.size w w':=by
 have Q:∀w,(zeroValue 224).run prog w=.ok (.agg Z32a) w:=fun _=>(by kernel_rfl);have q:=Hd (Zba g v L w E s h (by omega));have f:=Hd (fun(x:Value) (n:World) (N:Rd n x (bvs L))=>Zht x L n N C F);have l:=Ij L;obtain⟨i,a⟩:=eX ((bvs (shaF L)).toArray);rw[<-a]at f;have m:i.size=32:=(by rw[a,fG,bvs_len,l]);have SI:=Hd (show(prog.info? 224).map (·.size)=some i.size by rw[m];kernel_rfl);have K:=Hd (show i.all (·.oneCell')=true by rw[a];simp[bvs,Value.oneCell']);have M:=Hd (show Z32a.size=i.size by rw[m];kernel_rfl);have r:=Hd a;have A:=Hd m;clear l a m h C F E;go_in;go_wp2_with fail;refine(q.out).mono ?_;rintro e n ⟨R,rfl,c,D⟩;have I:=Hd c.rd;have z:=Hd D;obtain⟨T,U,V,rfl⟩:=Cx c;clear c D;go_wp2_with fail;refine(f.out _ n I.out).mono ?_;rintro e o ⟨rfl,k⟩;have d:=Hd (z.out.trans (k.mono z.out.size));have J:=Hd (Blk.new o 224 Z32a);clear k;go_wp2_with (refine Aa rfl 224 (.tmp 3) (.tmp 6) rfl o.heap.size i rfl rfl 224 Z32a J.out SI.out M.out (by have:=K.out;rw[<-Array.all_toList]at this;exact this) ?_);intro S G H P y;have B:=Hd G;have p:=Hd ((d.out.alloc d.out.size (.cells Z32a 224)).trans ((H o.heap.size lR).mono d.out.size));have t:Hid (w.heap.size<=o.heap.size):=Hd d.out.size;clear G H P y;go_wp2_with fail;go_ret;refine⟨_,rfl,t.out,B.out.lt,?_,p.out⟩;refine⟨_,32,by rw[bvs_len,Ij],by rw[bvs_len,Ij];omega,by unfold maxLen;omega,.inr ⟨_,0,rfl,fun j u O=> ?_⟩⟩;rw[aD,B.out.cell j,r.out,List.getElem?_toArray];exact O
open WalkM
mutual
def Pk (t:Nat->NodeD):Nat->Nat->List Nat
 |0,x=>([1]++beN 4 (x/2))++Bz (t x)
 |k+1,x=>([2]++Bz (t x))++(Bf (Hh t k (x-2^k))++Bf (Hh t k (x+2^k)))
def Hh (t:Nat->NodeD):Nat->Nat->List Nat
 |0,x=>shaF (([1]++beN 4 (x/2))++Bz (t x))
 |k+1,x=>shaF (([2]++Bz (t x))++(Bf (Hh t k (x-2^k))++Bf (Hh t k (x+2^k))))
end
theorem My (t:Nat->NodeD)(k x:Nat):Hh t k x=shaF (Pk t k x):=by cases k<;>simp only[Hh,Pk]
theorem Li (t:Nat->NodeD)(x:Nat):Pk t 0 x=([1]++beN 4 (x/2))++Bz (t x):=by simp only[Pk]
theorem Lj (t:Nat->NodeD)(k x:Nat):Pk t (k+1) x=([2]++Bz (t x))++(Bf (Hh t k (x-2^k))++Bf (Hh t k (x+2^k))):=by simp only[Pk]
theorem Ex (t:Nat->NodeD)(k x:Nat):(Hh t k x).length=32:=by rw[My];exact Ij _
theorem Zdo (b:List Nat):∀x∈shaF b,x<256:=by
 intro x hx;unfold shaF at hx;rw[fK]at hx;obtain⟨l,hl,hx⟩:=hx;obtain⟨y,_,rfl⟩:=List.mem_map.1 hl;exact beN_lt _ _ x hx
theorem Yq (t:Nat->NodeD)(k x:Nat):∀y∈Hh t k x,y<256:=by rw[My];exact Zdo _
theorem Zji {L:List Nat}(h:L.length=32):(Bf L).length<=36:=by have:=Bi L (by omega);omega
theorem Uc {t:Nat->NodeD}(hs:∀x,Cj (t x)=true)(k x:Nat):(Pk t k x).length<=8000:=by
 have h:=Hp (hs x);cases k with
 |zero=>
  rw[Li];simp only[bA,dB,cO,beN_len];omega
 |succ k=>
  have h1:=Zji (Ex t k (x-2^k));have h2:=Zji (Ex t k (x+2^k));rw[Lj];simp only[bA,dB,cO];omega
end Go.Proofs.YtfofaiommeckbaaGreat
namespace Go.Proofs.YtfofaiommeckbaaGreat
open Go.RowKit WireM
theorem Zko:∀(l:List (List Nat)),(∀r∈l,r.length<=200)->(∀r∈l,∀x∈r,x<256)->∀x∈Pf l,x<256:=by
 intro l h1 h2 x hx;simp only[Pf,fK,eA]at hx;obtain⟨y,⟨r,hr,rfl⟩,hx⟩:=hx;exact Fn (by have:=h1 r hr;omega) (h2 r hr) x hx
theorem Zhv (L:List Int):∀x∈Cr L,x<256:=by
 intro x hx;simp only[Cr,fK,eA]at hx;obtain⟨y,⟨z,_,rfl⟩,hx⟩:=hx;exact beN_lt _ _ x hx
theorem Yr {d:NodeD}(hk:NodeOk d)(b:Cj d=true):∀x∈Bz d,x<256:=by
 have c:=oD b;have e:=Ka d.par.late;unfold Bz
 split
 ·intro x hx;rw[aZ,fL]at hx;rcases hx with rfl|hx|hx
  ·omega
  ·rw[Lc,fL,fL]at hx;rcases hx with(hx|hx)|hx
   ·refine Zko _ ?_ ?_ x hx
    ·intro r a;simp at a;rcases a with rfl|rfl|rfl<;>omega
    ·intro r a;simp at a;rcases a with rfl|rfl|rfl
     ·exact hk.box
     ·exact hk.sign
     ·exact hk.ident
   ·rw[List.mem_singleton]at hx;have:=hk.source;omega
   ·split at hx
    ·exact Fn (by omega) hk.par x hx
    ·cases hx
  ·exact Fn (by omega) hk.sig x hx
 ·split
  ·intro x hx;rw[aZ,Zje,fL,fL]at hx;rcases hx with rfl|(hx|hx)|hx
   ·omega
   ·exact Fn (by omega) hk.pbox x hx
   ·exact Fn (by omega) hk.hash x hx
   ·exact Fn (by omega) (Zhv _) x hx
  ·intro x hx;simp at hx;omega
open WalkM ShaM
theorem Ud (t:Nat->NodeD)(hk:∀x,NodeOk (t x))(c:∀x,Cj (t x)=true)(k x:Nat):∀y∈Pk t k x,y<256:=by
 have b:=Yr (hk x) (c x);intro y a;cases k with
 |zero=>
  rw[Li]at a;simp only[fL,aZ,dC,or_false]at a;rcases a with(rfl|a)|a
  ·omega
  ·exact beN_lt _ _ y a
  ·exact b y a
 |succ k=>
  rw[Lj]at a;simp only[fL,aZ,dC,or_false]at a;rcases a with(rfl|a)|a|a
  ·omega
  ·exact b y a
  ·exact Fn (by rw[Ex];omega) (Yq _ _ _) y a
  ·exact Fn (by rw[Ex];omega) (Yq _ _ _) y a
def Dq (u:Value)(g:Nat):Prop:=∀a m c,u=.slice (some a) m c->a.block≠g
theorem Zdp {w:World} {B g:Nat} {e:TypeId} {v:Value} {xs:List Value}(h:Own w B e v xs)(hg:g<B):Dq v g:=by
 intro a m c e;rcases h.2 with⟨e2,_⟩|⟨g',cp,cur,e2,hb,_⟩
 ·rw[e2]at e;cases e
 ·rw[e2]at e;simp only[Value.slice.injEq,Option.some.injEq]at e;rw[<-e.1];show g'≠g;omega
def AllR (w:World)(g n:Nat)(F:Nat->Option (List Nat)):Prop:=
 ∃cs:Array Value,Blk w g 28 cs/\cs.size=n/\∀y,y<n->∃u,cs[y]? =some u/\∀L,F y=some L->Rd w u (bvs L)/\Dq u g
theorem AllR.lt {w:World} {g n:Nat} {F:Nat->Option (List Nat)}(h:AllR w g n F):g<w.heap.size:=by
 obtain⟨cs,hb,_⟩:=h;exact hb.lt
theorem AllR.below {w w':World} {g n:Nat} {F:Nat->Option (List Nat)}(h:AllR w g n F)(hb:Below w.heap.size w w'):AllR w' g n F:=by
 obtain⟨cs,h1,h2,h3⟩:=h;refine⟨cs,h1.below hb h1.lt,h2,fun y hy=> ?_⟩;obtain⟨u,k1,k2⟩:=h3 y hy;exact⟨u,k1,fun L hL=>⟨(k2 L hL).1.below hb lR,(k2 L hL).2⟩⟩
theorem AllR.alloc {w:World} {g n:Nat} {F:Nat->Option (List Nat)}(h:AllR w g n F)(o:Obj):AllR (w.alloc o) g n F:=h.below (bR.alloc lR o)
theorem AllR.at {w:World} {g n:Nat} {F:Nat->Option (List Nat)}(h:AllR w g n F) {x:Nat}(hx:x<n):∃u,w.cell? ⟨g,x,rI⟩=some u/\w.frozen? ⟨g,x,rI⟩=false:=by
 obtain⟨cs,h1,h2,h3⟩:=h;obtain⟨u,k1,_⟩:=h3 x hx;exact⟨u,by rw[h1.cell];exact k1,h1.frozen x⟩
theorem AllR.row {w:World} {g n:Nat} {F:Nat->Option (List Nat)}(h:AllR w g n F) {x:Nat}(hx:x<n) {L:List Nat}(hL:F x=some L):∃u,w.cell? ⟨g,x,rI⟩=some u/\Rd w u (bvs L)/\Dq u g:=by
 obtain⟨cs,h1,h2,h3⟩:=h;obtain⟨u,k1,k2⟩:=h3 x hx;exact⟨u,by rw[h1.cell];exact k1,k2 L hL⟩
theorem AllR.set {w:World} {g n:Nat} {F:Nat->Option (List Nat)}(h:AllR w g n F) {x:Nat}(hx:x<n)(u:Value)(L:List Nat)(f:Rd w u (bvs L))(d:Dq u g):AllR (w.setCell ⟨g,x,rI⟩ u) g n (fun y=>if y=x then some L else F y):=by
 obtain⟨cs,h1,h2,h3⟩:=h;refine⟨_,h1.set x u,by rw[Array.size_setIfInBounds];exact h2,fun y i=> ?_⟩
 by_cases e:y=x
 ·subst e;refine⟨u,by rw[aL,iP rfl,iP (by omega)],fun b a=> ?_⟩;have a:(if y=y then some L else F y)=some b:=a;rw[iP rfl]at a;cases a;exact⟨f.onlyG (OnlyG.setCell y u) d,d⟩
 ·obtain⟨k,j,c⟩:=h3 y i;refine⟨k,by rw[aL,iN (fun h=>e h.symm)];exact j,fun b a=> ?_⟩;have a:(if y=x then some L else F y)=some b:=a;rw[iN e]at a;exact⟨(c b a).1.onlyG (OnlyG.setCell x u) (c b a).2,(c b a).2⟩
def Lk (T:Nat->NodeD)(F:Nat->Option (List Nat))(k x:Nat)(y:Nat):Option (List Nat):=if x+1<=y+2^k/\y<x+2^k then some (Hh T (lev y) y)else F y
theorem Zbb (T:Nat->NodeD)(F:Nat->Option (List Nat)) {x:Nat}(hl:lev x=0):Lk T F 0 x=fun y=>if y=x then some (Hh T 0 x)else F y:=by
 funext y
 unfold Lk;rw[show(2:Nat)^0=1 from rfl]
 by_cases h:y=x
 ·rw[iP (by omega),iP h,h,hl]
 ·rw[iN (by omega),iN h]
theorem Zbc (T:Nat->NodeD)(F:Nat->Option (List Nat)) {x k:Nat}(a:lev x=k+1)(hx:2^k<=x):Lk T F (k+1) x=fun y=>if y=x then some (Hh T (k+1) x)else Lk T (Lk T F k (x-2^k)) k (x+2^k) y:=by
 funext y
 have e:2^(k+1)=2*2^k:=(by rw[bF];omega);have b:0<2^k:=bH (by simp)
 by_cases h:y=x
 ·rw[iP h];unfold Lk;rw[iP (by omega),h,a]
 ·rw[iN h];unfold Lk;rw[e]
  by_cases h2:x+2^k+1<=y+2^k/\y<x+2^k+2^k
  ·rw[iP h2,iP (by omega)]
  ·rw[iN h2]
   by_cases h3:x-2^k+1<=y+2^k/\y<x-2^k+2^k
   ·rw[iP h3,iP (by omega)]
   ·rw[iN h3,iN (by omega)]
def TreeG (w:World)(g:Nat)(v:Value)(t:List NodeD):Prop:=
 ∃a cap,v=.slice a t.length cap/\t.length<=cap/\cap<=maxLen/\∀i,i<t.length->∃b off c,a=some ⟨b,off,rI⟩/\b<w.heap.size/\b≠g/\c.size=10/\w.rangeAt b (off+i*10) c.toList/\∀W,OnlyG g w W->NodeC W (nd t i) c
theorem Gw {w w':World} {g b o:Nat} {cs:List Value}(h:w.rangeAt b o cs)(hb:OnlyG g w w')(hl:b<w.heap.size)(hne:b≠g):w'.rangeAt b o cs:=by
 intro j u hu;have:=h j u hu;rw[World.cell?_of_block (hb.2.2 b hl hne)];exact this
theorem TreeG.onlyG {w w':World} {g:Nat} {v:Value} {t:List NodeD}(h:TreeG w g v t)(d:OnlyG g w w'):TreeG w' g v t:=by
 obtain⟨a,cap,e,h1,h2,h3⟩:=h;refine⟨a,cap,e,h1,h2,fun i m=> ?_⟩;obtain⟨b,f,c,n,j,k,o,p,q⟩:=h3 i m;exact⟨b,f,c,n,cH j d.2.1,k,o,Gw p d j k,fun W l=>q W (d.trans l)⟩
theorem TreeR.g {w0 w:World} {g:Nat} {v:Value} {t:List NodeD}(h:TreeR w0 v t)(d:Below w0.heap.size w0 w)(m:w0.heap.size<=g):TreeG w g v t:=by
 obtain⟨a,cap,e,h1,h2,h3⟩:=h;refine⟨a,cap,e,h1,h2,fun i n=> ?_⟩;obtain⟨b,f,c,o,j,k,p⟩:=h3 i n;exact⟨b,f,c,o,cH j d.size,by omega,k.size,Aj p d j,fun W l=>k.below (d.trans (l.1.mono m)) lR⟩
theorem TreeG.sl {w:World} {g:Nat} {v:Value} {t:List NodeD}(h:TreeG w g v t):∃a c,v=.slice a t.length c/\t.length<=c/\c<=9223372036854775807:=by
 obtain⟨a,cap,e,h1,h2,_⟩:=h;unfold maxLen at h2;exact⟨a,cap,e,h1,h2⟩
theorem TreeG.node {w:World} {g:Nat} {a:Option Addr} {n c:Nat} {t:List NodeD}(h:TreeG w g (rC a n c) t) {i:Nat}(d:i<n):∃b off cs,a=some ⟨b,off,rI⟩/\b<w.heap.size/\b≠g/\cs.size=10/\w.rangeAt b (off+i*10) cs.toList/\∀W,OnlyG g w W->NodeC W (nd t i) cs:=by
 obtain⟨f,cap,e,h1,h2,h3⟩:=h;simp only[Value.slice.injEq]at e;obtain⟨rfl,rfl,rfl⟩:=e;exact h3 i d
def Zhw (t:List NodeD)(k:Nat):Prop:=∀(x g:Nat) (v:Value) (w:World) (F:Nat->Option (List Nat)),TreeG w g v t->AllR w g t.length F->IsLev x k->x+2^k<=t.length->
 Calls prog 189 #[v,rD rF (x:Nat),rC (some ⟨g,0,rI⟩) t.length t.length] w fun e w'=>∃v',e=rK v'/\Rd w' v' (bvs (Hh (nd t) k x))/\Dq v' g/\AllR w' g t.length (Lk (nd t) F k x)/\OnlyG g w w'
theorem Zdq (t:List NodeD)(Y:El t=true)(B:TreeOk t)(hp:Ci t=true):Zhw t 0:=by
 intro x g v w F h f i hx;have N:=Gu i;have hx:x<t.length:=(by have:(2:Nat)^0=1:=rfl;omega);have Q:=Fv Y;have W:OnlyG g w w:=OnlyG.of_below bR (eW f.lt);obtain⟨a,c,rfl,hc,aV⟩:=h.sl;obtain⟨b,aS,cs,rfl,aT,aQ,aR,X,l⟩:=h.node hx;have A:=l w W;have S:lev x=0:=lev_eq (by omega) i;have C:=Fx hp hx;have P:(nd t x).kind≠2:=(by have:=C.1;rwa [Ji N]at this);have r:=Lu ((x/2:Nat):Int) (nd t x) cs w A (B.nd x) (Ed Y x);have R:ltF ((x/2:Nat):Int) (nd t x)=(([1]++beN 4 (x/2))++Bz (nd t x),0):=by
  rw[ltF,iN (by omega),iN (by rw[C.2];simp[P]),Int.toNat_natCast]
 unfold Wb at r;rw[R]at r;have aB:=Li (nd t) x;have q:=My (nd t) 0 x;have aA:=Uc (t:=nd t) (fun y=>Ed Y y) 0 x;have D:=Ud (nd t) (fun y=>B.nd y) (fun y=>Ed Y y) 0 x;rw[<-aB]at r;obtain⟨n,hn⟩:=eX t.length;rw[<-hn]at hx hc Q f|-;obtain⟨m,T⟩:=eX (x/2);rw[<-T]at r;have hq:(x:Int)/2=(m:Int):=(by omega);have hm:(x:Int)%2=0:=(by omega);obtain⟨TX,L⟩:=eX (Pk (nd t) 0 x);rw[<-L]at r q aA D;have k:=Hd q;have aG:=Hd r;have aL:=Hd X;have aN:=Hd A.size;have J:=Hd f;have aP:=Hd (show TX.length<=1000000 by omega);have aO:=Hd D;have aF:=Hd (Zbb (nd t) F S);have aC:=hx;clear L aB T hn R C P h l W aR aQ A X r q aA D Y B hp i S N f;go_in;go_wp2_with (refine wpList_load_mid rfl 52 (.tmp 17) rfl b (aS+x*10) rfl cs.toList _ aL.out underlying52 rfl (by rw[fH,aN.out];exact Bc) ?_);refine(aG.out).mono ?_;rintro e w1 ⟨u,v1,rfl,d⟩;obtain⟨E,G,H,rfl⟩:=Cx d;have aK:=Hd d.rd;have I:=Hd (J.out.below u);have aI:=Hd (OnlyG.of_below u (eW J.out.lt));clear u d;go_wp2_with fail;have K:=Hd (show Rd (w1.alloc (rJ #[rC E G H] 28)) (rC E G H) (bvs TX)from(aK.out).alloc _);have aM:=Hd (Km w1.heap.size (rC E G H) TX (w1.alloc (rJ #[rC E G H] 28)) (Aq rfl) (by simp) K.out aO.out aP.out);have aD:=Hd ((I.out).alloc (rJ #[rC E G H] 28));have O:=(I.out).lt;have aH:=Hd ((aI.out).trans (OnlyG.of_below (bR.alloc lR (rJ #[rC E G H] 28)) (eW O)));go_wp2_with fail;refine(aM.out).mono ?_;rintro e w2 ⟨ob,rfl,U,V,o,z⟩;have s:=aD.out.below z;have aJ:=Hd (aH.out.trans (OnlyG.of_below z (by simp;omega)));have j:=Hd o;have M:Dq (rC (some ⟨ob,0,rI⟩) 32 32) g:=by
  intro a m c e;simp only[Value.slice.injEq,Option.some.injEq]at e;rw[<-e.1];show ob≠g;have:w1.heap.size+1<=ob:=(by simpa using U);omega
 have p:=Hd M;obtain⟨y0,aU,aW⟩:=s.at aC;have aE:=Hd s;clear z o s U V O M;go_wp2_with fail;go_ret;have Z:=aE.out.set aC _ _ j.out p.out;refine⟨_,rfl,?_,p.out,?_,aJ.out.trans (OnlyG.setCell x _)⟩
 ·rw[k.out];exact j.out.onlyG (OnlyG.setCell x _) p.out
 ·rw[aF.out,k.out];exact Z
theorem Zdr (t:List NodeD)(i:El t=true)(aP:TreeOk t)(hp:Ci t=true)(k:Nat)(IH:Zhw t k):Zhw t (k+1):=by
 intro x g v w F h s l hx;have bI:=Gv l;have bC:=Fv i;have cB:2^(k+1)=2*2^k:=(by rw[bF];omega);have cA:0<2^k:=bH (by simp);have P:x<t.length:=(by omega);obtain⟨a7,a8,bA,bB,a9⟩:=kids_lev (by omega) l;have aF:=Hd (fun(W:World)=>Jx (x:Int) W);have aG:=Hd (fun(W:World)=>Id (x:Int) W);rw[a7]at aF;rw[a8]at aG;have bD:lev x=k+1:=lev_eq (by omega) l;have o:=Hd (IH (x-2^k) g v w F h s bA (by omega));obtain⟨F1,aK⟩:=eX (Lk (nd t) F k (x-2^k));have p:=fun(W:World) (O:OnlyG g w W) (ha:AllR W g t.length F1)=>IH (x+2^k) g v W F1 (h.onlyG O) ha bB (by omega);obtain⟨F2,aL⟩:=eX (Lk (nd t) F1 k (x+2^k));have bV:=Hd (show Lk (nd t) F (k+1) x=fun y=>if y=x then some (Hh (nd t) (k+1) x)else F2 y by rw[Zbc (nd t) F bD a9,aL,aK]);rw[<-aK]at o;rw[<-aL]at p;have aQ:=Fx hp P;have a6:(nd t x).kind≠1:=(by have:=aQ.1;rwa [Lf bI]at this);have N:=Lj (nd t) k x;have aE:=My (nd t) (k+1) x;have bM:=Uc (t:=nd t) (fun y=>Ed i y) (k+1) x;have aS:=Ud (nd t) (fun y=>aP.nd y) (fun y=>Ed i y) (k+1) x;have C:=Ex (nd t) k (x-2^k);have E:=Ex (nd t) k (x+2^k);obtain⟨q,aZ⟩:=eX (Pk (nd t) (k+1) x);rw[<-aZ]at N aE bM aS;obtain⟨H1,aM⟩:=eX (Hh (nd t) k (x-2^k));obtain⟨H2,aN⟩:=eX (Hh (nd t) k (x+2^k));rw[<-aM,<-aN]at N;rw[<-aM]at o C;rw[<-aN]at p E;have PT:=fun(cs:Array Value) (W:World) (O:NodeC W (nd t x) cs) (vl vr:Value) (h1:Rd W vl (bvs H1)) (h2:Rd W vr (bvs H2))=>Iz (nd t x) cs vl vr H1 H2 W O (aP.nd x) (Ed i x) h1 h2;have bJ:ptF (nd t x) H1 H2=(q,0):=by
  rw[ptF,iN (by rw[aQ.2];simp[a6]),iN (by simp[C,E]),N,List.append_assoc _ (Bf H1)]
 unfold Wb at PT;simp only[bJ]at PT;obtain⟨a,c,rfl,hc,cM⟩:=h.sl;obtain⟨b,H,cs,rfl,a2,V,a4,bK,aA⟩:=h.node P;obtain⟨n,hn⟩:=eX t.length;rw[<-hn]at P hc bC s o p|-;obtain⟨xl,bO⟩:=eX (x-2^k);obtain⟨xr,bQ⟩:=eX (x+2^k);rw[<-bO]at aF o;rw[<-bQ]at aG p;have hm:(x:Int)%2=1:=(by omega);have U:=Hd aE;have R:=Hd PT;have aV:=Hd p;have b5:=Hd (show q.length<=1000000 by omega);have b4:=Hd aS;have bP:=P;have Q:=Hd aA;have S:=Hd bK;have aY:=Hd a4;clear aK aL aZ N hn bJ aQ a6 h aA a4 bK PT aE bM aS i aP hp l bD bI aM aN bO bQ a7 a8 bA bB a9 C E IH p s cB cA hx;go_in;go_wp2_with fail;refine(aF.out w).mono ?_;rintro e w' ⟨rfl,rfl⟩;go_wp2_with fail;refine(o.out).mono ?_;rintro e wz ⟨v1,rfl,aR,a0,j,r⟩;obtain⟨q1,q2,q3,rfl⟩:∃a b c,v1=.slice a b c:=(by obtain⟨a,c,e,_⟩:=aR;exact⟨_,_,_,e⟩);have M:g<wz.heap.size:=j.lt;have aW:=Hd (Gw S.out r a2 V);have a3:b<wz.heap.size:=cH a2 r.2.1;obtain⟨CS,aJ⟩:=eX cs;rw[<-aJ]at aW aY;have b1:=Hd (fun(W:World) (O:OnlyG g wz W) (v:Value) (hv:Rd W v (bvs H2))=>R.out CS W (by rw[aJ];exact Q.out W (r.trans O)) (rC q1 q2 q3) v (aR.onlyG O a0) hv);have bW:=Hd (fun(W:World) (O:Below wz.heap.size wz W)=>aV.out W (r.trans (OnlyG.of_below O (eW M))) (j.below O));have b7:b≠g:=V;have bY:=Hd r;clear aR a0 j r aJ R aV S Q o;go_wp2_with fail;refine Bd [eF (rC (some ⟨b,H,rI⟩) n c),eF (rD rF (x:Nat)),eF (rE (some ⟨b,H+x*10,rI⟩)),eF (.agg CS),eF (rC q1 q2 q3),eF (rC (some ⟨b,H,rI⟩) n c),eF (rD rF (x:Nat)),eF (rD rF (xr:Nat)),eF (rC (some ⟨g,0,rI⟩) n n),fun v w'=>Rd w' v (bvs H2)/\Dq v g/\AllR w' g n F2,fun v w'=>∃u,v=.tuple #[u,rD rG 0]/\Rd w' u (bvs q)/\Dq u g,fun v w'=>∃u,v=.tuple #[u,rD rG 0]/\Rd w' u (bvs q)/\Dq u g,fun v w'=>Rd w' v (bvs q)/\Dq v g,eF (rD rG 0),fun v w'=>Rd w' v (bvs q)/\Dq v g]
  (eK 15 true) (fun X=>OnlyG g wz X) (fun X Y=>OnlyG g X Y) (some 9) (by kernel_rfl) ?_ ((OnlyG.of_below bR (eW M)).drewN 1) (fun X Y hx h=>OnlyG.of_below h (Nat.le_trans (eW M) hx.2.1)) (fun X Y hx i=>hx.trans i) (by kernel_rfl) (by kernel_rfl) ?_ ?_
 ·exact kE (kE (kE (kE (kE (kE (kE (kE (kE (Cp (fun v x y h _ i=>⟨h.1.below i lR,h.2.1,h.2.2.below i⟩) (Ax (fun v x y h hi i=>let⟨u,e,h2⟩:=h;⟨u,e,(fun v x y h _ i=>⟨h.1.onlyG i h.2,h.2⟩) u x y h2 hi i⟩) (Ax (fun v x y h hi i=>let⟨u,e,h2⟩:=h;⟨u,e,(fun v x y h _ i=>⟨h.1.onlyG i h.2,h.2⟩) u x y h2 hi i⟩) (Ax (fun v x y h _ i=>⟨h.1.onlyG i h.2,h.2⟩) (kE (Ax (fun v x y h _ i=>⟨h.1.onlyG i h.2,h.2⟩) (Ag)))))))))))))))
 ·refine gP ?_ rfl (gP ?_ rfl (gP ?_ rfl (gO ?_ (gP ?_ rfl (gPw (by kernel_rfl) ?_ rfl (gP ?_ rfl (gOw (by kernel_rfl) ?_ (gPw (by kernel_rfl) ?_ rfl (gOw (by kernel_rfl) ?_ (gO ?_ (gO ?_ (gO ?_ (gO ?_ (gO ?_ .nil))))))))))))));all_goals
   intro a I A b8 ho Z;have A:OnlyG g wz I:=A;refine⟨rfl,?_⟩;intro K J;try have cG:a.tmps[0]?.getD undef=rC (some ⟨b,H,rI⟩) n c:=ho 0 (by kernel_rfl)
   try have cI:a.tmps[1]?.getD undef=rD rF (x:Nat):=ho 1 (by kernel_rfl)
   try have cJ:a.tmps[2]?.getD undef=rC (some ⟨g,0,rI⟩) n n:=ho 2 (by kernel_rfl)
   try have cK:a.tmps[8]?.getD undef=.slice q1 q2 q3:=ho 8 (by kernel_rfl)
   try have bS:=eqn Z.1
   try have cE:=eqn Z.2.1
   try have cF:=eqn Z.2.2.1
   try(refine Hd ?_;go_simp;exact J _ rfl)
  ·exact wp_load_mid 52 (.tmp 30) rfl b (H+x*10) (evs bS) _ _ (Gw aW.out A a3 b7) underlying52 rfl (by rw[fH,aY.out];exact Bc) (J _ _ rfl (Ai rfl bR))
  ·go_simp;refine(aG.out I).mono ?_;rintro e w2 ⟨rfl,rfl⟩;exact J _ _ rfl (Ai rfl bR)
  ·go_simp;refine(bW.out I b8).mono ?_;rintro e w2 ⟨v9,rfl,cD,b6,aO,b9⟩;exact J _ _ ⟨cD,b6,aO⟩ (Bu rfl b9)
  ·have o2:Rd I (a.tmps[37]?.getD undef) (bvs H2)/\Dq (a.tmps[37]?.getD undef) g/\AllR I g n F2:=Z.2.2.1;obtain⟨v2,aT⟩:=eX (a.tmps[37]?.getD undef);rw[<-aT]at o2;have e2:=aT.symm;clear aT;go_simp;refine(b1.out I A v2 o2.1).mono ?_;rintro e w2 ⟨z,v9,rfl,D⟩;exact J _ _ ⟨_,rfl,D.rd,Zdp D (cH M A.2.1)⟩ (Ai rfl z)
  ·have G:∃u,(a.tmps[38]?.getD undef)=.tuple #[u,rD rG 0]/\Rd I u (bvs q)/\Dq u g:=Z.1;obtain⟨v0,d⟩:=eX (a.tmps[38]?.getD undef);rw[<-d]at G;have e0:=d.symm;clear d;go_simp;exact J _ _ G (Ai rfl bR)
  ·have G:∃u,(a.tmps[27]?.getD undef)=.tuple #[u,rD rG 0]/\Rd I u (bvs q)/\Dq u g:=Z.1;obtain⟨v0,d⟩:=eX (a.tmps[27]?.getD undef);rw[<-d]at G;have e0:=d.symm;clear d;obtain⟨u,rfl,o1⟩:=G;go_simp;exact J _ _ o1 (Ai rfl bR)
  ·have G:∃u,(a.tmps[27]?.getD undef)=.tuple #[u,rD rG 0]/\Rd I u (bvs q)/\Dq u g:=Z.1;obtain⟨v0,d⟩:=eX (a.tmps[27]?.getD undef);rw[<-d]at G;have e0:=d.symm;clear d;obtain⟨u,rfl,o1⟩:=G;go_simp;exact J _ _ rfl (Ai rfl bR)
  ·have G:Rd I (a.tmps[39]?.getD undef) (bvs q)/\Dq (a.tmps[39]?.getD undef) g:=Z.1;obtain⟨v0,d⟩:=eX (a.tmps[39]?.getD undef);rw[<-d]at G;have e0:=d.symm;clear d;go_simp;exact J _ _ G (Ai rfl bR)
 ·rintro f w9 L B;have L:OnlyG g wz w9:=L;have S7:Rd w9 (f 7) (bvs q)/\Dq (f 7) g:=B.2.2.2.2.2.2.2.2.2.2.2.2.2.2.1;have aH:Rd w9 (f 37) (bvs H2)/\Dq (f 37) g/\AllR w9 g n F2:=B.2.2.2.2.2.2.2.2.2.1;clear B;simp only[Ao,Av,Ej,List.filterMap_cons,List.filterMap_nil,List.contains_cons,List.contains_nil,Nat.reduceBEq,Nat.reduceAdd,Bool.or_false,Bool.or_true,cond_true,cond_false];obtain⟨u7,bN⟩:=eX (f 7);rw[<-bN]at S7|-;clear bN;obtain⟨u37,aC⟩:=eX (f 37);rw[<-aC]at aH|-;clear aC;have cC:∃a b c,u7=.slice a b c:=(by obtain⟨a,c,e,_⟩:=S7.1;exact⟨_,_,_,e⟩);obtain⟨p1,p2,p3,rfl⟩:=cC;have b2:=Hd S7.1;have aU:=Hd aH.2.2;have b0:=Hd (bY.out.trans L);clear S7 aH L;go_wp2_with fail;have aX:=Hd (show Rd (w9.alloc (rJ #[rC p1 p2 p3] 28)) (rC p1 p2 p3) (bvs q)from(b2.out).alloc _);have b3:=Hd (Km w9.heap.size (rC p1 p2 p3) q (w9.alloc (rJ #[rC p1 p2 p3] 28)) (Aq rfl) (by simp) aX.out b4.out b5.out);have bT:=Hd ((aU.out).alloc (rJ #[rC p1 p2 p3] 28));have a5:=(aU.out).lt;have bX:=Hd ((b0.out).trans (OnlyG.of_below (bR.alloc lR (rJ #[rC p1 p2 p3] 28)) (eW a5)));go_wp2_with fail;refine(b3.out).mono ?_;rintro e w2 ⟨ob,rfl,bE,bG,aB,z⟩;have aI:=bT.out.below z;have bZ:=Hd (bX.out.trans (OnlyG.of_below z (by simp;omega)));have T:=Hd aB;have a1:Dq (rC (some ⟨ob,0,rI⟩) 32 32) g:=by
   intro a m c e;simp only[Value.slice.injEq,Option.some.injEq]at e;rw[<-e.1];show ob≠g;have:w9.heap.size+1<=ob:=(by simpa using bE);omega
  have aD:=Hd a1;obtain⟨y0,cL,cN⟩:=aI.at bP;have bU:=Hd aI;clear z aB aI bE bG a5 a1;go_wp2_with fail;go_ret;have bL:=bU.out.set bP _ _ T.out aD.out;refine⟨_,rfl,?_,aD.out,?_,bZ.out.trans (OnlyG.setCell x _)⟩
  ·rw[U.out];exact T.out.onlyG (OnlyG.setCell x _) aD.out
  ·rw[bV.out,U.out];exact bL
