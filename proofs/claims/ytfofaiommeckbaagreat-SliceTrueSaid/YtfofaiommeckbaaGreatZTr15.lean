import Derived.Test.YtfofaiommeckbaaGreatZTr14
import Derived.Lib.AppendZerosOnto
open Go.Obj renaming cells -> rK
open Go.Ending renaming returned -> rM
open Go.Value renaming slice -> rD, int -> rE, pointer -> rF
open Go.IntKind renaming i64 -> rG, u8 -> rH
open Option renaming none -> rJ
open Go.Proofs.Tryz
open Array renaming length_toList -> eK
open Nat renaming mul_one -> fN, mul_le_mul_left -> aK, zero_add -> cX
open List renaming length_append -> aD, size_toArray -> fM, take_left -> fP, length_nil -> bU, length_cons -> dB, length_filter_le -> fQ, getD_eq_getElem?_getD -> aE, getElem?_eq_getElem -> aF, filterMap_cons -> dG, filterMap_nil -> dH, contains_cons -> dJ, contains_nil -> dK
open Int renaming tdiv -> fR, tdiv_eq_ediv_of_nonneg -> fS
set_option linter.unusedVariables false
set_option maxRecDepth 100000
set_option maxHeartbeats 40000000
namespace Go.Proofs.YtfofaiommeckbaaGreat
open Go.RowKit WalkM WireM
theorem Zbr (x0 x1 x2 x3 x4 x5 x6 x7 x8 x9:Value)(w:World):(Instr.field 52 (.agg #[x0,x1,x2,x3,x4,x5,x6,x7,x8,x9]) 1).run prog w=.ok (.agg #[x1,x2,x3,x4,x5,x6]) w:=by kernel_rfl
theorem Zlb {w' h W:World} {d:LeafD} {x0 x1 x2 x3 x4:Value} {g:Nat} (C:Own h w'.heap.size 5 x0 (bvs d.box)) (D:Own h w'.heap.size 5 x1 (bvs d.sign)) (h2:Own h w'.heap.size 5 x2 (bvs d.ident)) (h3:Own h w'.heap.size 5 x3 (bvs d.par)) (E:Own h w'.heap.size 5 x4 (bvs d.sig))
  (H:g<w'.heap.size) (i:∀j,j≠g->W.heap[j]? =h.heap[j]?):Zbb W d #[x0,x1,x2,rE rH (d.source:Nat),x3,x4]:=by
 have f:∀ {v:Value} {xs:List Value},Own h w'.heap.size 5 v xs->Own W w'.heap.size 5 v xs:=by
  intro v xs m;obtain⟨t,G|⟨n,B,k,rfl,l,F,rest⟩⟩:=m
  ·exact⟨t,.inl G⟩
  ·exact⟨t,.inr ⟨n,B,k,rfl,l,by rw[i n (by omega)];exact F,rest⟩⟩
 have e:∀ {v:Value} {b:List Nat},Own W w'.heap.size 5 v (bvs b)->∃a c,v=.slice a b.length c:=by
  intro v b m;obtain⟨a,c,e,_⟩:=m.rd;rw[bvs_len]at e;exact⟨a,c,e⟩
 have o:=f C;have p:=f D;have q:=f h2;have r:=f h3;have s:=f E;obtain⟨u,A,rfl⟩:=e o;obtain⟨w,c1,rfl⟩:=e p;obtain⟨x,c2,rfl⟩:=e q;obtain⟨y,c3,rfl⟩:=e r;obtain⟨z,c4,rfl⟩:=e s;exact⟨u,A,w,c1,x,c2,y,c3,z,c4,rfl,o.rd,p.rd,q.rd,r.rd,s.rd⟩
theorem Zbs (v:Value)(t:List NodeD)(g:Nat)(i:Int)(w:World)(h:TreeR w v t)(k:TreeOk t)(j:t.length=2*g+1)(s:Ao t.length=g+1)(u:g<=1000)(E: -9223372036854775808<=i/\i<=9223372036854775807):
  Calls prog 190 #[v,rE rG i] w fun e w'=>e=rM (.bool (decide (i∈Ek t (g+1))))/\w'=w:=by
 obtain⟨I,c,rfl,p,D⟩:=h.sl;have d:=fun(W:World)=>Iz I t.length c W (by omega);rw[s]at d
 by_cases h0:i<0
 ·rw[dF (Zk4 t (g+1) h0)];have A:decide (i>=0)=false:=dF (by omega);obtain⟨n,l⟩:=eX t.length;rw[<-l];clear d h k j s u p l;go_in;go_wp2_with fail;go_ret;exact⟨rfl,rfl⟩
 ·obtain⟨m,rfl⟩:∃m:Nat,i=(m:Int):=⟨i.toNat,by omega⟩
  by_cases hm:m<g+1
  ·obtain⟨b,H,L,J,rfl,C,z,-,-⟩:=h.at (i:=2*m) (by omega);have r:=(k.nd (2*m)).kind;have a:=mem_iff t (g+1) m;obtain⟨y,q⟩:=eX ((nd t (2*m)).kind);rw[<-q]at z r a;have e:decide (((m:Nat):Int)∈Ek t (g+1))=((y:Int)==1):=by
    by_cases hk:y=1
    ·rw[dT (a.2 ⟨hm,hk⟩),hk];rfl
    ·rw[dF (fun p=>hk (a.1 p).2),Eq.comm,qN];omega
   rw[e];obtain⟨N,f⟩:=eX (g+1);rw[<-f]at d hm;have x:2*m<t.length:=(by omega);obtain⟨n,l⟩:=eX t.length;rw[<-l]at d p x|-;have o:=Hd d;have B:decide (m<N)=true:=dT hm;have h2:decide ((m:Int)<(N:Int))=true:=dT (by omega);have K:wrap64 (2*(m:Int))=2*(m:Int):=(by clear d a e;unfold wrap64;omega);have F:(2*(m:Int)).toNat=2*m:=(by omega);have G:2*(m:Int)<(n:Int):=(by omega);clear d h k j s u a e f l q h0;go_in;go_wp2_with fail;refine(o.out w).mono ?_;rintro e w' ⟨rfl,rfl⟩;go_wp2_with fail;go_ret;exact⟨rfl,rfl⟩
  ·rw[dF (fun p=>hm ((mem_iff t (g+1) m).1 p).1)];obtain⟨N,f⟩:=eX (g+1);rw[<-f]at d hm;obtain⟨n,l⟩:=eX t.length;rw[<-l]at d p|-;have o:=Hd d;have B:decide (m<N)=false:=dF hm;have h2:decide ((m:Int)<(N:Int))=false:=dF (by omega);clear d h k j s u f l h0;go_in;go_wp2_with fail;refine(o.out w).mono ?_;rintro e w' ⟨rfl,rfl⟩;go_wp2_with fail;go_ret;exact⟨rfl,rfl⟩
theorem Rs (v:Value)(t:List NodeD)(F m:Nat)(w:World)(h:TreeR w v t)(K:Zdl t=true)(u:TreeOk t)(hr:Bm t=true)(i:t.length=2*F+1)(hN:Ao t.length=F+1)(hi:((m:Nat):Int)∈Ek t (F+1)):
  Calls prog 132 #[v,rE rG (m:Nat)] w fun e w'=>∃c6:Array Value,e=rM (.tuple #[.agg c6,.bool true])/\Zbb w' (nd t (2*m)).leaf c6/\Below w.heap.size w w':=by
 have aB:=((mem_iff t (F+1) m).1 hi).1;have c:=Rk K;have J:=fun(W:World) (A:Below w.heap.size w W)=>Pr v t W (h.below A lR) K u;rw[hr]at J;have T:=Hd J;have I:=fun(W:World) (A:Below w.heap.size w W)=>Zbs v t F (m:Int) W (h.below A lR) u i hN (by omega) (by omega);rw[dT hi]at I;have Q:=Hd I;have H:2*m<t.length:=(by omega);obtain⟨ta,n0,rfl,hc,aE⟩:=h.sl;obtain⟨b,aD,cs,rfl,aA,r,x⟩:=h.node H;have L:=fun(W:World) (A:Below w.heap.size w W)=>Ln (nd t (2*m)) cs W (r.below A lR) (Zdm K (2*m));have p:=Hd L;have d:=Hd x;have S:=Hd r.size;obtain⟨D,hD⟩:=eX (nd t (2*m));rw[<-hD]at p|-;obtain⟨n,hn⟩:=eX t.length;rw[<-hn]at T Q hc H|-;have A:wrap64 (2*(m:Int))=2*(m:Int):=(by clear T Q p d x J I L;unfold wrap64;omega);have aG:(2*(m:Int)).toNat=2*m:=(by omega);have aH:2*(m:Int)<(n:Int):=(by omega);clear J I L h K u hr i hN hi r x hn hD aB c;have E:=(Below.refl w.heap.size w).alloc lR (rK #[rD rJ 0 0,rD rJ 0 0,rD rJ 0 0,rE rH 0,rD rJ 0 0,rD rJ 0 0] 44);have l:=Hd E;clear E;go_in;go_wp2_with fail;refine(T.out _ l.out).mono ?_;rintro e w1 ⟨rfl,hb⟩;have B:=Hd (l.out.trans (hb.mono l.out.size));have o:=Hd ((Blk.new w 44 #[rD rJ 0 0,rD rJ 0 0,rD rJ 0 0,rE rH 0,rD rJ 0 0,rD rJ 0 0]).below hb (by simp));clear hb;go_wp2_with fail;refine(Q.out _ B.out).mono ?_;rintro e w' ⟨rfl,rfl⟩;have R:=Hd (Am d.out B.out aA);go_wp2_with (refine wpList_load_mid rfl 52 (.tmp 19) rfl b (aD+2*m*10) rfl cs.toList _ R.out underlying52 rfl (by rw[eK,S.out];exact Ai) ?_);refine(p.out w' B.out).mono ?_;rintro e w2 ⟨c',rfl,aC,q⟩;have M:=Hd (B.out.trans (q.mono B.out.size));have C:=Hd (o.out.below q o.out.lt);have k:=o.out.lt;obtain⟨x0,x1,x2,x3,x4,u0,u1,u2,rfl,h0,h1,h2,h3,h4,h5,h6,h7⟩:=aC;have U:=fun(W:World) (a:∀j,j≠w.heap.size->W.heap[j]? =w2.heap[j]?)=>Zlb h0 h1 h2 h3 h4 (show w.heap.size<w'.heap.size from k) a;obtain⟨V,n1,k0,rfl⟩:=Da h0;obtain⟨X,n2,k1,rfl⟩:=Da h1;obtain⟨Y,n3,k2,rfl⟩:=Da h2;obtain⟨Z,n4,k3,rfl⟩:=Da h3;obtain⟨a4,n5,k4,rfl⟩:=Da h4;obtain⟨a5,n6,k5,rfl⟩:=Da h5;obtain⟨a6,n7,k6,rfl⟩:=Da h6;obtain⟨a7,n8,k7,rfl⟩:=Da h7;obtain⟨s,z⟩:=eX D.leaf.source;obtain⟨kd,G⟩:=eX D.kind;rw[<-z,<-G];rw[<-z]at U;have P:=Hd U;clear U z G h0 h1 h2 h3 h4 h5 h6 h7 q k;have aF:=Zbr (rE rH (kd:Nat)) (rD V n1 k0) (rD X n2 k1) (rD Y n3 k2) (rE rH (s:Nat)) (rD Z n4 k3) (rD a4 n5 k4) (rD a5 n6 k5) (rD a6 n7 k6) (rD a7 n8 k7) w2;go_wp2_with (refine Aa rfl 44 (.tmp 4) (.tmp 22) rfl w.heap.size #[rD V n1 k0,rD X n2 k1,rD Y n3 k2,rE rH (s:Nat),rD Z n4 k3,rD a4 n5 k4] rfl rfl 44 #[rD rJ 0 0,rD rJ 0 0,rD rJ 0 0,rE rH 0,rD rJ 0 0,rD rJ 0 0] C.out (by kernel_rfl) rfl rfl ?_);rintro w3 g f a y;have HK:=Hd g;have N:=Hd (M.out.trans (f w.heap.size lR));have O:=Hd (P.out w3 a);clear g f a y;go_wp2_with fail;exact bodyPost_ret (v:=.tuple #[.agg #[rD V n1 k0,rD X n2 k1,rD Y n3 k2,rE rH (s:Nat),rD Z n4 k3,rD a4 n5 k4],.bool true]) (Ad results132 _ _ w.heap.size _ _ _ rfl HK.out underlying44 rfl (by kernel_rfl)) rfl ⟨_,rfl,O.out,N.out⟩
theorem Zeo (v:Value)(t:List NodeD)(b m:Nat)(w:World)(h:TreeR w v t)(i:Bc t=true)(c:TreeOk t)(g:Bm t=true)(a:t.length=2*b+1)(d:Ao t.length=b+1)(f:((m:Nat):Int)∈Ek t (b+1)):
  Calls prog 132 #[v,rE rG (m:Nat)] w fun e w'=>∃c6:Array Value,e=rM (.tuple #[.agg c6,.bool true])/\Zbb w' (nd t (2*m)).leaf c6/\Below w.heap.size w w':=
 Rs v t b m w h (Pk i) c g a d f
end Go.Proofs.YtfofaiommeckbaaGreat
namespace Go.Proofs.YtfofaiommeckbaaGreat
open Go.RowKit
theorem Rt {P:Program} {w:World} (t H ty e:TypeId) (z:Value) (d:Nat) (F:Elem P t e z d) (S:IntKind) (s:P.underlying H=some (.int S)) {B:Nat} (v:Value) (xs:List Value) (n:Own w B e v xs)
  (k:Nat) (hk:0<k) (R:z.cells.size=1) (V:∀u∈(Builtin.zeroCells z.cells k).toList,u.oneCell'=true) (hn:xs.length+k<1099511627776) (W:B<=w.heap.size):
  ∃v' w',(Builtin.append_ #[t,H] ty #[v,rE rG (k:Nat)]).run P w=.ok v' w'/\Own w' B e v' (xs++(Builtin.zeroCells z.cells k).toList)/\w.grownBy w' v.ownBlock:=by
 obtain⟨i,K,Q,G,m⟩:=info_parts F.inf;have low:=F.low;have O:=F.ty;have b:∀k,(Builtin.zeroCells z.cells k).size=k:=fun k=>(by rw[size_zeroCells,R,fN]);have y:(Builtin.zeroCells z.cells k).toList.length=k:=(eK (xs:=Builtin.zeroCells z.cells k)).trans (b k);have U:(xs.length+k)*d<=(xs.length+k)*64:=aK _ low;have L:k*d<=k*64:=aK _ low;have a:(xs++(Builtin.zeroCells z.cells k).toList).length=xs.length+k:=(by rw[aD,y]);have grown:∀(c:Nat),c<xs.length+k->∀(row:Option Nat),
   Own (w.drew.alloc (.cells (xs.toArray++Builtin.zeroCells z.cells k++Builtin.zeroCells z.cells (grownCap w (xs.length+k) c e-(xs.length+k))) e)) B e
    (rD (some ⟨w.heap.size,0,rJ⟩) (xs.length+k) (grownCap w (xs.length+k) c e)) (xs++(Builtin.zeroCells z.cells k).toList)/\
   w.grownBy (w.drew.alloc (.cells (xs.toArray++Builtin.zeroCells z.cells k++Builtin.zeroCells z.cells (grownCap w (xs.length+k) c e-(xs.length+k))) e)) row:=by
  intro c ho row;have J:=grownCap_ge w (xs.length+k) c e;have p:grownCap w (xs.length+k) c e<=maxLen:=grownCap_le_maxLen w (xs.length+k) c e (by unfold maxLen;omega);refine⟨⟨by simp,.inr ⟨w.heap.size,_,_,by rw[a],W,heap_alloc_new w.drew _,by rw[a];exact J,p,?_,?_⟩⟩,⟨rfl,rfl,rfl,by simp,fun j Z _=>heap_alloc_old w.drew _ Z⟩⟩
  ·simp only[Array.size_append,fM,b];omega
  ·rw[a,fN];simp only[Array.toList_append];rw[<-a];exact fP
 have r:=n;obtain⟨hl,X⟩:=r;rcases X with⟨rfl,h0⟩|⟨g,o,l,rfl,I,T,aA,p,Y,h⟩
 ·have hx:xs=[]:=List.eq_nil_of_length_eq_zero (by omega);subst hx;have N:=Lib.run_append_nil_zeros (P:=P) w t H ty e i z .i64 S O s K Q k hk (by omega) (by omega) (by rw[m];omega);have f:=grown 0 (by omega) (Value.ownBlock (rD rJ 0 0));simp only[bU,cX,List.nil_append]at f|-;exact⟨_,_,N,by simpa using f.1,by simpa using f.2⟩
 ·by_cases hroom:xs.length+k<=o
  ·have D:=run_storeCells_at P g xs.length e (Builtin.zeroCells z.cells k).toList 0 l w T (by rw[y];omega) V;simp only[Nat.add_zero]at D;have hw:IntKind.i64.wrap (k:Int)=k:=(by rw[IntKind.wrap_i64];omega);have A:¬((k:Int)<0):=(by omega);have x:¬(281474976710656<(k:Int)*(i.bytes:Int)):=by
    rw[<-Int.natCast_mul,m];omega
   have M:¬(k=0):=(by omega);refine⟨rD (some ⟨g,0,rJ⟩) (xs.length+k) o,w.setRow g (l.toList.take xs.length++(Builtin.zeroCells z.cells k).toList++l.toList.drop (xs.length+(Builtin.zeroCells z.cells k).toList.length)).toArray,?_,?_,?_⟩
   ·have E:(storeCells ⟨g,xs.length,rJ⟩ (Builtin.zeroCells z.cells k).toList).run P w=_:=D;simp[Builtin.append_,run_underlying O,run_underlying s,sizeOf,typeInfo,zeroValue,K,Q,G,asInt,asIntOf,hw,hroom,A,x,M,Addr.add_lit,E]
   ·refine⟨by simp,.inr ⟨g,o,_,by rw[a],I,setRow_heap w g l _ e _ T,by rw[a];exact hroom,p,?_,?_⟩⟩
    ·simp only[fM,aD,List.length_take,List.length_drop,eK,b];omega
    ·rw[a,fN];rw[fN]at h;rw[h,<-a];exact fP
   ·exact⟨rfl,rfl,rfl,by simp,fun k _ hk=>setRow_other w g k _ (fun e=>hk (by simp[Value.ownBlock,e]))⟩
  ·have q:∀j u,xs[j]? =some u->w.cell? ((⟨g,0,rJ⟩:Addr).add j)=some u:=World.ownsRow.cells (g:=g) n rfl;have C:=run_firstCells_some (P:=P) w.drew i.size xs.length ⟨g,0,rJ⟩ xs.length o xs (by rw[G];omega) (by simpa using q);have N:=Lib.run_append_grow_zeros (P:=P) w t H ty e i z .i64 S O s K Q (some ⟨g,0,rJ⟩) xs.length o xs C k hk (by omega) (by omega) (by omega) (by rw[m];omega) (growslice_fits (by omega) (by rw[m];omega));have f:=grown o (by omega) (Value.ownBlock (rD (some ⟨g,0,rJ⟩) xs.length o));exact⟨_,_,N,f.1,f.2⟩
open ShaM WireM
theorem Ii (L:List Nat):(shaF L).length=32:=by
 unfold shaF;rw[<-Rr (blocksN_ok _ HL0_len HL0_lt _).1,Ih]
theorem zcN (n:Nat):(Builtin.zeroCells (Value.int .u8 0).cells n).toList=bvs (List.replicate n 0):=by
 refine List.ext_getElem (by simp[Builtin.zeroCells,Value.cells]) fun i h1 h2=> ?_;simp[Builtin.zeroCells,Value.cells,Nat.mod_one,bvs]
theorem Own.take0 {w:World} {B:Nat} {e:TypeId} {a:Option Addr} {n c:Nat} {xs:List Value}(h:Own w B e (rD a n c) xs):Own w B e (rD a 0 c) []:=by
 obtain⟨m,h2⟩:=h;refine⟨by simp,?_⟩;rcases h2 with⟨h2,h3⟩|⟨g,l,b,d,f,i,o,j,k,p⟩
 ·simp only[Value.slice.injEq]at h2;obtain⟨rfl,rfl,rfl⟩:=h2;exact .inl ⟨rfl,rfl⟩
 ·simp only[Value.slice.injEq]at d;obtain⟨rfl,rfl,rfl⟩:=d;exact .inr ⟨g,c,b,rfl,f,i,by simp,j,k,by simp⟩
theorem Zis (n:Nat)(w:World)(o:n<1000000000):
  Calls prog 234 #[rD rJ 0 0,rE rG (n:Nat)] w fun e w'=>∃v',e=rM v'/\Own w' w.heap.size 5 v' []/\Below w.heap.size w w':=by
 have l:decide ((n:Int)<0)=false:=(by simp);rcases Nat.eq_zero_or_pos n with rfl|i
 ·go_in;go_wp2_with fail;go_ret;exact⟨_,rfl,Own.nil _ _ _,bR⟩
 ·have m:decide ((n:Int)>0)=true:=(by simp;omega);obtain⟨p,j,b,a,f⟩:=Rt (P:=prog) (w:=w) 28 3 28 5 (rE rH 0) 1 Ca .i64 rfl (rD rJ 0 0) [] (Own.nil w w.heap.size _) n i rfl (by rw[zcN];exact By _) (by simp;omega) lR;rw[zcN]at a;have d:Below w.heap.size w j:=(Below.refl w.heap.size w).grown f lR (fun k hk=>by simp[Value.ownBlock]at hk);obtain⟨q,r,s,rfl⟩:=Dr a;have h:=Hd a.take0;have g:=Hd d;have c:=Hd b;clear a f d b;go_in;go_wp2_with (at_builtin;refine Lib.wpList_append_run _ rfl _ _ _ _ rfl _ _ rfl rfl _ _ c.out ?_);go_ret;exact⟨_,rfl,h.out,g.out⟩
theorem Zbt (g:Nat)(v:Value)(L:List Nat)(w:World)(D:w.cell? ⟨g,0,rJ⟩=some v)(z:g<w.heap.size)(h:Rd w v (bvs L))(E:L.length<1000000000):
  Calls prog 199 #[rD (some ⟨g,0,rJ⟩) 1 1] w fun e w'=>∃v',e=rM v'/\Own w' w.heap.size 5 v' (bvs L)/\Below w.heap.size w w':=by
 obtain⟨N,O,rfl⟩:∃a c,v=.slice a L.length c:=(by obtain⟨a,c,e,_⟩:=h;exact⟨a,c,by rw[e,bvs_len]⟩);obtain⟨n,A⟩:=eX L.length;rw[<-A]at D h E;have J:=Hd (Zis n w E);have M:=Hd A;have H:=Hd h;have K:=Hd D;have P:decide ((n:Int)<0)=false:=(by simp);clear A h;go_in;go_wp2_with fail
 go_loopg [11,3] 1 (fun q iv C wr=>∃i:Nat,i+q=1/\iv=rE rG (i:Nat)/\C=rE rG ((i*n:Nat):Int)/\wr=w)
 case atStart=>exact⟨0,rfl,rfl,by simp,rfl⟩
 case round=>
  obtain⟨i,o,rfl,rfl,rfl⟩:=hrel
  by_cases h1:i=0
  ·subst h1;have y:gk=1:=(by omega);have B:(((0*n:Nat):Int))=0:=(by simp);rw[B];subst y;go_wp2_with fail;go_roundg 0;case measure=>omega
   case rel=>exact⟨1,rfl,rfl,by simp,rfl⟩
  ·obtain rfl:i=1:=(by omega);have B:(((1*n:Nat):Int))=n:=(by simp);rw[B];clear h1 o;go_wp2_with fail;refine(J.out).mono ?_;rintro e S ⟨Q,rfl,b,l⟩;have t:=Hd b;have r:=Hd l;obtain⟨X,Y,Z,rfl⟩:=Dr b;clear b l;go_wp2_with fail;obtain⟨k,rfl⟩:∃k:World,k=wr:=⟨_,rfl⟩
   go_loopg [27,6] 1 (fun q iv C wr=>∃i:Nat,i+q=1/\iv=rE rG (i:Nat)/\Own wr k.heap.size 5 C (if i=0 then []else bvs L)/\Below k.heap.size k wr)
   case atStart=>exact⟨0,rfl,rfl,t.out,r.out⟩
   case round=>
    obtain⟨i,o,rfl,b,l⟩:=hrel;have j:=Hd b;have d:=Hd l;obtain⟨F,G,I,rfl⟩:=Dr b;clear b l
    by_cases h1:i=0
    ·subst h1;obtain rfl:gk=1:=(by omega);clear o;have f:Hid (Own wr k.heap.size 5 (rD F G I) []):=j;have x:wr.cell? ⟨g,0,rJ⟩=some (rD N n O):=(d.out.cell (p:=⟨g,0,rJ⟩) z).trans K.out;clear j;go_wp2_with (at_builtin;refine An rfl (.tmp 31) (.tmp 32) 28 rfl k.heap.size 5 _ 1 Ca _ [] rfl f.out _ (bvs L) rfl (H.out.below d.out lR) (By _) ?c2 ?c3 ?_);case c2=>rw[bvs_len,<-M.out];simp;omega
     case c3=>exact d.out.size
     rintro R T b-m;have u:=Hd b;have s:=Hd (d.out.trans m);obtain⟨U,V,W,rfl⟩:=Dr b;clear b m;go_wp2_with fail;go_roundg 0;case measure=>omega
     case rel=>exact⟨1,rfl,rfl,u.out,s.out⟩
    ·obtain rfl:i=1:=(by omega);have f:Hid (Own wr k.heap.size 5 (rD F G I) (bvs L)):=j;clear h1 o j;go_wp2_with fail;go_ret;exact⟨_,rfl,f.out,d.out⟩
theorem Jv (g:Nat)(v:Value)(L:List Nat)(w:World)(E:w.cell? ⟨g,0,rJ⟩=some v)(s:g<w.heap.size)(h:Rd w v (bvs L))(C:∀x∈L,x<256)(F:L.length<=1000000):
  Calls prog 151 #[rD (some ⟨g,0,rJ⟩) 1 1] w fun e w'=>∃b,e=rM (rD (some ⟨b,0,rJ⟩) 32 32)/\w.heap.size<=b/\b<w'.heap.size/\Rd w' (rD (some ⟨b,0,rJ⟩) 32 32) (bvs (shaF L))/\Below w.heap.size w w':=by
 have R:∀w,(zeroValue 224).run prog w=.ok (.agg Z32a) w:=fun _=>(by kernel_rfl);have q:=Hd (Zbt g v L w E s h (by omega));have f:=Hd (fun(x:Value) (n:World) (O:Rd n x (bvs L))=>Ziq x L n O C F);have l:=Ii L;obtain⟨i,a⟩:=eX ((bvs (shaF L)).toArray);rw[<-a]at f;have m:i.size=32:=(by rw[a,fM,bvs_len,l]);have K:=Hd (show(prog.info? 224).map (·.size)=some i.size by rw[m];kernel_rfl);have M:=Hd (show i.all (·.oneCell')=true by rw[a];simp[bvs,Value.oneCell']);have N:=Hd (show Z32a.size=i.size by rw[m];kernel_rfl);have r:=Hd a;have A:=Hd m;clear l a m h C F E;go_in;go_wp2_with fail;refine(q.out).mono ?_;rintro e n ⟨S,rfl,c,D⟩;have I:=Hd c.rd;have z:=Hd D;obtain⟨U,V,W,rfl⟩:=Dr c;clear c D;go_wp2_with fail;refine(f.out _ n I.out).mono ?_;rintro e o ⟨rfl,k⟩;have d:=Hd (z.out.trans (k.mono z.out.size));have J:=Hd (Blk.new o 224 Z32a);clear k;go_wp2_with (refine Aa rfl 224 (.tmp 3) (.tmp 6) rfl o.heap.size i rfl rfl 224 Z32a J.out K.out N.out (by have:=M.out;rw[<-Array.all_toList]at this;exact this) ?_);intro T G H Q y;have B:=Hd G;have p:=Hd ((d.out.alloc d.out.size (.cells Z32a 224)).trans ((H o.heap.size lR).mono d.out.size));have t:Hid (w.heap.size<=o.heap.size):=Hd d.out.size;clear G H Q y;go_wp2_with fail;go_ret;refine⟨_,rfl,t.out,B.out.lt,?_,p.out⟩;refine⟨_,32,by rw[bvs_len,Ii],by rw[bvs_len,Ii];omega,by unfold maxLen;omega,.inr ⟨_,0,rfl,fun j u P=> ?_⟩⟩;rw[cX,B.out.cell j,r.out,List.getElem?_toArray];exact P
open WalkM
mutual
def Lb (t:Nat->NodeD):Nat->Nat->List Nat
 |0,x=>([1]++beN 4 (x/2))++Bk (t x)
 |k+1,x=>([2]++Bk (t x))++(Ba (Ff t k (x-2^k))++Ba (Ff t k (x+2^k)))
def Ff (t:Nat->NodeD):Nat->Nat->List Nat
 |0,x=>shaF (([1]++beN 4 (x/2))++Bk (t x))
 |k+1,x=>shaF (([2]++Bk (t x))++(Ba (Ff t k (x-2^k))++Ba (Ff t k (x+2^k))))
end
theorem Hi (t:Nat->NodeD)(k x:Nat):Ff t k x=shaF (Lb t k x):=by cases k<;>simp only[Ff,Lb]
theorem Gk (t:Nat->NodeD)(x:Nat):Lb t 0 x=([1]++beN 4 (x/2))++Bk (t x):=by simp only[Lb]
theorem Gl (t:Nat->NodeD)(k x:Nat):Lb t (k+1) x=([2]++Bk (t x))++(Ba (Ff t k (x-2^k))++Ba (Ff t k (x+2^k))):=by simp only[Lb]
theorem Dn (t:Nat->NodeD)(k x:Nat):(Ff t k x).length=32:=by rw[Hi];exact Ii _
theorem Zep (b:List Nat):∀x∈shaF b,x<256:=by
 intro x hx;unfold shaF at hx;rw[List.mem_flatten]at hx;obtain⟨l,hl,hx⟩:=hx;obtain⟨y,_,rfl⟩:=List.mem_map.1 hl;exact beN_lt _ _ x hx
theorem Ru (t:Nat->NodeD)(k x:Nat):∀y∈Ff t k x,y<256:=by rw[Hi];exact Zep _
theorem Py {L:List Nat}(h:L.length=32):(Ba L).length<=36:=by have:=Bg L (by omega);omega
theorem Nq {t:Nat->NodeD}(hs:∀x,Cb (t x)=true)(k x:Nat):(Lb t k x).length<=8000:=by
 have h:=Cz (hs x);cases k with
 |zero=>
  rw[Gk];simp only[aD,dB,bU,beN_len];omega
 |succ k=>
  have h1:=Py (Dn t k (x-2^k));have h2:=Py (Dn t k (x+2^k));rw[Gl];simp only[aD,dB,bU];omega
def woD (t:List NodeD)(ps:List Int)(x:Nat):NodeD:=
 if x%2=0 then(if((x/2:Nat):Int)∈ps then Ap else nd t x)
 else⟨(nd t x).kind,(nd t x).leaf,⟨(nd t x).par.box,(nd t x).par.hash,(nd t x).par.late.filter fun u=>decide (u∉ps)⟩⟩
theorem Zlc (t:List NodeD)(x:Nat):woD t [] x=nd t x:=by
 unfold woD
 split
 ·rw[iN (by simp)]
 ·have:((nd t x).par.late.filter fun u=>decide (u∉([]:List Int)))=(nd t x).par.late:=List.filter_eq_self.2 (by simp);rw[this]
theorem Zit {t:List NodeD} {ps:List Int} {x:Nat}(h:x%2=0):woD t ps x=if((x/2:Nat):Int)∈ps then Ap else nd t x:=by rw[woD,iP h]
theorem Wu {t:List NodeD} {ps:List Int} {x:Nat}(h:x%2=1):woD t ps x=⟨(nd t x).kind,(nd t x).leaf,⟨(nd t x).par.box,(nd t x).par.hash,(nd t x).par.late.filter fun u=>decide (u∉ps)⟩⟩:=by rw[woD,iN (by omega)]
theorem Nr {t:List NodeD}(h:Bc t=true)(c:List Int)(x:Nat):Cb (woD t c x)=true:=by
 have b:=Ct h x;unfold woD
 split
 ·split
  ·exact Nl
  ·exact b
 ·have a:=oD b;have h2:=fQ (fun u=>decide (u∉c)) (nd t x).par.late;exact dT ⟨a.1,a.2.1,a.2.2.1,a.2.2.2.1,a.2.2.2.2.1,a.2.2.2.2.2.1,a.2.2.2.2.2.2.1,by have:=a.2.2.2.2.2.2.2;simp only;omega⟩
theorem rdS {w:World} {v:Value} {xs:List Value}(h:Rd w v xs):∃a n c,v=.slice a n c:=by
 obtain⟨a,c,e,_⟩:=h;exact⟨_,_,_,e⟩
theorem Dw (x y:Value)(A B:List Nat)(w:World)(hx:Rd w x (bvs A))(j:Rd w y (bvs B))(n:A.length+B.length<1000000000):
  Calls prog 146 #[x,y] w fun e w'=>∃v',e=rM v'/\Own w' w.heap.size 5 v' (bvs (A++B))/\Below w.heap.size w w':=by
 have l:=Hd hx;have m:=Hd j;clear hx j;go_in;go_wp2_with (at_builtin;refine An rfl (.tmp 5) (.tmp 6) 28 rfl w.heap.size 5 _ 1 Ca _ [] rfl (Own.lit0 rfl lR) _ (bvs A) rfl (l.out.alloc _) (By _) ?c2 ?c3 ?_);case c2=>rw[bvs_len];simp;omega
 case c3=>simp
 rintro o q a-c;have b:=((Below.refl w.heap.size w).alloc lR (rK #[] 5)).trans c;have k:=Hd a;have i:=Hd b;have h:=Hd (m.out.below b lR);clear a c b;go_wp2_with (at_builtin;refine An rfl (.tmp 7) (.tmp 8) 28 rfl w.heap.size 5 _ 1 Ca _ _ rfl k.out _ (bvs B) rfl h.out (By _) ?c4 ?c5 ?_);case c4=>simp only[bvs_len];omega
 case c5=>exact i.out.size
 rintro p r a-d;have g:=Hd a;have f:=Hd (i.out.trans d);clear a d;go_wp2_with fail;go_ret;refine⟨_,rfl,?_,f.out⟩;rw[Cj];exact g.out
theorem Uf (v:Value)(L:List Int)(x:Int)(w:World)(h:Rd w v (ivs .i64 L)):
  Calls prog 145 #[v,rE rG x] w fun e w'=>e=rM (.bool (decide (x∈L)))/\w'=w:=by
 have P:∃a c,v=.slice a L.length c/\c<=maxLen/\L.length<=c:=(by obtain⟨a,c,e,J,h2,_⟩:=h;exact⟨a,c,by rw[e];simp[ivs],h2,by simpa [ivs]using J⟩);obtain⟨a,c,rfl,l,B⟩:=P;have G:=fun(i:Nat) (f:i<L.length)=>h.at3 (u:=rE rG (L.getD i 0)) (r:=i) (by simp[ivs,aE,f]);have o:=fun(i:Nat) (f:i<L.length) (e:L.getD i 0=x)=>(show decide (x∈L)=true from dT (by
  rw[aE,aF f]at e;have:L[i]=x:=e;rw[<-this];exact List.getElem_mem f))
 have p:=fun(d:∀i,i<L.length->L.getD i 0≠x)=>(show decide (x∈L)=false from dF (fun M=>by
  obtain⟨i,f,e⟩:=List.getElem_of_mem M;exact d i f (by rw[aE,aF f];exact e)))
 obtain⟨n,F⟩:=eX L.length;obtain⟨R,E⟩:=eX (decide (x∈L));rw[<-F]at G o p B|-;rw[<-E]at o p|-;have N:n<=9223372036854775807:=(by unfold maxLen at l;omega);have I:=Hd G;have t:=Hd o;have z:=Hd p;clear G o p h F E l;go_in;go_wp2_with fail
 go_loopg [5] n (fun q iv wr=>∃r:Nat,r+q=n/\iv=rE rG (r:Nat)/\(∀i,i<r->L.getD i 0≠x)/\wr=w)
 case atStart=>exact⟨0,by omega,rfl,fun k hk=>by omega,rfl⟩
 case round=>
  obtain⟨r,H,rfl,d,rfl⟩:=hrel;have A:=Hd H;have j:=Hd d;clear H d
  by_cases hlt:r<n
  ·have m:decide (r<n)=true:=dT hlt;obtain⟨b,Q,rfl,K,g⟩:=I.out r hlt;obtain⟨y,C⟩:=eX (L.getD r 0);rw[<-C]at g;have D:=Hd C;clear C
   by_cases he:y=x
   ·have O:(y==x)=true:=(by rw[beq_iff_eq];exact he);have s:=Hd he;clear he;go_wp2_with fail;go_ret;exact⟨Eb (t.out r hlt (by rw[<-D.out];exact s.out)),rfl⟩
   ·have O:(y==x)=false:=(by rw[qN];exact he);have s:=Hd he;clear he;go_wp2_with fail;go_roundg (gk-1);case measure=>have:=A.out;omega
    case rel=>
     refine⟨r+1,by have:=A.out;omega,by go_num,fun i f=> ?_,rfl⟩
     by_cases e:i=r
     ·rw[e,<-D.out];exact s.out
     ·exact j.out i (by omega)
  ·obtain rfl:r=n:=(by have:=A.out;omega);have m:decide (r<r)=false:=dF hlt;go_wp2_with fail;go_ret;exact⟨Eb (z.out j.out),rfl⟩
def Zh (t:List NodeD)(ps:List Int)(k:Nat):Prop:=∀(x:Nat) (v vp:Value) (w:World),TreeR w v t->Rd w vp (ivs .i64 ps)->IsLev x k->x+2^k<=t.length->
 Calls prog 86 #[v,rE rG (x:Nat),vp] w fun e w'=>∃v',e=rM v'/\Own w' w.heap.size 5 v' (bvs (Lb (woD t ps) k x))/\Below w.heap.size w w'
def Zeq (t:List NodeD)(ps:List Int)(k:Nat):Prop:=∀(x:Nat) (v vp:Value) (w:World),TreeR w v t->Rd w vp (ivs .i64 ps)->IsLev x k->x+2^k<=t.length->
 Calls prog 76 #[v,rE rG (x:Nat),vp] w fun e w'=>∃v',e=rM v'/\Own w' w.heap.size 5 v' (bvs (Ff (woD t ps) k x))/\Below w.heap.size w w'
theorem NodeC.alloc {w:World} {d:NodeD} {c:Array Value}(h:NodeC w d c)(o:Obj):NodeC (w.alloc o) d c:=h.below ((Below.refl w.heap.size w).alloc lR o) lR
theorem Zbu (t:List NodeD)(ps:List Int)(p:Bc t=true)(a8:TreeOk t)(hp:Ax t=true):Zh t ps 0:=by
 intro x v vp w h aM aA hx;have aS:=Hh aA;have hx:x<t.length:=(by have:(2:Nat)^0=1:=rfl;omega);obtain⟨a,c,rfl,hc,bL⟩:=h.sl;obtain⟨b,bA,cs,rfl,bK,aL,aN⟩:=h.node hx;have bB:=Hd (show(nd t x).kind≠2 by have:=(Cu hp hx).1;rwa [Du aS]at this);have a7:=Bb p;obtain⟨n,hn⟩:=eX t.length;rw[<-hn]at hx hc a7|-;obtain⟨m,aK⟩:=eX (x/2);have hq:(x:Int)/2=(m:Int):=(by omega);have hm:(x:Int)%2=0:=(by omega);have aC:=Hd (fun(W:World) (X:Below w.heap.size w W)=>Uf vp ps (m:Int) W (aM.below X lR));have HT:=Hd (show Lb (woD t ps) 0 x=([1]++beN 4 m)++Bk (if(m:Int)∈ps then Ap else nd t x) by rw[Gk,Zit aS,aK]);have bC:=Hd (show NodeOk (nd t x)from a8.nd x);have aR:=Hd (Ct p x);obtain⟨a1,c1,a2,c2,a3,c3,a4,c4,a5,c5,b1,Q,b2,e2,b3,e3,aJ,-⟩:=id aL;obtain⟨kd,aT⟩:=eX ((nd t x).kind);obtain⟨l1,aU⟩:=eX ((nd t x).leaf.box.length);obtain⟨l2,aV⟩:=eX ((nd t x).leaf.sign.length);obtain⟨l3,aW⟩:=eX ((nd t x).leaf.ident.length);obtain⟨l4,aX⟩:=eX ((nd t x).leaf.par.length);obtain⟨l5,aY⟩:=eX ((nd t x).leaf.sig.length);obtain⟨l6,aZ⟩:=eX ((nd t x).par.box.length);obtain⟨l7,a0⟩:=eX ((nd t x).par.hash.length);obtain⟨l8,a6⟩:=eX ((nd t x).par.late.length);obtain⟨s,aB⟩:=eX ((nd t x).leaf.source);rw[<-aT,<-aU,<-aV,<-aW,<-aX,<-aY,<-aZ,<-a0,<-a6,<-aB]at aJ;have aP:=Hd aL;rw[aJ]at aN aP;have aQ:=Hd aN;have bI:x<40:=(by omega);have Z:=Hd (fun(W:World)=>(show Calls prog 64 #[rE rG 4,rE .u64 (m:Nat)] W fun e w'=>∃v,e=rM v/\Own w' W.heap.size 5 v (bvs (beN 4 m))/\Below W.heap.size W w' from Yj 4 m W (by omega) (by omega)));have bJ:=Hd aK;have bG:∃a c,vp=.slice a ps.length c:=(by obtain⟨a,c,e,_⟩:=aM;exact⟨a,c,by rw[e];simp[ivs]⟩);obtain⟨pa,pc,rfl⟩:=bG;obtain⟨pn,a9⟩:=eX ps.length;rw[<-a9]at aC|-;clear aL aN aJ aT aU aV aW aX aY aZ a0 a6 aB a8 hp p h aM aK hn aA a9;rw[HT.out];obtain⟨D,hD⟩:=eX ((if(m:Int)∈ps then Ap else nd t x));have aO:=Hd hD;rw[<-hD];clear hD;have bH:∀(j:World) (V:Array Value),Blk j w.heap.size 52 V->NodeC j D V->Below w.heap.size w j->NodeOk D->Cb D=true->D.kind≠2->True:=fun _ _ _ _ _ _ _ _=>trivial;clear bH;cases hmem:decide ((m:Int)∈ps)with
 |true=>
  have HA:=Hd (fun(W:World) (X:Below w.heap.size w W)=>by have:=aC.out W X;rw[hmem]at this;exact this);have S:D=Ap:=(by rw[aO.out,iP (oD hmem)]);have q:=Hd S;clear hmem S;go_in;go_wp2_with (refine wpList_load_mid rfl 52 (.tmp 14) rfl b (bA+x*10) rfl [rE rH (kd:Nat),rD a1 l1 c1,rD a2 l2 c2,rD a3 l3 c3,rE rH (s:Nat),rD a4 l4 c4,rD a5 l5 c5,rD b1 l6 Q,rD b2 l7 e2,rD b3 l8 e3] _ aQ.out underlying52 rfl Ai ?_);refine(HA.out _ (bR.alloc lR _)).mono ?_;rintro e w1 ⟨rfl,rfl⟩;go_wp2_with fail;have J:=Hd (show NodeC (w.alloc (rK #[rE rH 0,rD rJ 0 0,rD rJ 0 0,rD rJ 0 0,rE rH 0,rD rJ 0 0,rD rJ 0 0,rD rJ 0 0,rD rJ 0 0,rD rJ 0 0] 52)) D #[rE rH 0,rD rJ 0 0,rD rJ 0 0,rD rJ 0 0,rE rH 0,rD rJ 0 0,rD rJ 0 0,rD rJ 0 0,rD rJ 0 0,rD rJ 0 0]from by rw[q.out];exact Mm _);obtain⟨j,z⟩:=eX (w.alloc (rK #[rE rH 0,rD rJ 0 0,rD rJ 0 0,rD rJ 0 0,rE rH 0,rD rJ 0 0,rD rJ 0 0,rD rJ 0 0,rD rJ 0 0,rD rJ 0 0] 52));have H:=Hd (show Blk j w.heap.size 52 #[rE rH 0,rD rJ 0 0,rD rJ 0 0,rD rJ 0 0,rE rH 0,rD rJ 0 0,rD rJ 0 0,rD rJ 0 0,rD rJ 0 0,rD rJ 0 0] by rw[z];exact Blk.new w _ _);have I:=Hd (show Below w.heap.size w j by rw[z];exact bR.alloc lR _);rw[<-z]at J|-;obtain⟨V,L⟩:=eX ((#[rE rH 0,rD rJ 0 0,rD rJ 0 0,rD rJ 0 0,rE rH 0,rD rJ 0 0,rD rJ 0 0,rD rJ 0 0,rD rJ 0 0,rD rJ 0 0]:Array Value));rw[<-L]at J H;have aF:=Hd (show(prog.info? 52).map (·.size)=some V.size by rw[L];exact Ai);have O:=Hd (fun(W:World) (X:Below j.heap.size j W)=>Kw D V W (J.out.below X lR) (by rw[q.out];exact Gh) (by rw[q.out];exact Nl) (fun e=>absurd e (by rw[q.out];decide)));have E:=Cz (d:=D) (by rw[q.out];exact Nl);obtain⟨C,M⟩:=eX (Bk D);rw[<-M]at O E;have aG:=Hd M;have P:=Hd (show([1]++beN 4 m).length+C.length<1000000000 by rw[aD,beN_len];simp only[dB,bU];omega);clear z L E M;refine Cx [fun v w'=>Own w' j.heap.size 5 v (bvs [1]),eF (rE rG (x:Nat)),eF (rE rG (m:Nat)),eF (rE .u64 (m:Nat)),fun v w'=>Own w' j.heap.size 5 v (bvs (beN 4 m)),fun v w'=>Own w' j.heap.size 5 v (bvs ([1]++beN 4 m)),eF (.agg V),fun v w'=>Own w' j.heap.size 5 v (bvs C),fun v w'=>Own w' j.heap.size 5 v (bvs (([1]++beN 4 m)++C)),fun v w'=>Own w' j.heap.size 5 v (bvs (([1]++beN 4 m)++C))] (by kernel_rfl) (by kernel_rfl) (by kernel_rfl) (Ag (fun v x y h _ p=>Own.below h p lR) (kE (kE (kE (Ag (fun v x y h _ p=>Own.below h p lR) (Ag (fun v x y h _ p=>Own.below h p lR) (kE (Ag (fun v x y h _ p=>Own.below h p lR) (Ag (fun v x y h _ p=>Own.below h p lR) (Ag (fun v x y h _ p=>Own.below h p lR) (Ae))))))))))) ?_ ?_
  ·refine gB ?_ (gQ ?_ (gB ?_ (gQ ?_ (gB ?_ (gB ?_ (gB ?_ (gB ?_ (gB ?_ (gB ?_ .nil)))))))));all_goals
    intro a A l ho N;refine⟨rfl,?_⟩;intro K r;try have P1:a.tmps[1]?.getD undef=rE rG (x:Nat):=ho 1 (by kernel_rfl)
    try have P7:a.tmps[7]?.getD undef=rF (some ⟨w.heap.size,0,rJ⟩):=ho 7 (by kernel_rfl)
    try have E0:=eqn N.1
    try have D0:IntKind.u64.wrap ((m:Int))=(m:Int):=by rw[IntKind.wrap_u64];omega
    try(refine Hd ?_;go_simp;exact r _ rfl)
   ·
    go_simp;exact r _ _ (Own.full (B:=j.heap.size) (cs:=#[rE rH 1]) rfl (l.size) (by unfold maxLen;simp) rfl) (bR.alloc lR _)
   ·have bD:(x:Int)/2=(m:Int):=hq;have R:IntKind.i64.wrap ((m:Int))=(m:Int):=(by rw[IntKind.wrap_i64];omega);have aH:(x:Int)/2=(m:Int):=(by omega);have bE:IntKind.i64.wrap ((x:Int)/2)=(m:Int):=(by rw[aH];exact R);have aI:fR ((x:Int)) 2=(m:Int):=(by rw[fS (by omega)];omega);have bF:IntKind.i64.wrap (fR ((x:Int)) 2)=(m:Int):=(by rw[aI];exact R);go_simp;exact r _ _ rfl bR
   ·go_simp;refine(Z.out A).mono ?_;rintro e w2 ⟨v9,rfl,g,k⟩;exact r _ _ (g.mono l.size) k
   ·have G:Own A j.heap.size 5 (a.tmps[24]?.getD undef) (bvs [1]):=N.1;obtain⟨Y,i⟩:=eX (a.tmps[24]?.getD undef);rw[<-i]at G;have e0:=i.symm;clear i;have U:Own A j.heap.size 5 (a.tmps[28]?.getD undef) (bvs (beN 4 m)):=N.2.1;obtain⟨v1,o⟩:=eX (a.tmps[28]?.getD undef);rw[<-o]at U;have Q:=o.symm;clear o;go_simp;refine(Dw Y v1 [1] (beN 4 m) A G.rd U.rd (by rw[beN_len];simp)).mono ?_;rintro e w2 ⟨v9,rfl,g,k⟩;exact r _ _ (g.mono l.size) k
   ·exact wp_load_row 52 (.tmp 7) rfl _ (evs P7) _ _ (0,0) _ (H.out.below l H.out.lt) underlying52 rfl (aF.out) (r _ _ rfl bR)
   ·go_simp;refine(O.out A l).mono ?_;rintro e w2 ⟨v9,rfl,g,k⟩;exact r _ _ (g.mono l.size) k
   ·have G:Own A j.heap.size 5 (a.tmps[29]?.getD undef) (bvs ([1]++beN 4 m)):=N.1;obtain⟨Y,i⟩:=eX (a.tmps[29]?.getD undef);rw[<-i]at G;have e0:=i.symm;clear i;have U:Own A j.heap.size 5 (a.tmps[31]?.getD undef) (bvs C):=N.2.1;obtain⟨v1,o⟩:=eX (a.tmps[31]?.getD undef);rw[<-o]at U;have Q:=o.symm;clear o;go_simp;refine(Dw Y v1 ([1]++beN 4 m) C A G.rd U.rd P.out).mono ?_;rintro e w2 ⟨v9,rfl,g,k⟩;exact r _ _ (g.mono l.size) k
   ·have G:Own A j.heap.size 5 (a.tmps[32]?.getD undef) (bvs (([1]++beN 4 m)++C)):=N.1;obtain⟨Y,i⟩:=eX (a.tmps[32]?.getD undef);rw[<-i]at G;have e0:=i.symm;clear i;go_simp;exact r _ _ G bR
  ·rintro f w9 u F;have u:Below j.heap.size j w9:=u;have S6:Own w9 j.heap.size 5 (f 6) (bvs (([1]++beN 4 m)++C)):=F.2.2.2.2.2.2.2.2.2.1;clear F;simp only[Ak,At,Ei,dG,dH,dJ,dK,Nat.reduceBEq,Nat.reduceAdd,Bool.or_false,Bool.or_true,cond_true,cond_false];obtain⟨u6,T⟩:=eX (f 6);rw[<-T]at S6|-;clear T;have HO:=Hd S6;have aE:=Hd u;clear S6 u;go_wp2_with fail;go_ret;exact⟨_,rfl,by have:=HO.out.mono I.out.size;rw[aG.out]at this;exact this,I.out.trans (aE.out.mono I.out.size)⟩
 |false=>
  have HA:=Hd (fun(W:World) (X:Below w.heap.size w W)=>by have:=aC.out W X;rw[hmem]at this;exact this);have S:D=nd t x:=(by rw[aO.out,iN (of_decide_eq_false hmem)]);have q:=Hd S;clear hmem S;go_in;go_wp2_with (refine wpList_load_mid rfl 52 (.tmp 14) rfl b (bA+x*10) rfl [rE rH (kd:Nat),rD a1 l1 c1,rD a2 l2 c2,rD a3 l3 c3,rE rH (s:Nat),rD a4 l4 c4,rD a5 l5 c5,rD b1 l6 Q,rD b2 l7 e2,rD b3 l8 e3] _ aQ.out underlying52 rfl Ai ?_);refine(HA.out _ (bR.alloc lR _)).mono ?_;rintro e w1 ⟨rfl,rfl⟩;go_wp2_with fail;have J:=Hd (show NodeC (w.alloc (rK #[rE rH (kd:Nat),rD a1 l1 c1,rD a2 l2 c2,rD a3 l3 c3,rE rH (s:Nat),rD a4 l4 c4,rD a5 l5 c5,rD b1 l6 Q,rD b2 l7 e2,rD b3 l8 e3] 52)) D #[rE rH (kd:Nat),rD a1 l1 c1,rD a2 l2 c2,rD a3 l3 c3,rE rH (s:Nat),rD a4 l4 c4,rD a5 l5 c5,rD b1 l6 Q,rD b2 l7 e2,rD b3 l8 e3]from by rw[q.out];exact aP.out.alloc _);obtain⟨j,z⟩:=eX (w.alloc (rK #[rE rH (kd:Nat),rD a1 l1 c1,rD a2 l2 c2,rD a3 l3 c3,rE rH (s:Nat),rD a4 l4 c4,rD a5 l5 c5,rD b1 l6 Q,rD b2 l7 e2,rD b3 l8 e3] 52));have H:=Hd (show Blk j w.heap.size 52 #[rE rH (kd:Nat),rD a1 l1 c1,rD a2 l2 c2,rD a3 l3 c3,rE rH (s:Nat),rD a4 l4 c4,rD a5 l5 c5,rD b1 l6 Q,rD b2 l7 e2,rD b3 l8 e3] by rw[z];exact Blk.new w _ _);have I:=Hd (show Below w.heap.size w j by rw[z];exact bR.alloc lR _);rw[<-z]at J|-;obtain⟨V,L⟩:=eX ((#[rE rH (kd:Nat),rD a1 l1 c1,rD a2 l2 c2,rD a3 l3 c3,rE rH (s:Nat),rD a4 l4 c4,rD a5 l5 c5,rD b1 l6 Q,rD b2 l7 e2,rD b3 l8 e3]:Array Value));rw[<-L]at J H;have aF:=Hd (show(prog.info? 52).map (·.size)=some V.size by rw[L];exact Ai);have O:=Hd (fun(W:World) (X:Below j.heap.size j W)=>Kw D V W (J.out.below X lR) (by rw[q.out];exact bC.out) (by rw[q.out];exact aR.out) (fun e=>absurd e (by rw[q.out];exact bB.out)));have E:=Cz (d:=D) (by rw[q.out];exact aR.out);obtain⟨C,M⟩:=eX (Bk D);rw[<-M]at O E;have aG:=Hd M;have P:=Hd (show([1]++beN 4 m).length+C.length<1000000000 by rw[aD,beN_len];simp only[dB,bU];omega);clear z L E M;refine Cx [fun v w'=>Own w' j.heap.size 5 v (bvs [1]),eF (rE rG (x:Nat)),eF (rE rG (m:Nat)),eF (rE .u64 (m:Nat)),fun v w'=>Own w' j.heap.size 5 v (bvs (beN 4 m)),fun v w'=>Own w' j.heap.size 5 v (bvs ([1]++beN 4 m)),eF (.agg V),fun v w'=>Own w' j.heap.size 5 v (bvs C),fun v w'=>Own w' j.heap.size 5 v (bvs (([1]++beN 4 m)++C)),fun v w'=>Own w' j.heap.size 5 v (bvs (([1]++beN 4 m)++C))] (by kernel_rfl) (by kernel_rfl) (by kernel_rfl) (Ag (fun v x y h _ p=>Own.below h p lR) (kE (kE (kE (Ag (fun v x y h _ p=>Own.below h p lR) (Ag (fun v x y h _ p=>Own.below h p lR) (kE (Ag (fun v x y h _ p=>Own.below h p lR) (Ag (fun v x y h _ p=>Own.below h p lR) (Ag (fun v x y h _ p=>Own.below h p lR) (Ae))))))))))) ?_ ?_
  ·refine gB ?_ (gQ ?_ (gB ?_ (gQ ?_ (gB ?_ (gB ?_ (gB ?_ (gB ?_ (gB ?_ (gB ?_ .nil)))))))));all_goals
    intro a A l ho N;refine⟨rfl,?_⟩;intro K r;try have P1:a.tmps[1]?.getD undef=rE rG (x:Nat):=ho 1 (by kernel_rfl)
    try have P7:a.tmps[7]?.getD undef=rF (some ⟨w.heap.size,0,rJ⟩):=ho 7 (by kernel_rfl)
    try have E0:=eqn N.1
    try have D0:IntKind.u64.wrap ((m:Int))=(m:Int):=by rw[IntKind.wrap_u64];omega
    try(refine Hd ?_;go_simp;exact r _ rfl)
   ·
    go_simp;exact r _ _ (Own.full (B:=j.heap.size) (cs:=#[rE rH 1]) rfl (l.size) (by unfold maxLen;simp) rfl) (bR.alloc lR _)
   ·have bD:(x:Int)/2=(m:Int):=hq;have R:IntKind.i64.wrap ((m:Int))=(m:Int):=(by rw[IntKind.wrap_i64];omega);have aH:(x:Int)/2=(m:Int):=(by omega);have bE:IntKind.i64.wrap ((x:Int)/2)=(m:Int):=(by rw[aH];exact R);have aI:fR ((x:Int)) 2=(m:Int):=(by rw[fS (by omega)];omega);have bF:IntKind.i64.wrap (fR ((x:Int)) 2)=(m:Int):=(by rw[aI];exact R);go_simp;exact r _ _ rfl bR
   ·go_simp;refine(Z.out A).mono ?_;rintro e w2 ⟨v9,rfl,g,k⟩;exact r _ _ (g.mono l.size) k
   ·have G:Own A j.heap.size 5 (a.tmps[24]?.getD undef) (bvs [1]):=N.1;obtain⟨Y,i⟩:=eX (a.tmps[24]?.getD undef);rw[<-i]at G;have e0:=i.symm;clear i;have U:Own A j.heap.size 5 (a.tmps[28]?.getD undef) (bvs (beN 4 m)):=N.2.1;obtain⟨v1,o⟩:=eX (a.tmps[28]?.getD undef);rw[<-o]at U;have Q:=o.symm;clear o;go_simp;refine(Dw Y v1 [1] (beN 4 m) A G.rd U.rd (by rw[beN_len];simp)).mono ?_;rintro e w2 ⟨v9,rfl,g,k⟩;exact r _ _ (g.mono l.size) k
   ·exact wp_load_row 52 (.tmp 7) rfl _ (evs P7) _ _ (0,0) _ (H.out.below l H.out.lt) underlying52 rfl (aF.out) (r _ _ rfl bR)
   ·go_simp;refine(O.out A l).mono ?_;rintro e w2 ⟨v9,rfl,g,k⟩;exact r _ _ (g.mono l.size) k
   ·have G:Own A j.heap.size 5 (a.tmps[29]?.getD undef) (bvs ([1]++beN 4 m)):=N.1;obtain⟨Y,i⟩:=eX (a.tmps[29]?.getD undef);rw[<-i]at G;have e0:=i.symm;clear i;have U:Own A j.heap.size 5 (a.tmps[31]?.getD undef) (bvs C):=N.2.1;obtain⟨v1,o⟩:=eX (a.tmps[31]?.getD undef);rw[<-o]at U;have Q:=o.symm;clear o;go_simp;refine(Dw Y v1 ([1]++beN 4 m) C A G.rd U.rd P.out).mono ?_;rintro e w2 ⟨v9,rfl,g,k⟩;exact r _ _ (g.mono l.size) k
   ·have G:Own A j.heap.size 5 (a.tmps[32]?.getD undef) (bvs (([1]++beN 4 m)++C)):=N.1;obtain⟨Y,i⟩:=eX (a.tmps[32]?.getD undef);rw[<-i]at G;have e0:=i.symm;clear i;go_simp;exact r _ _ G bR
  ·rintro f w9 u F;have u:Below j.heap.size j w9:=u;have S6:Own w9 j.heap.size 5 (f 6) (bvs (([1]++beN 4 m)++C)):=F.2.2.2.2.2.2.2.2.2.1;clear F;simp only[Ak,At,Ei,dG,dH,dJ,dK,Nat.reduceBEq,Nat.reduceAdd,Bool.or_false,Bool.or_true,cond_true,cond_false];obtain⟨u6,T⟩:=eX (f 6);rw[<-T]at S6|-;clear T;have HO:=Hd S6;have aE:=Hd u;clear S6 u;go_wp2_with fail;go_ret;exact⟨_,rfl,by have:=HO.out.mono I.out.size;rw[aG.out]at this;exact this,I.out.trans (aE.out.mono I.out.size)⟩
def Rv (ps:List Int)(u:Int):Bool:=decide (u∉ps)
theorem Zer {ps:List Int} {u:Int}(h:u∉ps):Rv ps u=true:=dT h
theorem Ziu {ps:List Int} {u:Int}(h:u∈ps):¬Rv ps u=true:=by unfold Rv;simp[h]
theorem Mb (L:List Int)(p:Int->Bool) {i:Nat}(h:i<L.length):(L.take (i+1)).filter p=(L.take i).filter p++(if p (L.getD i 0)=true then [L.getD i 0]else []):=by
 rw[List.take_succ_eq_append_getElem h,List.filter_append]
 congr 1
 rw[aE,aF h,List.filter_cons];simp
theorem Zbv (t:List NodeD)(g:List Int)(hs:Bc t=true)(cG:TreeOk t)(hp:Ax t=true)(k:Nat)(IH:Zeq t g k):Zh t g (k+1):=by
 intro x v vp w h K z hx;have A:=Fn z;have cD:=Bb hs;have dI:2^(k+1)=2*2^k:=(by rw[Nat.pow_succ];omega);have dH:0<2^k:=Nat.pos_of_ne_zero (by simp);have cL:x<t.length:=(by omega);obtain⟨cA,cB,aI,aJ,dG⟩:=kids_lev (by omega) z;have KD:=fun(W:World)=>Mo (x:Int) W;rw[cA,cB]at KD;obtain⟨a,c,rfl,hc,dP⟩:=h.sl;obtain⟨b,dK,cs,rfl,dO,cF,bH⟩:=h.node cL;have HL:=Hd (fun(W:World) (f:Below w.heap.size w W)=>IH (x-2^k) _ vp W (h.below f lR) (K.below f lR) aI (by omega));have HR:=Hd (fun(W:World) (f:Below w.heap.size w W)=>IH (x+2^k) _ vp W (h.below f lR) (K.below f lR) aJ (by omega));obtain⟨n,hn⟩:=eX t.length;rw[<-hn]at HL HR hc cD cL|-;have b9:(nd t x).kind≠1:=(by have:=(Cu hp (x:=x) (by omega)).1;rwa [Gi A]at this);have cH:=(Cu hp (x:=x) (by omega)).2;have aX:∀u∈(woD t g x).par.late,0<=u/\u<65536:=by
  rw[Wu A];intro u hu;exact Fu (De cH) u (List.mem_filter.1 hu).1
 have aY:NodeOk (woD t g x):=by
  have:=cG.nd x;rw[Wu A];exact⟨this.kind,this.source,this.box,this.sign,this.ident,this.par,this.sig,this.pbox,this.hash,fun u hu=>this.late u (List.mem_filter.1 hu).1⟩
 have T:=Nr hs g x;have HT:=Hd (Gl (woD t g) k x);obtain⟨H1,Q⟩:=eX (Ff (woD t g) k (x-2^k));obtain⟨H2,R⟩:=eX (Ff (woD t g) k (x+2^k));have aG:H1.length=32:=(by rw[Q];exact Dn _ _ _);have aH:H2.length=32:=(by rw[R];exact Dn _ _ _);rw[<-Q,<-R]at HT;rw[<-Q]at HL;rw[<-R]at HR;obtain⟨xl,cJ⟩:=eX (x-2^k);obtain⟨xr,cK⟩:=eX (x+2^k);rw[<-cJ]at HL KD;rw[<-cK]at HR KD;have cQ:=Hd KD;obtain⟨D,hD⟩:=eX (woD t g x);have aW:D=⟨(nd t x).kind,(nd t x).leaf,⟨(nd t x).par.box,(nd t x).par.hash,(nd t x).par.late.filter (Rv g)⟩⟩:=(by rw[hD,Wu A];rfl);rw[<-hD]at HT aX aY T;rw[HT.out];have y:=Cz T;have hm:(x:Int)%2=1:=(by omega);obtain⟨a1,c1,a2,c2,a3,c3,a4,c4,a5,c5,b1,e1,b2,e2,b3,e3,Z,h1,h2,h3,h4,h5,h6,h7,h8⟩:=id cF
 -- the late ones
 obtain⟨m,S⟩:=eX ((nd t x).par.late);have b0:m.length<=60:=(by have:=oD (Ee hs x);rw[S];omega);rw[<-S]at h8 aW
 -- behind the loop the node's cells are those of D
 have aK:=fun(W:World) (z1:Option Addr) (z2 z3:Nat) (f:Below w.heap.size w W) (hz:Rd W (rD z1 z2 z3) (ivs .i64 (m.filter (Rv g))))=>
  (show NodeC W D #[rE rH ((nd t x).kind:Nat),.slice a1 (nd t x).leaf.box.length c1,.slice a2 (nd t x).leaf.sign.length c2,.slice a3 (nd t x).leaf.ident.length c3,rE rH ((nd t x).leaf.source:Nat),.slice a4 (nd t x).leaf.par.length c4,.slice a5 (nd t x).leaf.sig.length c5,.slice b1 (nd t x).par.box.length e1,.slice b2 (nd t x).par.hash.length e2,rD z1 z2 z3] by
   have dC:z2=(m.filter (Rv g)).length:=by
    obtain⟨_,_,e,_⟩:=hz;simp only[Value.slice.injEq]at e;rw[e.2.1];simp[ivs]
   subst dC;rw[aW];exact⟨a1,c1,a2,c2,a3,c3,a4,c4,a5,c5,b1,e1,b2,e2,z1,z3,rfl,h1.below f lR,h2.below f lR,h3.below f lR,h4.below f lR,h5.below f lR,h6.below f lR,h7.below f lR,hz⟩)
 obtain⟨kd,a9⟩:=eX ((nd t x).kind);obtain⟨l1,bA⟩:=eX ((nd t x).leaf.box.length);obtain⟨l2,bB⟩:=eX ((nd t x).leaf.sign.length);obtain⟨l3,bC⟩:=eX ((nd t x).leaf.ident.length);obtain⟨l4,bD⟩:=eX ((nd t x).leaf.par.length);obtain⟨l5,bE⟩:=eX ((nd t x).leaf.sig.length);obtain⟨l6,bF⟩:=eX ((nd t x).par.box.length);obtain⟨l7,bG⟩:=eX ((nd t x).par.hash.length);obtain⟨o,aA⟩:=eX m.length;obtain⟨s,L⟩:=eX ((nd t x).leaf.source);rw[<-S]at Z;rw[<-aA]at h8;rw[<-a9,<-bA,<-bB,<-bC,<-bD,<-bE,<-bF,<-bG,<-aA,<-L]at Z;rw[<-a9,<-bA,<-bB,<-bC,<-bD,<-bE,<-bF,<-bG,<-L]at aK;have bL:=Hd aK;have dM:o<=60:=(by omega);rw[Z]at bH;have c9:=Hd bH;have cM:=Hd (fun(u:Int) (W:World) (f:Below w.heap.size w W)=>Uf vp g u W (K.below f lR));have cT:=Hd h8;have aQ:=Hd aA;have bK:=Hd (fun(CS:Array Value) (W:World) (f:NodeC W D CS)=>Kw D CS W f aY T (fun _=>aX));obtain⟨NB,b5⟩:=eX (Bk D);rw[<-b5]at bK y|-;have aF:=Hd y;have aO:=Hd aG;have aP:=Hd aH;obtain⟨dS,cC⟩:∃l,l<=e3/\l=o:=⟨o,by have:=(Gg h8).1;exact this,rfl⟩;have dN:o<=e3:=(Gg h8).1;have dQ:e3<=9223372036854775807:=(Gg h8).2;obtain⟨pa,pn,pc,rfl⟩:∃a n c,vp=.slice a n c:=(by obtain⟨a,c,e,_⟩:=K;exact⟨_,_,_,e⟩);clear cC aK cF h1 h2 h3 h4 h5 h6 h7 h8 Z bH a9 bA bB bC bD bE bF bG aA L S aW hD b5 y Q R aG aH cJ cK KD K h cG hs hp hn IH z hx dI dH cA cB aI aJ dG b9 cH aX aY T A b0;go_in;go_wp2_with (refine wpList_load_mid rfl 52 (.tmp 14) rfl b (dK+x*10) rfl [rE rH (kd:Nat),rD a1 l1 c1,rD a2 l2 c2,rD a3 l3 c3,rE rH (s:Nat),rD a4 l4 c4,rD a5 l5 c5,rD b1 l6 e1,rD b2 l7 e2,rD b3 o e3] _ c9.out underlying52 rfl Ai ?_);obtain⟨wz,aB⟩:=eX (w.alloc (rK #[rE rH (kd:Nat),rD a1 l1 c1,rD a2 l2 c2,rD a3 l3 c3,rE rH (s:Nat),rD a4 l4 c4,rD a5 l5 c5,rD b1 l6 e1,rD b2 l7 e2,rD b3 o e3] 52));have O:=Hd (show Blk wz w.heap.size 52 #[rE rH (kd:Nat),rD a1 l1 c1,rD a2 l2 c2,rD a3 l3 c3,rE rH (s:Nat),rD a4 l4 c4,rD a5 l5 c5,rD b1 l6 e1,rD b2 l7 e2,rD b3 o e3] by rw[aB];exact Blk.new w _ _);have bJ:=Hd (show Below w.heap.size w wz by rw[aB];exact bR.alloc lR _);have M:w.heap.size<wz.heap.size:=O.out.lt;rw[<-aB];clear aB
 go_loopg [8,9] o (fun q lv iv wr=>∃i:Nat,i+q=o/\iv=rE rG (i:Nat)/\Own wr wz.heap.size 3 lv (ivs .i64 ((m.take i).filter (Rv g)))/\Below wz.heap.size wz wr)
 case atStart=>exact⟨0,by omega,rfl,Own.nil _ _ _,bR⟩
 case round=>
  obtain⟨i,hi,rfl,d,U⟩:=hrel;have HI:=Hd hi;have HO:=Hd d;have HB:=Hd U;have aM:=Hd (bJ.out.trans (U.mono bJ.out.size));obtain⟨v1,v2,v3,rfl⟩:=Dr d;have k9:wr.cell? ⟨w.heap.size,9,rJ⟩=some (rD b3 o e3):=(O.out.below U M).cell 9;have dJ:w.heap.size<wr.heap.size:=Nat.lt_of_lt_of_le M U.size
  by_cases hlt:i<o
  ·have cE:decide (i<o)=true:=dT hlt;have dR:(i:Int)<(o:Int):=(by omega);obtain⟨lb,lo,dD,dL,a8⟩:=(cT.out.below aM.out lR).at3 (r:=i) (u:=rE rG (m.getD i 0)) (by simp[ivs,aE,show i<m.length by have:=aQ.out;omega]);have aN:=Hd (Mb m (Rv g) (show i<m.length by have:=aQ.out;omega));obtain⟨u,hu⟩:=eX (m.getD i 0);rw[<-hu]at a8 aN;subst dD;have HA:=cM.out u wr aM.out;cases hmem:decide (u∈g)with
   |true=>
    rw[hmem]at HA;have aL:=Hd HA;have HM:=Hd (oD hmem);clear hi d U hu HA hmem;go_wp2_with fail;refine(aL.out).mono ?_;rintro e w1 ⟨rfl,rfl⟩;go_wp2_with fail;go_roundg (gk-1);case measure=>have:=HI.out;omega
    case rel=>
     refine⟨i+1,by have:=HI.out;omega,by go_num,?_,HB.out⟩;rw[aN.out,iN (Ziu HM.out),List.append_nil];exact HO.out
   |false=>
    rw[hmem]at HA;have aL:=Hd HA;have HM:=Hd (of_decide_eq_false hmem);clear hi d U hu HA hmem;go_wp2_with fail;refine(aL.out).mono ?_;rintro e w1 ⟨rfl,rfl⟩;go_wp2_with (at_builtin;refine Bq rfl (.tmp 50) (.tmp 57) 48 rfl wz.heap.size 3 _ 8 He _ _ rfl (HO.out.alloc _) ⟨w1.heap.size,0,rJ⟩ (rE rG u) rfl ?c1 rfl ?c2 ?c3 ?_);case c1=>exact Bi rfl
    case c2=>have:=fQ (Rv g) (m.take i);have h2:=List.length_take_le i m;rw[Wm];omega
    case c3=>have:=HB.out.size;simp;omega
    rintro v' w2 j dE b6;clear dE;have cU:=Hd j;have cN:=Hd ((HB.out.alloc HB.out.size (rK #[rE rG u] 3)).trans b6);obtain⟨y1,y2,y3,rfl⟩:=Dr j;clear j b6;go_wp2_with fail;go_roundg (gk-1);case measure=>have:=HI.out;omega
    case rel=>
     refine⟨i+1,by have:=HI.out;omega,by go_num,?_,cN.out⟩;rw[aN.out,iP (Zer HM.out),Mr];exact cU.out
  ·obtain rfl:i=o:=(by omega);have cE:decide (i<i)=false:=dF hlt;have b4:m.take i=m:=List.take_of_length_le (by have:=aQ.out;omega);rw[b4]at HO;have kf:wr.frozen? ⟨w.heap.size,9,rJ⟩=false:=(O.out.below U M).frozen 9;have N:=Hd ((O.out.below U M).set 9 (rD v1 v2 v3));clear hi d U hlt b4;have P:=Hd (show Below w.heap.size w (wr.setCell ⟨w.heap.size,9,rJ⟩ (rD v1 v2 v3))from aM.out.setCell (p:=⟨w.heap.size,9,rJ⟩) lR _);have aR:=Hd (HO.out.setLow (p:=⟨w.heap.size,9,rJ⟩) M (rD v1 v2 v3));obtain⟨ws,bI⟩:=eX (wr.setCell ⟨w.heap.size,9,rJ⟩ (rD v1 v2 v3));rw[<-bI]at N P aR;have aC:=Hd (show Blk ws w.heap.size 52 #[rE rH (kd:Nat),rD a1 l1 c1,rD a2 l2 c2,rD a3 l3 c3,rE rH (s:Nat),rD a4 l4 c4,rD a5 l5 c5,rD b1 l6 e1,rD b2 l7 e2,rD v1 v2 v3]from N.out);have cI:w.heap.size<ws.heap.size:=N.out.lt;clear N HO;go_wp2_with fail;rw[<-bI];clear bI k9 kf dJ;refine(cQ.out _).mono ?_;rintro e w2 ⟨rfl,V⟩;have cO:=Hd (aC.out.below V cI);have bV:=Hd (P.out.trans (V.mono P.out.size));have cV:=Hd ((aR.out.below V lR).rd);have cR:=Hd (show Rd (w2.alloc (rK #[rE rH 2] 5)) (rD (some ⟨w2.heap.size,0,rJ⟩) 1 1) (bvs [2])from Rd.lit _ _ _ _ _ rfl rfl (by unfold maxLen;simp));have aS:=Hd (bV.out.alloc bV.out.size (rK #[rE rH 2] 5));have cP:=Hd (bL.out (w2.alloc (rK #[rE rH 2] 5)) v1 v2 v3 aS.out (cV.out.alloc _));clear V aR aC P;go_wp2_with (refine wpList_load_row rfl 52 (.tmp 7) rfl w.heap.size rfl 52 #[rE rH (kd:Nat),rD a1 l1 c1,rD a2 l2 c2,rD a3 l3 c3,rE rH (s:Nat),rD a4 l4 c4,rD a5 l5 c5,rD b1 l6 e1,rD b2 l7 e2,rD v1 v2 v3] (0,0) _ (cO.out.alloc _) underlying52 rfl Ai ?_);refine(bK.out _ _ cP.out).mono ?_;rintro e w4 ⟨u4,rfl,B,aZ⟩;have bW:=Hd (aS.out.trans (aZ.mono aS.out.size));have bM:=Hd B.rd;have cS:=Hd (cR.out.below aZ lR);clear B aZ;obtain⟨x1,x2,x3,rfl⟩:=rdS bM.out;go_wp2_with fail;refine(Dw _ _ [2] NB w4 cS.out bM.out (by have:=aF.out;simp only[dB,bU];omega)).mono ?_;rintro e w5 ⟨u5,rfl,C,b7⟩;have aT:=Hd (bW.out.trans (b7.mono bW.out.size));have bN:=Hd C.rd;clear C b7;obtain⟨x4,x5,x6,rfl⟩:=rdS bN.out;go_wp2_with fail;refine(HL.out w5 aT.out).mono ?_;rintro e w6 ⟨u6,rfl,E,a0⟩;have bX:=Hd (aT.out.trans (a0.mono aT.out.size));have bO:=Hd E.rd;have cX:=Hd (bN.out.below a0 lR);clear E a0;obtain⟨x7,x8,x9,rfl⟩:=rdS bO.out;go_wp2_with fail;refine(Ea _ H1 w6 bO.out (by have:=aO.out;omega)).mono ?_;rintro e w7 ⟨u7,rfl,F,a6⟩;have aU:=Hd (bX.out.trans (a6.mono bX.out.size));have bP:=Hd F.rd;have cY:=Hd (cX.out.below a6 lR);clear F a6;obtain⟨y1,y2,y3,rfl⟩:=rdS bP.out;go_wp2_with fail;refine(HR.out w7 aU.out).mono ?_;rintro e w8 ⟨u8,rfl,G,X⟩;have bY:=Hd (aU.out.trans (X.mono aU.out.size));have bQ:=Hd G.rd;have c7:=Hd (bP.out.below X lR);have cZ:=Hd (cY.out.below X lR);clear G X;obtain⟨y4,y5,y6,rfl⟩:=rdS bQ.out;go_wp2_with fail;refine(Ea _ H2 w8 bQ.out (by have:=aP.out;omega)).mono ?_;rintro e w9 ⟨u9,rfl,H,Y⟩;have bZ:=Hd (bY.out.trans (Y.mono bY.out.size));have bS:=Hd H.rd;have c8:=Hd (c7.out.below Y lR);have c0:=Hd (cZ.out.below Y lR);clear H Y;obtain⟨y7,y8,y9,rfl⟩:=rdS bS.out;go_wp2_with fail;refine(Dw _ _ (Ba H1) (Ba H2) w9 c8.out bS.out (by have:=Py aO.out;have:=Py aP.out;omega)).mono ?_;rintro e wA ⟨uA,rfl,I,a7⟩;have aV:=Hd (bZ.out.trans (a7.mono bZ.out.size));have bT:=Hd I.rd;have c6:=Hd (c0.out.below a7 lR);clear I a7;obtain⟨z1,z2,z3,rfl⟩:=rdS bT.out;go_wp2_with fail;refine(Dw _ _ ([2]++NB) (Ba H1++Ba H2) wA c6.out bT.out (by have:=Py aO.out;have:=Py aP.out;have:=aF.out;simp only[aD,dB,bU];omega)).mono ?_;rintro e wB ⟨uB,rfl,J,b8⟩;have dA:=Hd (aV.out.trans (b8.mono aV.out.size));have cW:=Hd (J.mono aV.out.size);clear J b8;go_wp2_with fail;go_ret;exact⟨_,rfl,cW.out,dA.out⟩
end Go.Proofs.YtfofaiommeckbaaGreat
namespace Go.Proofs.YtfofaiommeckbaaGreat
open Go.RowKit
