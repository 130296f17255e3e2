/- 'append(s, make([]T, k)...)' on a slice that the call owns. -/
import Derived.Test.YtfofaiommeckbaaGreatZSliceSoundB
import Derived.Lib.AppendZerosOnto
import Derived.Test.YtfofaiommeckbaaGreatZSliceSound24
open Nat renaming mul_one → fB, mul_le_mul_left → aC, zero_add → cY
open List renaming length_append → aI, size_toArray → fA, take_left → fC
set_option linter.unusedVariables false
set_option maxRecDepth 100000
set_option maxHeartbeats 40000000
namespace Go.Proofs.YtfofaiommeckbaaGreat
open Go.RowKit
theorem Rg {P:Program} {w:World} (t H ty e:TypeId) (z:Value) (d:Nat) (F:Elem P t e z d) (K:IntKind) (q:P.underlying H=some (.int K)) {B:Nat} (v:Value) (xs:List Value) (n:Own w B e v xs)
  (k:Nat) (hk:0<k) (M:z.cells.size=1) (h1:∀u∈(Builtin.zeroCells z.cells k).toList,u.oneCell'=true) (hn:xs.length+k<1099511627776) (V:B≤w.heap.size):
  ∃v' w',(Builtin.append_ #[t,H] ty #[v,.int .i64 (k:Nat)]).run P w=.ok v' w'∧Own w' B e v' (xs++(Builtin.zeroCells z.cells k).toList)∧w.grownBy w' v.ownBlock:=by
 obtain⟨i,Q,R,G,l⟩:=info_parts F.inf;have low:=F.low;have L:=F.ty;have b:∀k,(Builtin.zeroCells z.cells k).size=k:=fun k=>(by rw[size_zeroCells,M,fB]);have E:(Builtin.zeroCells z.cells k).toList.length=k:=(Array.length_toList (xs:=Builtin.zeroCells z.cells k)).trans (b k);have T:(xs.length+k)*d≤(xs.length+k)*64:=aC _ low;have S:k*d≤k*64:=aC _ low;have a:(xs++(Builtin.zeroCells z.cells k).toList).length=xs.length+k:=(by rw[aI,E]);have grown:∀(c:Nat),c<xs.length+k→∀(row:Option Nat),
   Own (w.drew.alloc (.cells (xs.toArray++Builtin.zeroCells z.cells k++Builtin.zeroCells z.cells (grownCap w (xs.length+k) c e-(xs.length+k))) e)) B e
    (.slice (some ⟨w.heap.size,0,none⟩) (xs.length+k) (grownCap w (xs.length+k) c e)) (xs++(Builtin.zeroCells z.cells k).toList)∧
   w.grownBy (w.drew.alloc (.cells (xs.toArray++Builtin.zeroCells z.cells k++Builtin.zeroCells z.cells (grownCap w (xs.length+k) c e-(xs.length+k))) e)) row:=by
  intro c ho row;have O:=grownCap_ge w (xs.length+k) c e;have r:grownCap w (xs.length+k) c e≤maxLen:=grownCap_le_maxLen w (xs.length+k) c e (by unfold maxLen;omega);refine⟨⟨by simp,.inr ⟨w.heap.size,_,_,by rw[a],V,heap_alloc_new w.drew _,by rw[a];exact O,r,?_,?_⟩⟩,⟨rfl,rfl,rfl,by simp,fun j Y _=>heap_alloc_old w.drew _ Y⟩⟩
  ·simp only[Array.size_append,fA,b];omega
  ·rw[a,fB];simp only[Array.toList_append];rw[←a];exact fC
 have o:=n;obtain⟨hl,Z⟩:=o;rcases Z with⟨rfl,h0⟩|⟨g,s,m,rfl,J,U,aA,r,X,h⟩
 ·have hx:xs=[]:=List.eq_nil_of_length_eq_zero (by omega);subst hx;have I:=Lib.run_append_nil_zeros (P:=P) w t H ty e i z .i64 K L q Q R k hk (by omega) (by omega) (by rw[l];omega);have f:=grown 0 (by omega) (Value.ownBlock (.slice none 0 0));simp only[List.length_nil,cY,List.nil_append]at f⊢;exact⟨_,_,I,by simpa using f.1,by simpa using f.2⟩
 ·by_cases hroom:xs.length+k≤s
  ·have D:=run_storeCells_at P g xs.length e (Builtin.zeroCells z.cells k).toList 0 m w U (by rw[E];omega) h1;simp only[Nat.add_zero]at D;have W:IntKind.i64.wrap (k:Int)=k:=(by rw[IntKind.wrap_i64];omega);have y:¬((k:Int)<0):=(by omega);have x:¬(281474976710656<(k:Int)*(i.bytes:Int)):=by
    rw[←Int.natCast_mul,l];omega
   have N:¬(k=0):=(by omega);refine⟨.slice (some ⟨g,0,none⟩) (xs.length+k) s,w.setRow g (m.toList.take xs.length++(Builtin.zeroCells z.cells k).toList++m.toList.drop (xs.length+(Builtin.zeroCells z.cells k).toList.length)).toArray,?_,?_,?_⟩
   ·have A:(storeCells ⟨g,xs.length,none⟩ (Builtin.zeroCells z.cells k).toList).run P w=_:=D;simp[Builtin.append_,run_underlying L,run_underlying q,sizeOf,typeInfo,zeroValue,Q,R,G,asInt,asIntOf,W,hroom,y,x,N,Addr.add_lit,A]
   ·refine⟨by simp,.inr ⟨g,s,_,by rw[a],J,setRow_heap w g m _ e _ U,by rw[a];exact hroom,r,?_,?_⟩⟩
    ·simp only[fA,aI,List.length_take,List.length_drop,Array.length_toList,b];omega
    ·rw[a,fB];rw[fB]at h;rw[h,←a];exact fC
   ·exact⟨rfl,rfl,rfl,by simp,fun k _ hk=>setRow_other w g k _ (fun e=>hk (by simp[Value.ownBlock,e]))⟩
  ·have p:∀j u,xs[j]? =some u→w.cell? ((⟨g,0,none⟩:Addr).add j)=some u:=World.ownsRow.cells (g:=g) n rfl;have C:=run_firstCells_some (P:=P) w.drew i.size xs.length ⟨g,0,none⟩ xs.length s xs (by rw[G];omega) (by simpa using p);have I:=Lib.run_append_grow_zeros (P:=P) w t H ty e i z .i64 K L q Q R (some ⟨g,0,none⟩) xs.length s xs C k hk (by omega) (by omega) (by omega) (by rw[l];omega) (growslice_fits (by omega) (by rw[l];omega));have f:=grown s (by omega) (Value.ownBlock (.slice (some ⟨g,0,none⟩) xs.length s));exact⟨_,_,I,f.1,f.2⟩
open ShaM WireM
theorem Ik (L:List Nat):(shaF L).length=32:=by
 unfold shaF;rw[←Re (blocksN_ok _ HL0_len HL0_lt _).1,Ij]
theorem zcN (n:Nat):(Builtin.zeroCells (Value.int .u8 0).cells n).toList=bvs (List.replicate n 0):=by
 refine List.ext_getElem (by simp[Builtin.zeroCells,Value.cells]) fun i h1 h2=> ?_;simp[Builtin.zeroCells,Value.cells,Nat.mod_one,bvs]
theorem Own.take0 {w:World} {B:Nat} {e:TypeId} {a:Option Addr} {n c:Nat} {xs:List Value}(h:Own w B e (.slice a n c) xs):Own w B e (.slice a 0 c) []:=by
 obtain⟨o,h2⟩:=h;refine⟨by simp,?_⟩;rcases h2 with⟨h2,h3⟩|⟨g,p,b,d,f,j,m,i,k,l⟩
 ·simp only[Value.slice.injEq]at h2;obtain⟨rfl,rfl,rfl⟩:=h2;exact .inl ⟨rfl,rfl⟩
 ·simp only[Value.slice.injEq]at d;obtain⟨rfl,rfl,rfl⟩:=d;exact .inr ⟨g,c,b,rfl,f,j,by simp,i,k,by simp⟩
theorem Zho (n:Nat)(w:World)(p:n<1000000000):
  Calls Tryz.prog 234 #[.slice none 0 0,.int .i64 (n:Nat)] w fun e w'=>∃v',e=.returned v'∧Own w' w.heap.size 5 v' []∧Below w.heap.size w w':=by
 have l:decide ((n:Int)<0)=false:=(by simp);rcases Nat.eq_zero_or_pos n with rfl|j
 ·go_enter Tryz.func234,Tryz.ntmps234;go_wp2_with fail;go_ret;exact⟨_,rfl,Own.nil _ _ _,bR⟩
 ·have r:decide ((n:Int)>0)=true:=(by simp;omega);obtain⟨m,i,b,a,c⟩:=Rg (P:=Tryz.prog) (w:=w) 28 3 28 5 (.int .u8 0) 1 Bu .i64 rfl (.slice none 0 0) [] (Own.nil w w.heap.size _) n j rfl (by rw[zcN];exact Bp _) (by simp;omega) lR;rw[zcN]at a;have d:Below w.heap.size w i:=(Below.refl w.heap.size w).grown c lR (fun k hk=>by simp[Value.ownBlock]at hk);obtain⟨q,o,s,rfl⟩:=Ey a;have h:=Hd a.take0;have g:=Hd d;have f:=Hd b;clear a c d b;go_enter Tryz.func234,Tryz.ntmps234;go_wp2_with (at_builtin;refine Lib.wpList_append_run _ rfl _ _ _ _ rfl _ _ rfl rfl _ _ f.out ?_);go_ret;exact⟨_,rfl,h.out,g.out⟩
theorem Za7 (g:Nat)(v:Value)(L:List Nat)(w:World)(F:w.cell? ⟨g,0,none⟩=some v)(t:g<w.heap.size)(h:Rd w v (bvs L))(I:L.length<1000000000):
  Calls Tryz.prog 199 #[.slice (some ⟨g,0,none⟩) 1 1] w fun e w'=>∃v',e=.returned v'∧Own w' w.heap.size 5 v' (bvs L)∧Below w.heap.size w w':=by
 obtain⟨M,P,rfl⟩:∃a c,v=.slice a L.length c:=(by obtain⟨a,c,e,_⟩:=h;exact⟨a,c,by rw[e,bvs_len]⟩);obtain⟨n,x⟩:=eX L.length;rw[←x]at F h I;have O:=Hd (Zho n w I);have K:=Hd x;have H:=Hd h;have J:=Hd F;have N:decide ((n:Int)<0)=false:=(by simp);clear x h;go_enter Tryz.func199,Tryz.ntmps199;go_wp2_with fail
 go_loopg [11,3] 1 (fun q iv C wr=>∃i:Nat,i+q=1∧iv=.int .i64 (i:Nat)∧C=.int .i64 ((i*n:Nat):Int)∧wr=w)
 case atStart=>exact⟨0,rfl,rfl,by simp,rfl⟩
 case round=>
  obtain⟨i,o,rfl,rfl,rfl⟩:=hrel
  by_cases h1:i=0
  ·subst h1;have y:gk=1:=(by omega);have u:(((0*n:Nat):Int))=0:=(by simp);rw[u];subst y;go_wp2_with fail;go_roundg 0;case measure=>omega
   case rel=>exact⟨1,rfl,rfl,by simp,rfl⟩
  ·obtain rfl:i=1:=(by omega);have u:(((1*n:Nat):Int))=n:=(by simp);rw[u];clear h1 o;go_wp2_with fail;refine(O.out).mono ?_;rintro e Q ⟨X,rfl,b,l⟩;have r:=Hd b;have s:=Hd l;obtain⟨W,T,Z,rfl⟩:=Ey b;clear b l;go_wp2_with fail;obtain⟨k,rfl⟩:∃k:World,k=wr:=⟨_,rfl⟩
   go_loopg [27,6] 1 (fun q iv C wr=>∃i:Nat,i+q=1∧iv=.int .i64 (i:Nat)∧Own wr k.heap.size 5 C (if i=0 then []else bvs L)∧Below k.heap.size k wr)
   case atStart=>exact⟨0,rfl,rfl,r.out,s.out⟩
   case round=>
    obtain⟨i,o,rfl,b,l⟩:=hrel;have j:=Hd b;have f:=Hd l;obtain⟨E,D,G,rfl⟩:=Ey b;clear b l
    by_cases h1:i=0
    ·subst h1;obtain rfl:gk=1:=(by omega);clear o;have d:Hid (Own wr k.heap.size 5 (.slice E D G) []):=j;have B:wr.cell? ⟨g,0,none⟩=some (.slice M n P):=(f.out.cell (p:=⟨g,0,none⟩) t).trans J.out;clear j;go_wp2_with (at_builtin;refine At rfl (.tmp 31) (.tmp 32) 28 rfl k.heap.size 5 _ 1 Bu _ [] rfl d.out _ (bvs L) rfl (H.out.below f.out lR) (Bp _) ?c2 ?c3 ?_);case c2=>rw[bvs_len,←K.out];simp;omega
     case c3=>exact f.out.size
     rintro S V b-m;have A:=Hd b;have z:=Hd (f.out.trans m);obtain⟨U,Y,R,rfl⟩:=Ey b;clear b m;go_wp2_with fail;go_roundg 0;case measure=>omega
     case rel=>exact⟨1,rfl,rfl,A.out,z.out⟩
    ·obtain rfl:i=1:=(by omega);have d:Hid (Own wr k.heap.size 5 (.slice E D G) (bvs L)):=j;clear h1 o j;go_wp2_with fail;go_ret;exact⟨_,rfl,d.out,f.out⟩
theorem Kb (g:Nat)(v:Value)(L:List Nat)(w:World)(D:w.cell? ⟨g,0,none⟩=some v)(s:g<w.heap.size)(h:Rd w v (bvs L))(B:∀x∈L,x<256)(H:L.length≤1000000):
  Calls Tryz.prog 151 #[.slice (some ⟨g,0,none⟩) 1 1] w fun e w'=>∃b,e=.returned (.slice (some ⟨b,0,none⟩) 32 32)∧w.heap.size≤b∧b<w'.heap.size∧Rd w' (.slice (some ⟨b,0,none⟩) 32 32) (bvs (shaF L))∧Below w.heap.size w w':=by
 have V:∀w,(zeroValue 224).run Tryz.prog w=.ok (.agg Z32a) w:=fun _=>(by kernel_rfl);have p:=Hd (Za7 g v L w D s h (by omega));have i:=Hd (fun(x:Value) (m:World) (J:Rd m x (bvs L))=>Zhn x L m J B H);have f:=Ik L;obtain⟨k,a⟩:=eX ((bvs (shaF L)).toArray);rw[←a]at i;have n:k.size=32:=(by rw[a,fA,bvs_len,f]);have O:=Hd (show(Tryz.prog.info? 224).map (·.size)=some k.size by rw[n];kernel_rfl);have K:=Hd (show k.all (·.oneCell')=true by rw[a];simp[bvs,Value.oneCell']);have I:=Hd (show Z32a.size=k.size by rw[n];kernel_rfl);have t:=Hd a;have G:=Hd n;clear f a n h B H D;go_enter Tryz.func151,Tryz.ntmps151;go_wp2_with fail;refine(p.out).mono ?_;rintro e m ⟨U,rfl,c,z⟩;have N:=Hd c.rd;have A:=Hd z;obtain⟨T,R,W,rfl⟩:=Ey c;clear c z;go_wp2_with fail;refine(i.out _ m N.out).mono ?_;rintro e o ⟨rfl,l⟩;have d:=Hd (A.out.trans (l.mono A.out.size));have Q:=Hd (Blk.new o 224 Z32a);clear l;go_wp2_with (refine Aa rfl 224 (.tmp 3) (.tmp 6) rfl o.heap.size k rfl rfl 224 Z32a Q.out O.out I.out (by have:=K.out;rw[←Array.all_toList]at this;exact this) ?_);intro S E F M q;have C:=Hd E;have y:=Hd ((d.out.alloc d.out.size (.cells Z32a 224)).trans ((F o.heap.size lR).mono d.out.size));have r:Hid (w.heap.size≤o.heap.size):=Hd d.out.size;clear E F M q;go_wp2_with fail;go_ret;refine⟨_,rfl,r.out,C.out.lt,?_,y.out⟩;refine⟨_,32,by rw[bvs_len,Ik],by rw[bvs_len,Ik];omega,by unfold maxLen;omega,.inr ⟨_,0,rfl,fun j u P=> ?_⟩⟩;rw[cY,C.out.cell j,t.out,List.getElem?_toArray];exact P
end Go.Proofs.YtfofaiommeckbaaGreat
