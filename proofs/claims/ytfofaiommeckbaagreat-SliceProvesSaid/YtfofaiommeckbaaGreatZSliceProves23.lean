import Derived.Lib.AppendZerosOnto
import Derived.Test.YtfofaiommeckbaaGreatZSliceProves22
open Go.Value renaming slice → q9, int → rA
open Option renaming none → rF
open Go.Proofs.Tryz
open Nat renaming mul_one → eQ, mul_le_mul_left → aC, zero_add → cW
open List renaming length_append → aG, size_toArray → eN, take_left → eR
set_option linter.unusedVariables false
set_option maxRecDepth 100000
set_option maxHeartbeats 40000000
namespace Go.Proofs.YtfofaiommeckbaaGreat
open Go.RowKit
theorem Sf {P:Program} {w:World} (t H ty e:TypeId) (z:Value) (d:Nat) (F:Elem P t e z d) (L:IntKind) (s:P.underlying H=some (.int L)) {B:Nat} (v:Value) (xs:List Value) (n:Own w B e v xs)
  (k:Nat) (hk:0<k) (O:z.cells.size=1) (h1:∀u∈(Builtin.zeroCells z.cells k).toList,u.oneCell'=true) (hn:xs.length+k<1099511627776) (W:B≤w.heap.size):
  ∃v' w',(Builtin.append_ #[t,H] ty #[v,rA .i64 (k:Nat)]).run P w=.ok v' w'∧Own w' B e v' (xs++(Builtin.zeroCells z.cells k).toList)∧w.grownBy w' v.ownBlock:=by
 obtain⟨i,N,M,y,l⟩:=info_parts F.inf;have low:=F.low;have ht:=F.ty;have b:∀k,(Builtin.zeroCells z.cells k).size=k:=fun k=>(by rw[size_zeroCells,O,eQ]);have G:(Builtin.zeroCells z.cells k).toList.length=k:=(Array.length_toList (xs:=Builtin.zeroCells z.cells k)).trans (b k);have S:(xs.length+k)*d≤(xs.length+k)*64:=aC _ low;have I:k*d≤k*64:=aC _ low;have a:(xs++(Builtin.zeroCells z.cells k).toList).length=xs.length+k:=(by rw[aG,G]);have grown:∀(c:Nat),c<xs.length+k→∀(row:Option Nat),
   Own (w.drew.alloc (.cells (xs.toArray++Builtin.zeroCells z.cells k++Builtin.zeroCells z.cells (grownCap w (xs.length+k) c e-(xs.length+k))) e)) B e
    (q9 (some ⟨w.heap.size,0,rF⟩) (xs.length+k) (grownCap w (xs.length+k) c e)) (xs++(Builtin.zeroCells z.cells k).toList)∧
   w.grownBy (w.drew.alloc (.cells (xs.toArray++Builtin.zeroCells z.cells k++Builtin.zeroCells z.cells (grownCap w (xs.length+k) c e-(xs.length+k))) e)) row:=by
  intro c ho row;have J:=grownCap_ge w (xs.length+k) c e;have q:grownCap w (xs.length+k) c e≤maxLen:=grownCap_le_maxLen w (xs.length+k) c e (by unfold maxLen;omega);refine⟨⟨by simp,.inr ⟨w.heap.size,_,_,by rw[a],W,heap_alloc_new w.drew _,by rw[a];exact J,q,?_,?_⟩⟩,⟨rfl,rfl,rfl,by simp,fun j X _=>heap_alloc_old w.drew _ X⟩⟩
  ·simp only[Array.size_append,eN,b];omega
  ·rw[a,eQ];simp only[Array.toList_append];rw[←a];exact eR
 have r:=n;obtain⟨hl,Z⟩:=r;rcases Z with⟨rfl,h0⟩|⟨g,o,m,rfl,R,T,V,q,Y,h⟩
 ·have hx:xs=[]:=List.eq_nil_of_length_eq_zero (by omega);subst hx;have Q:=Lib.run_append_nil_zeros (P:=P) w t H ty e i z .i64 L ht s N M k hk (by omega) (by omega) (by rw[l];omega);have f:=grown 0 (by omega) (Value.ownBlock (q9 rF 0 0));simp only[List.length_nil,cW,List.nil_append]at f⊢;exact⟨_,_,Q,by simpa using f.1,by simpa using f.2⟩
 ·by_cases hroom:xs.length+k≤o
  ·have E:=run_storeCells_at P g xs.length e (Builtin.zeroCells z.cells k).toList 0 m w T (by rw[G];omega) h1;simp only[Nat.add_zero]at E;have U:IntKind.i64.wrap (k:Int)=k:=(by rw[IntKind.wrap_i64];omega);have x:¬((k:Int)<0):=(by omega);have A:¬(281474976710656<(k:Int)*(i.bytes:Int)):=by
    rw[←Int.natCast_mul,l];omega
   have K:¬(k=0):=(by omega);refine⟨q9 (some ⟨g,0,rF⟩) (xs.length+k) o,w.setRow g (m.toList.take xs.length++(Builtin.zeroCells z.cells k).toList++m.toList.drop (xs.length+(Builtin.zeroCells z.cells k).toList.length)).toArray,?_,?_,?_⟩
   ·have D:(storeCells ⟨g,xs.length,rF⟩ (Builtin.zeroCells z.cells k).toList).run P w=_:=E;simp[Builtin.append_,run_underlying ht,run_underlying s,sizeOf,typeInfo,zeroValue,N,M,y,asInt,asIntOf,U,hroom,x,A,K,Addr.add_lit,D]
   ·refine⟨by simp,.inr ⟨g,o,_,by rw[a],R,setRow_heap w g m _ e _ T,by rw[a];exact hroom,q,?_,?_⟩⟩
    ·simp only[eN,aG,List.length_take,List.length_drop,Array.length_toList,b];omega
    ·rw[a,eQ];rw[eQ]at h;rw[h,←a];exact eR
   ·exact⟨rfl,rfl,rfl,by simp,fun k _ hk=>setRow_other w g k _ (fun e=>hk (by simp[Value.ownBlock,e]))⟩
  ·have p:∀j u,xs[j]? =some u→w.cell? ((⟨g,0,rF⟩:Addr).add j)=some u:=World.ownsRow.cells (g:=g) n rfl;have C:=run_firstCells_some (P:=P) w.drew i.size xs.length ⟨g,0,rF⟩ xs.length o xs (by rw[y];omega) (by simpa using p);have Q:=Lib.run_append_grow_zeros (P:=P) w t H ty e i z .i64 L ht s N M (some ⟨g,0,rF⟩) xs.length o xs C k hk (by omega) (by omega) (by omega) (by rw[l];omega) (growslice_fits (by omega) (by rw[l];omega));have f:=grown o (by omega) (Value.ownBlock (q9 (some ⟨g,0,rF⟩) xs.length o));exact⟨_,_,Q,f.1,f.2⟩
open ShaM WireM
theorem Ja (L:List Nat):(shaF L).length=32:=by
 unfold shaF;rw[←Se (blocksN_ok _ HL0_len HL0_lt _).1,Iz]
theorem zcN (n:Nat):(Builtin.zeroCells (Value.int .u8 0).cells n).toList=bvs (List.replicate n 0):=by
 refine List.ext_getElem (by simp[Builtin.zeroCells,Value.cells]) fun i h1 h2=> ?_;simp[Builtin.zeroCells,Value.cells,Nat.mod_one,bvs]
theorem Own.take0 {w:World} {B:Nat} {e:TypeId} {a:Option Addr} {n c:Nat} {xs:List Value}(h:Own w B e (q9 a n c) xs):Own w B e (q9 a 0 c) []:=by
 obtain⟨h1,h2⟩:=h;refine⟨by simp,?_⟩;rcases h2 with⟨h2,h3⟩|⟨g,l,b,d,k,j,m,f,i,ht⟩
 ·simp only[Value.slice.injEq]at h2;obtain⟨rfl,rfl,rfl⟩:=h2;exact .inl ⟨rfl,rfl⟩
 ·simp only[Value.slice.injEq]at d;obtain⟨rfl,rfl,rfl⟩:=d;exact .inr ⟨g,c,b,rfl,k,j,by simp,f,i,by simp⟩
theorem Zig (n:Nat)(w:World)(q:n<1000000000):
  Calls prog 234 #[q9 rF 0 0,rA .i64 (n:Nat)] w fun e w'=>∃v',e=.returned v'∧Own w' w.heap.size 5 v' []∧Below w.heap.size w w':=by
 have h0:decide ((n:Int)<0)=false:=(by simp);rcases Nat.eq_zero_or_pos n with rfl|j
 ·go_enter func234,ntmps234;go_wp2_with fail;go_ret;exact⟨_,rfl,Own.nil _ _ _,bR⟩
 ·have h1:decide ((n:Int)>0)=true:=(by simp;omega);obtain⟨m,i,b,a,d⟩:=Sf (P:=prog) (w:=w) 28 3 28 5 (rA .u8 0) 1 Bz .i64 rfl (q9 rF 0 0) [] (Own.nil w w.heap.size _) n j rfl (by rw[zcN];exact Bu _) (by simp;omega) lR;rw[zcN]at a;have f:Below w.heap.size w i:=(Below.refl w.heap.size w).grown d lR (fun k hk=>by simp[Value.ownBlock]at hk);obtain⟨p,l,o,rfl⟩:=Dg a;have h:=Hd a.take0;have g:=Hd f;have c:=Hd b;clear a d f b;go_enter func234,ntmps234;go_wp2_with (at_builtin;refine Lib.wpList_append_run _ rfl _ _ _ _ rfl _ _ rfl rfl _ _ c.out ?_);go_ret;exact⟨_,rfl,h.out,g.out⟩
theorem Zbq (g:Nat)(v:Value)(L:List Nat)(w:World)(I:w.cell? ⟨g,0,rF⟩=some v)(u:g<w.heap.size)(h:Rd w v (bvs L))(F:L.length<1000000000):
  Calls prog 199 #[q9 (some ⟨g,0,rF⟩) 1 1] w fun e w'=>∃v',e=.returned v'∧Own w' w.heap.size 5 v' (bvs L)∧Below w.heap.size w w':=by
 obtain⟨K,M,rfl⟩:∃a c,v=.slice a L.length c:=(by obtain⟨a,c,e,_⟩:=h;exact⟨a,c,by rw[e,bvs_len]⟩);obtain⟨n,C⟩:=eX L.length;rw[←C]at I h F;have O:=Hd (Zig n w F);have J:=Hd C;have H:=Hd h;have P:=Hd I;have N:decide ((n:Int)<0)=false:=(by simp);clear C h;go_enter func199,ntmps199;go_wp2_with fail
 go_loopg [11,3] 1 (fun q iv A wr=>∃i:Nat,i+q=1∧iv=rA .i64 (i:Nat)∧A=rA .i64 ((i*n:Nat):Int)∧wr=w)
 case atStart=>exact⟨0,rfl,rfl,by simp,rfl⟩
 case round=>
  obtain⟨i,o,rfl,rfl,rfl⟩:=hrel
  by_cases h1:i=0
  ·subst h1;have s:gk=1:=(by omega);have B:(((0*n:Nat):Int))=0:=(by simp);rw[B];subst s;go_wp2_with fail;go_roundg 0;case measure=>omega
   case rel=>exact⟨1,rfl,rfl,by simp,rfl⟩
  ·obtain rfl:i=1:=(by omega);have B:(((1*n:Nat):Int))=n:=(by simp);rw[B];clear h1 o;go_wp2_with fail;refine(O.out).mono ?_;rintro e S ⟨X,rfl,b,m⟩;have y:=Hd b;have z:=Hd m;obtain⟨W,T,V,rfl⟩:=Dg b;clear b m;go_wp2_with fail;obtain⟨k,rfl⟩:∃k:World,k=wr:=⟨_,rfl⟩
   go_loopg [27,6] 1 (fun q iv A wr=>∃i:Nat,i+q=1∧iv=rA .i64 (i:Nat)∧Own wr k.heap.size 5 A (if i=0 then []else bvs L)∧Below k.heap.size k wr)
   case atStart=>exact⟨0,rfl,rfl,y.out,z.out⟩
   case round=>
    obtain⟨i,o,rfl,b,m⟩:=hrel;have j:=Hd b;have d:=Hd m;obtain⟨D,G,E,rfl⟩:=Dg b;clear b m
    by_cases h1:i=0
    ·subst h1;obtain rfl:gk=1:=(by omega);clear o;have f:Hid (Own wr k.heap.size 5 (q9 D G E) []):=j;have r:wr.cell? ⟨g,0,rF⟩=some (q9 K n M):=(d.out.cell (p:=⟨g,0,rF⟩) u).trans P.out;clear j;go_wp2_with (at_builtin;refine Aj rfl (.tmp 31) (.tmp 32) 28 rfl k.heap.size 5 _ 1 Bz _ [] rfl f.out _ (bvs L) rfl (H.out.below d.out lR) (Bu _) ?c2 ?c3 ?_);case c2=>rw[bvs_len,←J.out];simp;omega
     case c3=>exact d.out.size
     rintro Q U b-l;have t:=Hd b;have x:=Hd (d.out.trans l);obtain⟨Z,Y,R,rfl⟩:=Dg b;clear b l;go_wp2_with fail;go_roundg 0;case measure=>omega
     case rel=>exact⟨1,rfl,rfl,t.out,x.out⟩
    ·obtain rfl:i=1:=(by omega);have f:Hid (Own wr k.heap.size 5 (q9 D G E) (bvs L)):=j;clear h1 o j;go_wp2_with fail;go_ret;exact⟨_,rfl,f.out,d.out⟩
theorem Kv (g:Nat)(v:Value)(L:List Nat)(w:World)(F:w.cell? ⟨g,0,rF⟩=some v)(r:g<w.heap.size)(h:Rd w v (bvs L))(A:∀x∈L,x<256)(E:L.length≤1000000):
  Calls prog 151 #[q9 (some ⟨g,0,rF⟩) 1 1] w fun e w'=>∃b,e=.returned (q9 (some ⟨b,0,rF⟩) 32 32)∧w.heap.size≤b∧b<w'.heap.size∧Rd w' (q9 (some ⟨b,0,rF⟩) 32 32) (bvs (shaF L))∧Below w.heap.size w w':=by
 have T:∀w,(zeroValue 224).run prog w=.ok (.agg Z32a) w:=fun _=>(by kernel_rfl);have p:=Hd (Zbq g v L w F r h (by omega));have f:=Hd (fun(x:Value) (m:World) (N:Rd m x (bvs L))=>Zif x L m N A E);have i:=Ja L;obtain⟨l,a⟩:=eX ((bvs (shaF L)).toArray);rw[←a]at f;have o:l.size=32:=(by rw[a,eN,bvs_len,i]);have SI:=Hd (show(prog.info? 224).map (·.size)=some l.size by rw[o];kernel_rfl);have I:=Hd (show l.all (·.oneCell')=true by rw[a];simp[bvs,Value.oneCell']);have K:=Hd (show Z32a.size=l.size by rw[o];kernel_rfl);have s:=Hd a;have H:=Hd o;clear i a o h A E F;go_enter func151,ntmps151;go_wp2_with fail;refine(p.out).mono ?_;rintro e m ⟨V,rfl,c,G⟩;have P:=Hd c.rd;have D:=Hd G;obtain⟨U,Q,S,rfl⟩:=Dg c;clear c G;go_wp2_with fail;refine(f.out _ m P.out).mono ?_;rintro e n ⟨rfl,k⟩;have d:=Hd (D.out.trans (k.mono D.out.size));have J:=Hd (Blk.new n 224 Z32a);clear k;go_wp2_with (refine Aa rfl 224 (.tmp 3) (.tmp 6) rfl n.heap.size l rfl rfl 224 Z32a J.out SI.out K.out (by have:=I.out;rw[←Array.all_toList]at this;exact this) ?_);intro R z B O q;have C:=Hd z;have y:=Hd ((d.out.alloc d.out.size (.cells Z32a 224)).trans ((B n.heap.size lR).mono d.out.size));have t:Hid (w.heap.size≤n.heap.size):=Hd d.out.size;clear z B O q;go_wp2_with fail;go_ret;refine⟨_,rfl,t.out,C.out.lt,?_,y.out⟩;refine⟨_,32,by rw[bvs_len,Ja],by rw[bvs_len,Ja];omega,by unfold maxLen;omega,.inr ⟨_,0,rfl,fun j u M=> ?_⟩⟩;rw[cW,C.out.cell j,s.out,List.getElem?_toArray];exact M
end Go.Proofs.YtfofaiommeckbaaGreat
namespace Go.Proofs.YtfofaiommeckbaaGreat
open Go.RowKit
end Go.Proofs.YtfofaiommeckbaaGreat
