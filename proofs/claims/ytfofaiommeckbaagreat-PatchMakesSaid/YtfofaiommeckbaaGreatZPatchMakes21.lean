/- Slices as they come in. -/
import Derived.Test.YtfofaiommeckbaaGreatZPatchMakesB
import Derived.Deep.Slices
import Derived.Deep.Fields
import Derived.ChangeSame
import Derived.Deep.Strs
import Derived.Test.YtfofaiommeckbaaGreatZPatchMakes20
import Derived.Test.YtfofaiommeckbaaGreatZPatchMakes17
open Nat renaming zero_le → aA, lt_or_ge → aB, lt_of_lt_of_le → dP
open List renaming mem_of_mem_take → dT, getElem?_eq_none → aK, getElem_mem → aJ, drop_zero → dU, drop_succ_cons → dV, take_succ_cons → dW, take_zero → dX, getElem_toArray → dY, getElem_cons_zero → dZ, getElem_cons_succ → eA, getElem?_cons_zero → bO, getElem?_cons_succ → bP, getD_eq_getElem?_getD → aH, getElem?_eq_getElem → aI, getElem_of_mem → eB
set_option linter.unusedVariables false
set_option maxRecDepth 100000
set_option maxHeartbeats 40000000
namespace Go.Proofs.YtfofaiommeckbaaGreat
open Go.RowKit WireM Go.ChangeShapes Go.WideShapes Go.Deep
section
section
variable {H:Type} {enc:TypeId×Value→H} {P:Program} {w:World} {base:Nat} {spare:Nat→Bool} {held:Bool}
theorem Dh {T E:TypeId} (hT:P.underlying T=some (.slice E)) (hE:P.underlying E=some (.int .u8)) (hc:P.cellsOf E=1) {v:Value} {fuel:Nat} {x:DataW H×List MemPlace}
  (h:DataW.trod enc P w base spare held fuel T [v]=some x):∃L:List Nat,(∀n∈L,n<256)∧Rd w v (bvs L):=by
 rcases open_ints hT hE hc h with⟨hcs,_⟩|⟨a,l,c,zs,hcs,_,hl,hm,hz,_,hcell,hwz⟩
 ·simp only[List.cons.injEq,and_true]at hcs;subst hcs;exact⟨[],by simp,none,0,rfl,lR,aA _,.inl ⟨rfl,fun _=>rfl⟩⟩
 ·simp only[List.cons.injEq,and_true]at hcs;subst hcs;have hz':l≤zs.length:=(by rw[hz];split<;>omega);have hlen:(bvs ((zs.take l).map Int.toNat)).length=l:=(by simp[bvs];omega);refine⟨(zs.take l).map Int.toNat,?_,some a,c,by rw[hlen],by rw[hlen];exact hl,hm,?_⟩
  ·intro n hn;obtain⟨z,hz1,rfl⟩:=List.mem_map.1 hn;obtain⟨n,hn,rfl⟩:=Ui (hwz z (dT hz1));omega
  ·by_cases h0:l=0
   ·left;subst h0;simp[bvs]
   ·right
    obtain⟨b,off,spot⟩:=a;have hc0:=hcell 0 (by omega);have hspot:spot=none:=(by simpa [Addr.add]using World.cell?_spot hc0);subst hspot;refine⟨b,off,rfl,?_⟩;intro j u hu;have hj:j<l:=by
     rcases aB j l with h|h
     ·exact h
     ·rw[aK (by rw[hlen];exact h)]at hu;cases hu
    have h5:=hcell j (by omega);rw[Addr.add_lit]at h5;have hjz:j<zs.length:=(by omega);obtain⟨n,hn,hn2⟩:=Ui (hwz zs[j] (aJ hjz));rw[h5,←hu];simp[bvs,hj,hjz,hn2]
end
theorem Zex {α:Type}(Q:Nat→α→Prop):∀n,(∀i,i<n→∃x,Q i x)→∃L:List α,L.length=n∧∀i (hi:i<L.length),Q i L[i]:=by
 intro n
 induction n with
 |zero=>intro _;exact⟨[],rfl,by intro i hi;simp at hi⟩
 |succ n ih=>
  intro h;obtain⟨L,h1,h2⟩:=ih fun i hi=>h i (by omega);obtain⟨x,hx⟩:=h n (by omega);refine⟨L++[x],by simp[h1],?_⟩;intro i hi
  by_cases e:i<n
  ·rw[List.getElem_append_left (by omega)];exact h2 i (by omega)
  ·have:i=n:=(by simp at hi;omega);subst this;rw[List.getElem_append_right (by omega)];simpa [h1]using hx
end
open Go.ChangeAt
theorem Zn {H:Type} {enc:TypeId×Value→H} {P:Program} {w:World} {base:Nat} {spare:Nat→Bool} {held:Bool} {T E:TypeId} {k:IntKind} (hT:P.underlying T=some (.slice E)) (hE:P.underlying E=some (.int k)) (hc:P.cellsOf E=1) {v:Value} {fuel:Nat} {x:DataW H×List MemPlace}
  (h:DataW.trod enc P w base spare held fuel T [v]=some x):∃zs:List Int,(∀n∈zs,(Lit.int k n).wf=true)∧Rd w v (ivs k zs):=by
 rcases open_ints hT hE hc h with⟨hcs,_⟩|⟨x,l,c,zs,hcs,_,hl,hm,hz,_,hcell,hwz⟩
 ·simp only[List.cons.injEq,and_true]at hcs;subst hcs;exact⟨[],by simp,none,0,rfl,lR,aA _,.inl ⟨rfl,fun _=>rfl⟩⟩
 ·simp only[List.cons.injEq,and_true]at hcs;subst hcs;have hz':l≤zs.length:=(by rw[hz];split<;>omega);have hlen:(ivs k (zs.take l)).length=l:=(by simp[ivs];omega);refine⟨zs.take l,fun n hn=>hwz n (dT hn),some x,c,by rw[hlen],by rw[hlen];exact hl,hm,?_⟩
  by_cases h0:l=0
  ·left;subst h0;simp[ivs]
  ·right
   obtain⟨b,off,spot⟩:=x;have hc0:=hcell 0 (by omega);have hspot:spot=none:=(by simpa [Addr.add]using World.cell?_spot hc0);subst hspot;refine⟨b,off,rfl,?_⟩;intro j u hu;have hj:j<l:=by
    rcases aB j l with h|h
    ·exact h
    ·rw[aK (by rw[hlen];exact h)]at hu;cases hu
   have:=hcell j (by omega);rw[Addr.add_lit]at this;rw[this,←hu];simp[ivs,hj,show j<zs.length from by omega]
theorem c5:Tryz.prog.cellsOf 5=1:=by kernel_rfl
theorem c22:Tryz.prog.cellsOf 28=1:=by kernel_rfl
theorem c30:Tryz.prog.cellsOf 48=1:=by kernel_rfl
theorem c53:Tryz.prog.cellsOf 44=6:=by kernel_rfl
theorem c55:Tryz.prog.cellsOf 50=3:=by kernel_rfl
theorem c57:Tryz.prog.cellsOf 52=10:=by kernel_rfl
theorem Zo {H:Type} {enc:TypeId×Value→H} {W:World} {base:Nat} {spare:Nat→Bool} {held:Bool} {fuel:Nat} {cs:List Value} {y:DataW H×List MemPlace} (hsz:cs.length=10)
  (hf:DataW.trod enc Tryz.prog W base spare held fuel 52 cs=some y):∃D:NodeD,NodeC W D cs.toArray∧NodeOk D:=by
 match cs,hsz with
 |[x0,x1,x2,x3,x4,x5,x6,x7,x8,x9],_=>
  obtain⟨y0,y1,y2,n,_,_,t0,t1,t2⟩:=trod_struct3 Tryz.underlying52 hf;simp only[c5,c53,c55,dU,dV,dW,dX]at t0 t1 t2;obtain⟨k,e0,_,w0⟩:=DataW.trod_int Tryz.underlying5 t0;obtain⟨xs,n1,_,_,_,hlen,hl⟩:=DataW.trod_struct Tryz.underlying44 t1
  match xs,hlen with
  |[z0,z1,z2,z3,z4,z5],_=>
   have u0:=hl 0 _ rfl;have u1:=hl 1 _ rfl;have u2:=hl 2 _ rfl;have u3:=hl 3 _ rfl;have u4:=hl 4 _ rfl;have u5:=hl 5 _ rfl;simp only[dY,dZ,eA,c5,c22,dU,dV,dW,dX,bO,bP]at u0 u1 u2 u3 u4 u5;obtain⟨p0,p1,p2,n2,_,_,s0,s1,s2⟩:=trod_struct3 Tryz.underlying50 t2;simp only[c22,c30,dU,dV,dW,dX]at s0 s1 s2;obtain⟨L0,h0,r0⟩:=Dh Tryz.underlying28 Tryz.underlying5 (by kernel_rfl) u0;obtain⟨L1,h1,r1⟩:=Dh Tryz.underlying28 Tryz.underlying5 (by kernel_rfl) u1;obtain⟨L2,h2,r2⟩:=Dh Tryz.underlying28 Tryz.underlying5 (by kernel_rfl) u2;obtain⟨sr,e3,_,w3⟩:=DataW.trod_int Tryz.underlying5 u3;obtain⟨L4,h4,r4⟩:=Dh Tryz.underlying28 Tryz.underlying5 (by kernel_rfl) u4;obtain⟨L5,h5,r5⟩:=Dh Tryz.underlying28 Tryz.underlying5 (by kernel_rfl) u5;obtain⟨M0,g0,q0⟩:=Dh Tryz.underlying28 Tryz.underlying5 (by kernel_rfl) s0;obtain⟨M1,g1,q1⟩:=Dh Tryz.underlying28 Tryz.underlying5 (by kernel_rfl) s1;obtain⟨M2,g2,q2⟩:=Zn Tryz.underlying48 Tryz.underlying3 (by kernel_rfl) s2;simp only[List.cons.injEq,and_true]at e0 e3;subst e0 e3;obtain⟨kd,hkd,rfl⟩:=Ui w0;obtain⟨src,hsrc,rfl⟩:=Ui w3;obtain⟨a0,c0,rfl,-⟩:=id r0;obtain⟨a1,c1,rfl,-⟩:=id r1;obtain⟨a2,c2,rfl,-⟩:=id r2;obtain⟨a4,c4,rfl,-⟩:=id r4;obtain⟨a5,c5,rfl,-⟩:=id r5;obtain⟨b0,d0,rfl,-⟩:=id q0;obtain⟨b1,d1,rfl,-⟩:=id q1;obtain⟨b2,d2,rfl,-⟩:=id q2;have e9:(ivs .i64 M2).length=M2.length:=(by simp[ivs]);simp only[bvs_len,e9]at r0 r1 r2 r4 r5 q0 q1 q2⊢;exact⟨⟨kd,⟨L0,L1,L2,src,L4,L5⟩,⟨M0,M1,M2⟩⟩,⟨a0,c0,a1,c1,a2,c2,a4,c4,a5,c5,b0,d0,b1,d1,b2,d2,rfl,r0,r1,r2,r4,r5,q0,q1,q2⟩,
    ⟨hkd,hsrc,h0,h1,h2,h4,h5,g0,g1,fun z hz=>Zf0 (g2 z hz)⟩⟩
open WalkM
section
structure SparseD where
 leaves:Int
 own:Int
 op:List (Int×NodeD)
 sh:List (Int×List Nat)
def spt (l:List (Int×NodeD))(i:Nat):Int×NodeD:=l.getD i (0,Ar)
def stb (l:List (Int×List Nat))(i:Nat):Int×List Nat:=l.getD i (0,[])
def SpotsR (w:World)(v:Value)(l:List (Int×NodeD)):Prop:=
 ∃a cap,v=.slice a l.length cap∧l.length≤cap∧cap≤maxLen∧∀i,i<l.length→∃b off c,a=some ⟨b,off,none⟩∧b<w.heap.size∧NodeC w (spt l i).2 c∧w.rangeAt b (off+i*11) (.int .i64 (spt l i).1::c.toList)
def StubsR (w:World)(v:Value)(l:List (Int×List Nat)):Prop:=
 ∃a cap,v=.slice a l.length cap∧l.length≤cap∧cap≤maxLen∧∀i,i<l.length→∃b off u,a=some ⟨b,off,none⟩∧b<w.heap.size∧Rd w u (bvs (stb l i).2)∧w.rangeAt b (off+i*2) [.int .i64 (stb l i).1,u]
def SparseR (w:World)(v:Value)(s:SparseD):Prop:=∃o h,v=.agg #[.int .i64 s.leaves,.int .i64 s.own,o,h]∧SpotsR w o s.op∧StubsR w h s.sh
structure SparseOk (s:SparseD):Prop where
 leaves:inI s.leaves
 own:inI s.own
 op:∀p∈s.op,inI p.1∧NodeOk p.2
 sh:∀p∈s.sh,inI p.1∧∀x∈p.2,x<256
theorem SpotsR.below {w w':World} {B:Nat} {v:Value} {l:List (Int×NodeD)}(h:SpotsR w v l)(hb:Below B w w')(hB:w.heap.size≤B):SpotsR w' v l:=by
 obtain⟨a,cap,e,h1,h2,h3⟩:=h;refine⟨a,cap,e,h1,h2,fun i hi=> ?_⟩;obtain⟨b,off,c,e,hl,hn,hr⟩:=h3 i hi;exact⟨b,off,c,e,dP hl hb.size,hn.below hb hB,Af hr hb (by omega)⟩
theorem StubsR.below {w w':World} {B:Nat} {v:Value} {l:List (Int×List Nat)}(h:StubsR w v l)(hb:Below B w w')(hB:w.heap.size≤B):StubsR w' v l:=by
 obtain⟨a,cap,e,h1,h2,h3⟩:=h;refine⟨a,cap,e,h1,h2,fun i hi=> ?_⟩;obtain⟨b,off,c,e,hl,hn,hr⟩:=h3 i hi;exact⟨b,off,c,e,dP hl hb.size,hn.below hb hB,Af hr hb (by omega)⟩
theorem SparseR.below {w w':World} {B:Nat} {v:Value} {s:SparseD}(h:SparseR w v s)(hb:Below B w w')(hB:w.heap.size≤B):SparseR w' v s:=by
 obtain⟨o,g,e,h1,h2⟩:=h;exact⟨o,g,e,h1.below hb hB,h2.below hb hB⟩
theorem SpotsR.nil (w:World):SpotsR w (.slice none 0 0) []:=⟨none,0,rfl,lR,aA _,fun i hi=>absurd hi (by simp)⟩
theorem StubsR.nil (w:World):StubsR w (.slice none 0 0) []:=⟨none,0,rfl,lR,aA _,fun i hi=>absurd hi (by simp)⟩
theorem SpotsR.sl {w:World} {v:Value} {l:List (Int×NodeD)}(h:SpotsR w v l):∃a c,v=.slice a l.length c∧l.length≤c∧c≤9223372036854775807:=by
 obtain⟨a,cap,e,h1,h2,_⟩:=h;unfold maxLen at h2;exact⟨a,cap,e,h1,h2⟩
theorem StubsR.sl {w:World} {v:Value} {l:List (Int×List Nat)}(h:StubsR w v l):∃a c,v=.slice a l.length c∧l.length≤c∧c≤9223372036854775807:=by
 obtain⟨a,cap,e,h1,h2,_⟩:=h;unfold maxLen at h2;exact⟨a,cap,e,h1,h2⟩
theorem SpotsR.at {w:World} {a:Option Addr} {n c:Nat} {l:List (Int×NodeD)}(h:SpotsR w (.slice a n c) l) {i:Nat}(hi:i<n):∃b off cs,a=some ⟨b,off,none⟩∧b<w.heap.size∧NodeC w (spt l i).2 cs∧w.rangeAt b (off+i*11) (.int .i64 (spt l i).1::cs.toList):=by
 obtain⟨a',cap,e,h1,h2,h3⟩:=h;simp only[Value.slice.injEq]at e;obtain⟨rfl,rfl,rfl⟩:=e;exact h3 i hi
theorem StubsR.at {w:World} {a:Option Addr} {n c:Nat} {l:List (Int×List Nat)}(h:StubsR w (.slice a n c) l) {i:Nat}(hi:i<n):∃b off u,a=some ⟨b,off,none⟩∧b<w.heap.size∧Rd w u (bvs (stb l i).2)∧w.rangeAt b (off+i*2) [.int .i64 (stb l i).1,u]:=by
 obtain⟨a',cap,e,h1,h2,h3⟩:=h;simp only[Value.slice.injEq]at e;obtain⟨rfl,rfl,rfl⟩:=e;exact h3 i hi
theorem Dy {l:List (Int×NodeD)} {i:Nat}(h:i<l.length):spt l i∈l:=by
 rw[spt,aH,aI h];exact aJ h
theorem Gs {l:List (Int×List Nat)} {i:Nat}(h:i<l.length):stb l i∈l:=by
 rw[stb,aH,aI h];exact aJ h
theorem Qt {α H:Type} {enc:TypeId×Value→H} {W:World} {base:Nat} {spare:Nat→Bool} {held:Bool} {T E:TypeId} {k:Nat} (hT:Tryz.prog.underlying T=some (.slice E)) (hc:Tryz.prog.cellsOf E=k) (hk:0<k) (Q:List Value→α→Prop)
  (hQ:∀(cs:List Value) (y:DataW H×List MemPlace) (n:Nat),cs.length=k→DataW.trod enc Tryz.prog W base spare held n E cs=some y→∃D,Q cs D) {v:Value} {fuel:Nat} {x:DataW H×List MemPlace} (hf:DataW.trod enc Tryz.prog W base spare held fuel T [v]=some x):
  ∃ds:List α,∃a cap,v=.slice a ds.length cap∧ds.length≤cap∧cap≤maxLen∧∀i (hi:i<ds.length),∃b off cs,a=some ⟨b,off,none⟩∧b<W.heap.size∧Q cs ds[i]∧W.rangeAt b (off+i*k) cs:=by
 rcases open_slice hT hf with⟨hcs,_⟩|⟨a,len,cap,m,n,D,Pl,hcs,hb,hl,hm,hmm,hx,hi⟩
 ·simp at hcs;subst hcs;exact⟨[],none,0,rfl,lR,aA _,fun i hi=>absurd hi (by simp)⟩
 ·simp at hcs;subst hcs;have hlm:len≤m:=(by rw[hmm];split<;>omega);have key:∀i,i<len→∃D: α,∃b off cs,some a=some ⟨b,off,none⟩∧b<W.heap.size∧Q cs D∧W.rangeAt b (off+i*k) cs:=by
   intro i hil;obtain⟨cs',hc',ht'⟩:=hi i (by omega);rw[hc]at hc';obtain⟨_,hcl,hat⟩:=World.cells?_some hc';obtain⟨D,hD⟩:=hQ cs' _ _ hcl ht';obtain⟨b,off,spot⟩:=a;have hz:=hat 0 (by omega);have h0:cs'[0]? =some (cs'[0]'(by omega)):=aI (by omega);rw[h0]at hz;have hspot:spot=none:=by
    obtain⟨cs0,hc0,_⟩:=hi 0 (by omega);rw[hc]at hc0;obtain⟨_,hcl0,hat0⟩:=World.cells?_some hc0;have hz0:=hat0 0 (by omega);rw[aI (show 0<cs0.length by omega)]at hz0;simpa [Addr.add]using World.cell?_spot hz0
   subst hspot;refine⟨D,b,off,cs',rfl,?_,hD,?_⟩
   ·rw[Addr.add_lit,Addr.add_lit]at hz;exact World.block_lt_of_cell? W _ hz
   ·intro j u hu;have hj:j<k:=by
     rcases aB j cs'.length with h|h
     ·omega
     ·rw[aK h]at hu;cases hu
    have:=hat j hj;rw[Addr.add_lit,Addr.add_lit]at this;rw[this];exact hu
  obtain⟨ds,h1,h2⟩:=Zex _ len key;exact⟨ds,some a,cap,by rw[h1],by omega,hm,h2⟩
theorem c11:Tryz.prog.cellsOf 87=11:=by kernel_rfl
theorem c2s:Tryz.prog.cellsOf 89=2:=by kernel_rfl
theorem c4s:Tryz.prog.cellsOf 25=4:=by kernel_rfl
theorem c1i:Tryz.prog.cellsOf 3=1:=by kernel_rfl
theorem c1o:Tryz.prog.cellsOf 22=1:=by kernel_rfl
theorem c1h:Tryz.prog.cellsOf 23=1:=by kernel_rfl
theorem Vc {x:Int}(h:(Lit.int .i64 x).wf=true):inI x:=Ww h
section
variable {H:Type} {enc:TypeId×Value→H} {W:World} {base:Nat} {spare:Nat→Bool} {held:Bool}
theorem Zp {cs:List Value} {n:Nat} {y:DataW H×List MemPlace}(hl:cs.length=11)(h:DataW.trod enc Tryz.prog W base spare held n 87 cs=some y):
  ∃p:Int×NodeD,(∃c,cs=.int .i64 p.1::c.toList∧NodeC W p.2 c)∧inI p.1∧NodeOk p.2:=by
 obtain⟨xs,m,_,_,_,hlen,hf⟩:=DataW.trod_struct Tryz.underlying87 h
 match cs,hl with
 |[x,x0,x1,x2,x3,x4,x5,x6,x7,x8,x9],_=>
  match xs,hlen with
  |[z0,z1],_=>
   have u0:=hf 0 _ rfl;have u1:=hf 1 _ rfl;simp only[dY,dZ,eA,c1i,c57,dU,dV,dW,dX,bO,bP]at u0 u1;obtain⟨k,e0,_,w0⟩:=DataW.trod_int Tryz.underlying3 u0;obtain⟨D,hD,hok⟩:=Zo (by rfl) u1;simp only[List.cons.injEq,and_true]at e0;subst e0;exact⟨(k,D),⟨_,rfl,hD⟩,Vc w0,hok⟩
theorem Zq {cs:List Value} {n:Nat} {y:DataW H×List MemPlace}(hl:cs.length=2)(h:DataW.trod enc Tryz.prog W base spare held n 89 cs=some y):
  ∃p:Int×List Nat,(∃u,cs=[.int .i64 p.1,u]∧Rd W u (bvs p.2))∧inI p.1∧∀x∈p.2,x<256:=by
 obtain⟨xs,m,_,_,_,hlen,hf⟩:=DataW.trod_struct Tryz.underlying89 h
 match cs,hl with
 |[x,x0],_=>
  match xs,hlen with
  |[z0,z1],_=>
   have u0:=hf 0 _ rfl;have u1:=hf 1 _ rfl;simp only[dY,dZ,eA,c1i,c22,dU,dV,dW,dX,bO,bP]at u0 u1;obtain⟨k,e0,_,w0⟩:=DataW.trod_int Tryz.underlying3 u0;obtain⟨L,hL,hr⟩:=Dh Tryz.underlying28 Tryz.underlying5 (by kernel_rfl) u1;simp only[List.cons.injEq,and_true]at e0;subst e0;exact⟨(k,L),⟨_,rfl,hr⟩,Vc w0,hL⟩
theorem Lz {v:Value} {d:DataW H} {p:List MemPlace}(ok:Value.okWide Tryz.prog W .any base 25 v)(h:DataW.Trod enc Tryz.prog W 0 (fun _=>true) true 25 v d p):
  ∃s:SparseD,SparseR W v s∧SparseOk s:=by
 obtain⟨cs,rfl,hsz⟩:=okWide_struct Tryz.underlying25 ok;obtain⟨fuel,hf⟩:=h;rw[c4s]at hsz;obtain⟨cs⟩:=cs
 match cs,hsz with
 |[x0,x1,x2,x3],_=>
  simp only[Value.cells]at hf;obtain⟨xs,m,_,_,_,hlen,hl⟩:=DataW.trod_struct Tryz.underlying25 hf
  match xs,hlen with
  |[z0,z1,z2,z3],_=>
   have u0:=hl 0 _ rfl;have u1:=hl 1 _ rfl;have u2:=hl 2 _ rfl;have u3:=hl 3 _ rfl;simp only[dY,dZ,eA,c1i,c1o,c1h,dU,dV,dW,dX,bO,bP]at u0 u1 u2 u3;obtain⟨k0,e0,_,w0⟩:=DataW.trod_int Tryz.underlying3 u0;obtain⟨k1,e1,_,w1⟩:=DataW.trod_int Tryz.underlying3 u1;simp only[List.cons.injEq,and_true]at e0 e1;subst e0 e1;obtain⟨ds,a,cap,rfl,h1,h2,h3⟩:=Qt Tryz.underlying22 c11 (by omega) (fun cs (p:Int×NodeD)=>(∃c,cs=.int .i64 p.1::c.toList∧NodeC W p.2 c)∧inI p.1∧NodeOk p.2) (fun cs y n hl h=>Zp hl h) u2;obtain⟨hs,a',cap',rfl,g1,g2,g3⟩:=Qt Tryz.underlying23 c2s (by omega) (fun cs (p:Int×List Nat)=>(∃u,cs=[.int .i64 p.1,u]∧Rd W u (bvs p.2))∧inI p.1∧∀x∈p.2,x<256) (fun cs y n hl h=>Zq hl h) u3;refine⟨⟨k0,k1,ds,hs⟩,⟨_,_,rfl,⟨a,cap,rfl,h1,h2,fun i hi=> ?_⟩,⟨a',cap',rfl,g1,g2,fun i hi=> ?_⟩⟩,Vc w0,Vc w1,fun p hp=> ?_,fun p hp=> ?_⟩
   ·obtain⟨b,off,cs,e,hb,⟨⟨c,rfl,hc⟩,_,_⟩,hr⟩:=h3 i hi;have es:spt ds i=ds[i]:=(by rw[spt,aH,aI hi];rfl);show∃b off c,a=some ⟨b,off,none⟩∧b<W.heap.size∧NodeC W (spt ds i).2 c∧W.rangeAt b (off+i*11) (.int .i64 (spt ds i).1::c.toList);rw[es];exact⟨b,off,c,e,hb,hc,hr⟩
   ·obtain⟨b,off,cs,e,hb,⟨⟨u,rfl,hc⟩,_,_⟩,hr⟩:=g3 i hi;have es:stb hs i=hs[i]:=(by rw[stb,aH,aI hi];rfl);show∃b off u,a'=some ⟨b,off,none⟩∧b<W.heap.size∧Rd W u (bvs (stb hs i).2)∧W.rangeAt b (off+i*2) [.int .i64 (stb hs i).1,u];rw[es];exact⟨b,off,u,e,hb,hc,hr⟩
   ·obtain⟨i,hi,rfl⟩:=eB hp;obtain⟨b,off,cs,e,hb,⟨_,k2,k3⟩,hr⟩:=h3 i hi;exact⟨k2,k3⟩
   ·obtain⟨i,hi,rfl⟩:=eB hp;obtain⟨b,off,cs,e,hb,⟨_,k2,k3⟩,hr⟩:=g3 i hi;exact⟨k2,k3⟩
end
end
end Go.Proofs.YtfofaiommeckbaaGreat
