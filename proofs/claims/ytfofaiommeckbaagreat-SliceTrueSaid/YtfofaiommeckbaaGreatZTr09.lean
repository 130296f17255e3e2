import Derived.Test.YtfofaiommeckbaaGreatZTr08
import Derived.Deep.RegionLaw
import Derived.ArgAppend
open Go.Ending renaming returned -> rM
open Go.Value renaming slice -> rD, int -> rE
open Option renaming none -> rJ
open Go.Proofs.Tryz
open Nat renaming zero_le -> aI, mul_le_mul_left -> aK
open List renaming eq_nil_of_length_eq_zero -> aA, mem_flatten -> dX, mem_map -> dY, mem_cons -> aB, mem_append -> dZ
open Array renaming size_push -> dU
set_option linter.unusedVariables false
set_option maxRecDepth 100000
set_option maxHeartbeats 40000000
namespace Go.Proofs.YtfofaiommeckbaaGreat
open Go.RowKit WireM
def noLeafD:LeafD:=⟨[],[],[],0,[],[]⟩
def noParD:ParD:=⟨[],[],[]⟩
def Ap:NodeD:=⟨0,noLeafD,noParD⟩
theorem Fm (w:World):Rd w (rD rJ 0 0) (bvs []):=⟨none,0,rfl,lR,aI _,.inl ⟨rfl,fun _=>rfl⟩⟩
theorem Wc (w:World):Rd w (rD rJ 0 0) (ivs .i64 []):=⟨none,0,rfl,lR,aI _,.inl ⟨rfl,fun _=>rfl⟩⟩
theorem Mm (w:World):NodeC w Ap #[rE .u8 0,rD rJ 0 0,rD rJ 0 0,rD rJ 0 0,rE .u8 0,rD rJ 0 0,rD rJ 0 0,rD rJ 0 0,rD rJ 0 0,rD rJ 0 0]:=
 ⟨none,0,none,0,none,0,none,0,none,0,none,0,none,0,none,0,rfl,Fm w,Fm w,Fm w,Fm w,Fm w,Fm w,Fm w,Wc w⟩
theorem Gh:NodeOk Ap:=by constructor<;>simp[Ap,noLeafD,noParD]
theorem Zhv (d:LeafD):Co ⟨0,d,noParD⟩ Ap=nlB d.box.length d.sign.length d.ident.length d.source d.par.length d.sig.length:=by
 rw[Co,nlB];apply decide_eq_decide.2;have e:Ht d noLeafD=true↔(d.box=[]/\d.sign=[]/\d.ident=[]/\d.source=0/\d.par=[]/\d.sig=[]):=by
  unfold Ht;rw[dI];exact Iff.rfl
 constructor
 ·rintro⟨_,h,_⟩;obtain⟨a,h2,h3,b,c,f⟩:=e.1 h;rw[a,h2,h3,b,c,f];exact⟨rfl,rfl⟩
 ·rintro⟨a,h2⟩;exact⟨rfl,e.2 ⟨aA (by omega),aA (by omega),aA (by omega),a,aA (by omega),aA (by omega)⟩,rfl,rfl,rfl⟩
theorem Zhw (p:ParD):Co ⟨0,noLeafD,p⟩ Ap=npB p.box.length p.hash.length p.late.length:=by
 rw[Co,npB];apply decide_eq_decide.2;have e:Ht noLeafD noLeafD=true:=(by decide);constructor
 ·rintro⟨_,_,d,h2,h3⟩;have a:p.box=[]:=d;have b:p.hash=[]:=h2;have c:p.late=[]:=h3;rw[a,b,c]
  rfl
 ·intro h;have j:p.box.length+p.hash.length+p.late.length=0:=h;have f:p.box=[]:=aA (by omega);have g:p.hash=[]:=aA (by omega);have i:p.late=[]:=aA (by omega);exact⟨rfl,e,f,g,i⟩
theorem Zkx {W w1:World}(hb:Below W.heap.size W w1):∀b o,b<W.heap.size->w1.cell? ⟨b,o,rJ⟩=W.cell? ⟨b,o,rJ⟩:=fun b o h=>hb.cell (p:=⟨b,o,rJ⟩) h
theorem Zbh (d:NodeD)(c:Array Value)(w:World)(h:NodeC w d c)(hk:NodeOk d):
  Calls prog 82 #[.agg c] w fun e w'=>e=rM (.bool (Aq d))/\Below w.heap.size w w':=by
 obtain⟨P,c1,Q,c2,R,c3,S,c4,T,c5,U,Y,V,e2,X,e3,rfl,Z,h2,h3,h4,h5,h6,h7,O⟩:=h;have j:=fun W (m:Below w.heap.size w W)=>Hc ⟨0,d.leaf,noParD⟩ Ap _ _ W ⟨P,c1,Q,c2,R,c3,S,c4,T,c5,none,0,none,0,none,0,rfl,Z.below m lR,h2.below m lR,h3.below m lR,h4.below m lR,h5.below m lR,Fm W,Fm W,Wc W⟩
  (Mm W) ⟨by simp,hk.source,hk.box,hk.sign,hk.ident,hk.par,hk.sig,by simp[noParD],by simp[noParD],by simp[noParD]⟩ Gh
 have k:=fun W (m:Below w.heap.size w W)=>Hc ⟨0,noLeafD,d.par⟩ Ap _ _ W ⟨none,0,none,0,none,0,none,0,none,0,U,Y,V,e2,X,e3,rfl,Fm W,Fm W,Fm W,Fm W,Fm W,h6.below m lR,h7.below m lR,O.below m lR⟩
  (Mm W) ⟨by simp,by simp[noLeafD],by simp[noLeafD],by simp[noLeafD],by simp[noLeafD],by simp[noLeafD],by simp[noLeafD],hk.pbox,hk.hash,hk.late⟩ Gh
 simp only[Zhv]at j;simp only[Zhw]at k;have K:=fun W=>Ou P Q R S T d.leaf.box.length d.leaf.sign.length d.leaf.ident.length d.leaf.par.length d.leaf.sig.length c1 c2 c3 c4 c5 d.leaf.source W;have L:=fun W (m:Below w.heap.size w W)=>Ma U V X d.par.box.length d.par.hash.length Y e2 e3 d.par.late W (O.below m lR);have hB:Aq d=(if d.kind=0 then nlB d.leaf.box.length d.leaf.sign.length d.leaf.ident.length d.leaf.source d.leaf.par.length d.leaf.sig.length&&npB d.par.box.length d.par.hash.length d.par.late.length
  else if d.kind=1 then rlB d.leaf.box.length d.leaf.sign.length d.leaf.ident.length d.leaf.source d.leaf.par.length d.leaf.sig.length&&npB d.par.box.length d.par.hash.length d.par.late.length
  else if d.kind=2 then nlB d.leaf.box.length d.leaf.sign.length d.leaf.ident.length d.leaf.source d.leaf.par.length d.leaf.sig.length&&rpB d.par.box.length d.par.hash.length d.par.late else false):=rfl
 rw[hB];simp only[show noLeafD.box=[]from rfl,show noLeafD.sign=[]from rfl,show noLeafD.ident=[]from rfl,show noLeafD.source=0 from rfl,show noLeafD.par=[]from rfl,show noLeafD.sig=[]from rfl,show noParD.box=[]from rfl,show noParD.hash=[]from rfl,show noParD.late=[]from rfl,List.length_nil]at j k;obtain⟨m1,o⟩:=eX d.leaf.box.length;obtain⟨m2,p⟩:=eX d.leaf.sign.length;obtain⟨m3,q⟩:=eX d.leaf.ident.length;obtain⟨m4,r⟩:=eX d.leaf.par.length;obtain⟨m5,s⟩:=eX d.leaf.sig.length;obtain⟨m6,t⟩:=eX d.par.box.length;obtain⟨m7,u⟩:=eX d.par.hash.length;obtain⟨m8,v⟩:=eX d.par.late.length;obtain⟨J,g⟩:=eX d.leaf.source;obtain⟨z,E⟩:=eX d.kind;rw[<-o,<-p,<-q,<-r,<-s,<-g]at K;rw[<-t,<-u,<-v]at L;rw[<-o,<-p,<-q,<-r,<-s,<-g]at j;rw[<-t,<-u,<-v]at k;rw[<-o,<-p,<-q,<-r,<-s,<-t,<-u,<-v,<-g,<-E];obtain⟨rl,H⟩:=eX (rlB m1 m2 m3 J m4 m5);obtain⟨nl,F⟩:=eX (nlB m1 m2 m3 J m4 m5);obtain⟨np,G⟩:=eX (npB m6 m7 m8);obtain⟨rp,I⟩:=eX (rpB m6 m7 d.par.late);rw[<-H]at K|-;rw[<-F]at j|-;rw[<-G]at k|-;rw[<-I]at L|-;have x:=Hd j;have y:=Hd k;have M:=Hd K;have N:=Hd L;clear j k K L hB Z h2 h3 h4 h5 h6 h7 O o p q r s t u v g E H F G I hk
 by_cases k0:z=0
 ·subst k0;rw[iP rfl];go_in;go_wp2_with fail
  go_region
  all_goals
   go_wp2_with fail;refine(x.out _ (by repeat any_goals(first|exact bR|exact lR|refine Below.alloc ?_ ?_ _|refine Below.draw1 ?_|refine Below.setCell ?_ ?_ _|(simp;done)|(simp;omega)))).mono ?_;rintro e i ⟨rfl,a⟩;have A:=Zkx a;have n:=a.size;have b:Hid (Below w.heap.size w i):=Hd (Below.trans (by repeat any_goals(first|exact bR|exact lR|refine Below.alloc ?_ ?_ _|refine Below.draw1 ?_|refine Below.setCell ?_ ?_ _|(simp;done)|(simp;omega))) (a.mono (by simp;omega)));clear a;simp only[World.alloc,World.drew,dU]at n;cases nl with
   |true=>
    have B:w.heap.size<i.heap.size:=(by omega);have C:w.heap.size+1<i.heap.size:=(by omega);have D:w.heap.size+1+1<i.heap.size:=(by omega);go_wp2_with fail;refine(y.out _ b.out).mono ?_;rintro e w4 ⟨rfl,f⟩;have l:=Hd (b.out.trans (f.mono (by omega)));clear f;go_wp2_with fail;go_ret;exact⟨rfl,l.out⟩
   |false=>
    go_wp2_with fail;go_ret;exact⟨rfl,b.out⟩
 ·by_cases k1:z=1
  ·subst k1;rw[iN (by omega),iP rfl];go_in;go_wp2_with fail
   go_region
   all_goals
    go_wp2_with fail;refine(M.out _).mono ?_;rintro e i ⟨rfl,a⟩;have A:=Zkx a;have n:=a.size;have b:Hid (Below w.heap.size w i):=Hd (Below.trans (by repeat any_goals(first|exact bR|exact lR|refine Below.alloc ?_ ?_ _|refine Below.draw1 ?_|refine Below.setCell ?_ ?_ _|(simp;done)|(simp;omega))) (a.mono (by simp;omega)));clear a;simp only[World.alloc,World.drew,dU]at n;cases rl with
    |true=>
     have B:w.heap.size<i.heap.size:=(by omega);have C:w.heap.size+1<i.heap.size:=(by omega);have D:w.heap.size+1+1<i.heap.size:=(by omega);go_wp2_with fail;refine(y.out _ b.out).mono ?_;rintro e w4 ⟨rfl,f⟩;have l:=Hd (b.out.trans (f.mono (by omega)));clear f;go_wp2_with fail;go_ret;exact⟨rfl,l.out⟩
    |false=>
     go_wp2_with fail;go_ret;exact⟨rfl,b.out⟩
  ·by_cases k2:z=2
   ·subst k2;rw[iN (by omega),iN (by omega),iP rfl,Bool.and_comm];go_in;go_wp2_with fail
    go_region
    all_goals
     go_wp2_with fail;refine(N.out _ (by repeat any_goals(first|exact bR|exact lR|refine Below.alloc ?_ ?_ _|refine Below.draw1 ?_|refine Below.setCell ?_ ?_ _|(simp;done)|(simp;omega)))).mono ?_;rintro e i ⟨rfl,a⟩;have A:=Zkx a;have n:=a.size;have b:Hid (Below w.heap.size w i):=Hd (Below.trans (by repeat any_goals(first|exact bR|exact lR|refine Below.alloc ?_ ?_ _|refine Below.draw1 ?_|refine Below.setCell ?_ ?_ _|(simp;done)|(simp;omega))) (a.mono (by simp;omega)));clear a;simp only[World.alloc,World.drew,dU]at n;cases rp with
     |true=>
      have B:w.heap.size<i.heap.size:=(by omega);have C:w.heap.size+1<i.heap.size:=(by omega);have D:w.heap.size+1+1<i.heap.size:=(by omega);go_wp2_with fail;refine(x.out _ b.out).mono ?_;rintro e w4 ⟨rfl,f⟩;have l:=Hd (b.out.trans (f.mono (by omega)));clear f;go_wp2_with fail;go_ret;exact⟨rfl,l.out⟩
     |false=>
      go_wp2_with fail;go_ret;exact⟨rfl,b.out⟩
   ·rw[iN k0,iN k1,iN k2];have t0:((z:Int)==0)=false:=(by rw[qN];omega);have t1:((z:Int)==1)=false:=(by rw[qN];omega);have t2:((z:Int)==2)=false:=(by rw[qN];omega);clear k0 k1 k2;go_in;go_wp2_with fail
    go_region
    all_goals
     go_wp2_with fail;go_ret;exact⟨rfl,(by repeat any_goals(first|exact bR|exact lR|refine Below.alloc ?_ ?_ _|refine Below.draw1 ?_|refine Below.setCell ?_ ?_ _|(simp;done)|(simp;omega)))⟩
end Go.Proofs.YtfofaiommeckbaaGreat
namespace Go.Proofs.YtfofaiommeckbaaGreat
open Go.RowKit
def Ri (w:World)(v v':Value):Prop:=v'.ownBlock=v.ownBlock\/∃g,v'.ownBlock=some g/\w.heap.size<=g
theorem Rj {P:Program} {w:World} {o:Oper} {a:Act} {K:Act->World->Prop} {Q:Exit->Act->World->Prop} (s x:Operand) (t:TypeId)
  (Y:o.op=.call {callee:=.builtin .append,args:=#[s,x],argTypes:=#[t,t]})
  (B:Nat) (e:TypeId) (z:Value) (f:Nat) (F:Elem P t e z f)
  (v:Value) (xs:List Value) (Z:a.eval s=v) (d:Own w B e v xs)
  (r:Value) (c:List Value) (hx:a.eval x=r) (n:Rd w r c) (V:∀u∈c,u.oneCell'=true)
  (hn:xs.length+c.length<1099511627776) (W:B<=w.heap.size)
  (h:∀C w',Own w' B e C (xs++c)->w.grownBy w' v.ownBlock->Below B w w'->Ri w v C->K (a.put o.dst C) w'):o.wp P a w K Q:=by
 obtain⟨i,H,U,l,p⟩:=info_parts F.inf;have low:=F.low;have X:(xs.length+c.length)*f<=(xs.length+c.length)*64:=aK _ low;have O:c.length*f<=c.length*64:=aK _ low;have D:∀(m:Addr) cap,r=.slice (some m) c.length cap->(∀(j:Nat) u,c[j]? =some u->w.cell? (m.add j)=some u)->o.wp P a w K Q:=by
  intro m cap hv A;subst hv;obtain⟨C,w',n,h2,h3,h4⟩:=run_append_own (P:=P) w B t o.type e i z 1 f F.ty H U l p F.one (by omega) v xs.length xs d m c.length cap c (by omega) A V (by unfold maxLen;omega) (by omega) W;have S:Ri w v C:=by
   have y:=d;obtain⟨hl,M⟩:=y;rcases M with⟨rfl,h0⟩|⟨g,J,L,rfl,aA,hg,aC,aB,N,R⟩
   ·by_cases hm:c.length=0
    ·rw[h4.2 ⟨rfl,hm⟩];exact .inl rfl
    ·have:=run_append_nil (P:=P) w t o.type e i z F.ty H U m c.length cap c (by rw[l];omega) A (by omega) (by omega) (by rw[p];omega);rw[this]at n;cases n;exact .inr ⟨w.heap.size,rfl,lR⟩
   ·by_cases hroom:xs.length+c.length<=J
    ·have:=run_append_room (P:=P) w t o.type e i F.ty H g xs.length J L hg m c.length cap c (by rw[l];omega) A V hroom (by rw[l,N];omega);rw[this]at n;cases n;exact .inl rfl
    ·have q:∀j u,xs[j]? =some u->w.cell? ((⟨g,0,rJ⟩:Addr).add j)=some u:=World.ownsRow.cells (g:=g) d rfl;have:=run_append_grow (P:=P) w t o.type e i z F.ty H U ⟨g,0,rJ⟩ xs.length J xs (by rw[l];omega) q m c.length cap c (by rw[l];omega) A (by omega) (by omega) (growslice_fits (by omega) (by rw[p];omega));rw[this]at n;cases n;exact .inr ⟨w.heap.size,rfl,lR⟩
  have e1:(xs++c).length=xs.length+c.length:=(by simp);have G:=h C w' (by unfold Own;rw[e1];exact h2) h3 ((Below.refl B w).grown h3 W (fun k hk=>(World.ownsRow.lt d k hk).1)) S;unfold Oper.wp execOp;simp only[Y,resolve,invoke,builtin,Sem.run_bind,Sem.run_pure,Result.andThen_ok,List.map_toArray,List.map_cons,List.map_nil,Z,hx,n];exact G
 obtain⟨m,cap,rfl,_,_,⟨rfl,E⟩|⟨b,aD,rfl,M⟩⟩:=n
 ·cases m with
  |none=>
   obtain rfl:=E rfl;have I:=run_append_owned_none (P:=P) (w:=w) B t o.type e i 1 F.ty H v xs.length xs d;unfold Oper.wp;have T:a.eval x=rD rJ 0 0:=hx;simp[execOp,Y,resolve,invoke,builtin,Z,T,I,Result.andThen];exact h v w (by simpa using d) ⟨rfl,rfl,rfl,lR,fun _ _ _=>rfl⟩ bR (.inl rfl)
  |some m=>exact D m cap rfl (by simp)
 ·exact D _ cap rfl (fun j u A=>by rw[Addr.add_lit];exact M j u A)
theorem Zdk {P:Program} {w:World} {o:Oper} {a:Act} {K:Act->World->Prop} {Q:Exit->Act->World->Prop} (s x:Operand) (t:TypeId)
  (H:o.op=.call {callee:=.builtin .append,args:=#[s,x],argTypes:=#[t,t]})
  (B:Nat) (e:TypeId) (z:Value) (c:Nat) (F:Elem P t e z c)
  (v:Value) (xs:List Value) (I:a.eval s=v) (d:Own w B e v xs)
  (r:Value) (f:List Value) (hx:a.eval x=r) (N:Rd w r f) (L:∀u∈f,u.oneCell'=true)
  (T:xs.length+f.length<1099511627776) (D:B<=w.heap.size)
  (h:∀p w',Own w' B e p (xs++f)->Below B w w'->K (a.put o.dst p) w'):o.wp P a w K Q:=by
 obtain⟨i,E,R,y,q⟩:=info_parts F.inf;have low:=F.low;have G:(xs.length+f.length)*c<=(xs.length+f.length)*64:=aK _ low;have l:∀(g:Addr) cap,r=.slice (some g) f.length cap->(∀(j:Nat) u,f[j]? =some u->w.cell? (g.add j)=some u)->o.wp P a w K Q:=by
  intro g cap O A;subst O;refine wp_append_own w s x t H B e i z 1 c F.ty E R y q F.one (by omega) v xs.length xs I d g f.length cap f hx (by omega) A L (by unfold maxLen;omega) (by omega) D ?_;intro p w' h2 h3 _;have J:(xs++f).length=xs.length+f.length:=(by simp);refine h p w' (by unfold Own;rw[J];exact h2) ?_;refine(Below.refl B w).grown h3 D ?_;intro k hk;exact(World.ownsRow.lt d k hk).1
 obtain⟨g,cap,rfl,_,_,⟨rfl,m⟩|⟨b,S,rfl,M⟩⟩:=N
 ·cases g with
  |none=>
   obtain rfl:=m rfl;have n:=run_append_owned_none (P:=P) (w:=w) B t o.type e i 1 F.ty E v xs.length xs d;unfold Oper.wp;have C:a.eval x=rD rJ 0 0:=hx;simp[execOp,H,resolve,invoke,builtin,I,C,n,Result.andThen];exact h v w (by simpa using d) bR
  |some g=>exact l g cap rfl (by simp)
 ·exact l _ cap rfl (fun j u A=>by rw[Addr.add_lit];exact M j u A)
theorem Zhx {P:Program} {w:World} {ops:Array Oper} {o:Oper} {a:Act} {K:Act->World->Prop} {Q:Exit->Act->World->Prop} {E:Prop} (f:o.guard=none) (s x:Operand) (t:TypeId)
  (k:o.op=.call {callee:=.builtin .append,args:=#[s,x],argTypes:=#[t,t]})
  (B:Nat) (e:TypeId) (z:Value) (b:Nat) (F:Elem P t e z b)
  (v:Value) (xs:List Value) (m:a.eval s=v) (c:Own w B e v xs)
  (r:Value) (d:List Value) (hx:a.eval x=r) (l:Rd w r d) (g:∀u∈d,u.oneCell'=true)
  (j:xs.length+d.length<1099511627776) (i:B<=w.heap.size)
  (h:∀v' w',Own w' B e v' (xs++d)->Below B w w'->K (a.put o.dst v') w'):if Region.wanted o (yielded ops a.tmps)=true then Oper.wp P o a w K Q else E:=by
 have n:Region.wanted o (yielded ops a.tmps)=true:=(by simp[Region.wanted,f]);rw[iP n];exact Zdk s x t k B e z b F v xs m c r d hx l g j i h
open WireM
theorem Zky:∀(l:List (List Nat)),(∀r∈l,r.length<=200)->(∀r∈l,∀x∈r,x<256)->∀x∈Oo l,x<256:=by
 intro l h1 h2 x hx;simp only[Oo,dX,dY]at hx;obtain⟨y,⟨r,hr,rfl⟩,hx⟩:=hx;exact Ft (by have:=h1 r hr;omega) (h2 r hr) x hx
theorem Zhy (L:List Int):∀x∈Cf L,x<256:=by
 intro x hx;simp only[Cf,dX,dY]at hx;obtain⟨y,⟨z,_,rfl⟩,hx⟩:=hx;exact beN_lt _ _ x hx
theorem Mn {d:NodeD}(hk:NodeOk d)(b:Cb d=true):∀x∈Bk d,x<256:=by
 have c:=oD b;have e:=Fb d.par.late;unfold Bk
 split
 ·intro x hx;rw[aB,dZ]at hx;rcases hx with rfl|hx|hx
  ·omega
  ·rw[Jj,dZ,dZ]at hx;rcases hx with(hx|hx)|hx
   ·refine Zky _ ?_ ?_ x hx
    ·intro r a;simp at a;rcases a with rfl|rfl|rfl<;>omega
    ·intro r a;simp at a;rcases a with rfl|rfl|rfl
     ·exact hk.box
     ·exact hk.sign
     ·exact hk.ident
   ·rw[List.mem_singleton]at hx;have:=hk.source;omega
   ·split at hx
    ·exact Ft (by omega) hk.par x hx
    ·cases hx
  ·exact Ft (by omega) hk.sig x hx
 ·split
  ·intro x hx;rw[aB,Zg2,dZ,dZ]at hx;rcases hx with rfl|(hx|hx)|hx
   ·omega
   ·exact Ft (by omega) hk.pbox x hx
   ·exact Ft (by omega) hk.hash x hx
   ·exact Ft (by omega) (Zhy _) x hx
  ·intro x hx;simp at hx;omega
