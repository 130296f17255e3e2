/- Walks: sha.words. -/
import Derived.Test.YtfofaiommeckbaaGreatZPatchMakesB
import Derived.Test.YtfofaiommeckbaaGreatZPatchMakes15
import Derived.BigRegion
import Derived.OrdersIn
import Derived.RangeFuncCalls
import Derived.Test.YtfofaiommeckbaaGreatZPatchMakes19
import Derived.Lib.AppendZerosOnto
open List renaming getD_eq_getElem?_getD → aH, getElem?_eq_getElem → aI, range → aF, length_set → dM, mem_range → dN, length_append → aG, length_cons → cR, length_nil → bL, length_filter_le → dO, filterMap_cons → cS, filterMap_nil → cT, contains_cons → cU, contains_nil → cV
open Nat renaming lt_of_lt_of_le → dP, lt_or_ge → aB, pos_of_ne_zero → aP, pow_succ → aN, mul_left_comm → bD, mul_assoc → bE, mul_add_mod → dQ, mod_eq_of_lt → aS
open Array renaming getElem?_eq_none → aD
open Bool renaming and_eq_true → cC, or_false → cW, or_true → cX
open Int renaming tdiv → dR, tdiv_eq_ediv_of_nonneg → dS
set_option linter.unusedVariables false
set_option maxRecDepth 100000
set_option maxHeartbeats 40000000
namespace Go.Proofs.YtfofaiommeckbaaGreat
open Go.RowKit ShaM
end Go.Proofs.YtfofaiommeckbaaGreat
namespace Go.Proofs.YtfofaiommeckbaaGreat
open Go.RowKit
open ShaM
theorem Oy {A B:List Nat}(hl:A.length=B.length)(h:∀j,j<A.length→A.getD j 0=B.getD j 0):A=B:=by
 apply List.ext_getElem hl;intro i h1 h2;have:=h i h1;simpa [aH,aI h1,aI h2]using this
theorem Io {P:Program} {f:FuncId} {args:Array Value} {w:World} {a n:Nat} {v:Value}
  (h:Calls P f args (w.drewN (a+n)) fun e w'=>e=.returned v∧w'=w.drewN (a+n)):Calls P f args (w.drewN (a+n)) fun e w''=>e=.returned v∧∃m,w''=w.drewN (a+m):=
 h.mono fun _ _ ⟨he,hm⟩=>⟨he,n,hm⟩
def OnlyG (g:Nat)(w w':World):Prop:=Below g w w'∧w.heap.size≤w'.heap.size∧∀i,i<w.heap.size→i≠g→w'.heap[i]? =w.heap[i]?
theorem OnlyG.of_below {g:Nat} {w w':World}(h:Below w.heap.size w w')(hg:g≤w.heap.size):OnlyG g w w':=⟨h.mono hg,h.size,fun i hi _=>h.block i hi⟩
theorem OnlyG.trans {g:Nat} {a b c:World}(h:OnlyG g a b)(k:OnlyG g b c):OnlyG g a c:=⟨h.1.trans k.1,Nat.le_trans h.2.1 k.2.1,fun i hi hne=>(k.2.2 i (dP hi h.2.1) hne).trans (h.2.2 i hi hne)⟩
theorem OnlyG.setCell {g:Nat} {w:World}(i:Nat)(u:Value):OnlyG g w (w.setCell ⟨g,i,none⟩ u):=⟨bR.setCell (p:=⟨g,i,none⟩) lR u,by simp,fun k hk hne=>Below.heap_setCell w ⟨g,i,none⟩ u k (fun e=>hne e)⟩
theorem Blk.only2 {w w':World} {g b:Nat} {t:TypeId} {cs:Array Value}(h:Blk w b t cs)(ho:OnlyG g w w')(hne:b≠g):Blk w' b t cs:=(ho.2.2 b h.lt hne).trans h
theorem OnlyG.setRow {w:World}(g:Nat)(cs:Array Value):OnlyG g w (w.setRow g cs):=⟨⟨rfl,rfl,rfl,by simp,fun i hi=>setRow_other w g i cs (by omega)⟩,by simp,fun i _ hne=>setRow_other w g i cs hne⟩
theorem OnlyG.drewN {g:Nat} {a b:World}(h:OnlyG g a b)(n:Nat):OnlyG g a (b.drewN n):=⟨Aa h.1 n,h.2.1,h.2.2⟩
theorem evs {a:Act} {s:Nat} {v:Value}(h:a.tmps[s]?.getD undef=v):a.eval (.tmp s)=v:=by
 first
 |exact h
 |simpa [Act.eval,Array.getD_eq_getD_getElem?]using h
def Uy (S X:List Nat)(i:Nat):List Nat:=(aF 8).map fun j=>if j<i then(S.getD j 0+X.getD j 0)%4294967296 else S.getD j 0
theorem Ge (S X:List Nat)(i:Nat):(Uy S X i).length=8:=by simp[Uy]
theorem Ks (S X:List Nat)(i:Nat) {j:Nat}(h:j<8):(Uy S X i).getD j 0=if j<i then(S.getD j 0+X.getD j 0)%4294967296 else S.getD j 0:=by simp[Uy,aH,h]
theorem Ze {S:List Nat}(X:List Nat)(hl:S.length=8):Uy S X 0=S:=by
 refine Oy (by rw[Ge,hl]) fun j hj=> ?_;rw[Ge]at hj;rw[Ks _ _ _ hj,if_neg (by omega)]
theorem Zf (S X:List Nat) {i:Nat}(h:i<8):(Uy S X i).set i ((S.getD i 0+X.getD i 0)%4294967296)=Uy S X (i+1):=by
 refine Oy (by rw[dM,Ge,Ge]) fun j hj=> ?_;rw[dM,Ge]at hj;rw[Ks _ _ _ hj,aH,List.getElem?_set]
 by_cases e:i=j
 ·subst e;rw[if_pos rfl,if_pos (by rw[Ge];exact hj),if_pos (by omega)];rfl
 ·rw[if_neg e,←aH,Ks _ _ _ hj]
  by_cases h1:j<i
  ·rw[if_pos h1,if_pos (by omega)]
  ·rw[if_neg h1,if_neg (by omega)]
theorem Zcq (S B:List Nat):Uy S (rndsN (wL B 64) S 64) 8=stepN S B:=by
 unfold Uy stepN;refine List.map_congr_left fun j hj=> ?_;rw[if_pos (List.mem_range.1 hj)]
end Go.Proofs.YtfofaiommeckbaaGreat
namespace Go.Proofs.YtfofaiommeckbaaGreat
open Go.RowKit WireM
theorem Own.onlyG {w w':World} {B g:Nat} {e:TypeId} {v:Value} {xs:List Value}(h:Own w B e v xs)(ho:OnlyG g w w')(hg:g<B):Own w' B e v xs:=by
 obtain⟨h1,h2|⟨g',cp,cur,e',hb,hh,rest⟩⟩:=h
 ·exact⟨h1,.inl h2⟩
 ·refine⟨h1,.inr ⟨g',cp,cur,e',hb,?_,rest⟩⟩;have hl:g'<w.heap.size:=by
   rcases aB g' w.heap.size with h|h
   ·exact h
   ·rw[aD h]at hh;cases hh
  rw[ho.2.2 g' hl (by omega)];exact hh
theorem Own.setLow {w:World} {B:Nat} {e:TypeId} {v:Value} {xs:List Value}(h:Own w B e v xs) {p:Addr}(hp:p.block<B)(u:Value):Own (w.setCell p u) B e v xs:=by
 refine h.setOther (fun hv=> ?_) u;rcases h.2 with⟨rfl,_⟩|⟨g,cp,cur,rfl,hg,_⟩
 ·simp[Value.ownBlock]at hv
 ·simp[Value.ownBlock]at hv;omega
def NodeO (w:World)(B:Nat)(d:NodeD)(c:Array Value):Prop:=
 ∃x0 x1 x2 x3 x4 u0 u1 u2,c=#[.int .u8 (d.kind:Nat),x0,x1,x2,.int .u8 (d.leaf.source:Nat),x3,x4,u0,u1,u2]∧
  Own w B 5 x0 (bvs d.leaf.box)∧Own w B 5 x1 (bvs d.leaf.sign)∧Own w B 5 x2 (bvs d.leaf.ident)∧Own w B 5 x3 (bvs d.leaf.par)∧Own w B 5 x4 (bvs d.leaf.sig)∧
  Own w B 5 u0 (bvs d.par.box)∧Own w B 5 u1 (bvs d.par.hash)∧Own w B 3 u2 (ivs .i64 d.par.late)
theorem NodeO.c {w:World} {B:Nat} {d:NodeD} {c:Array Value}(h:NodeO w B d c):NodeC w d c:=by
 obtain⟨x0,x1,x2,x3,x4,u0,u1,u2,rfl,h0,h1,h2,h3,h4,h5,h6,h7⟩:=h;have g:∀ {v:Value} {e:TypeId} {xs:List Value},Own w B e v xs→∃a c,v=.slice a xs.length c:=fun h=>(by obtain⟨a,c,e,_⟩:=h.rd;exact⟨a,c,e⟩);obtain⟨a0,c0,rfl⟩:=g h0;obtain⟨a1,c1,rfl⟩:=g h1;obtain⟨a2,c2,rfl⟩:=g h2;obtain⟨a3,c3,rfl⟩:=g h3;obtain⟨a4,c4,rfl⟩:=g h4;obtain⟨a5,c5,rfl⟩:=g h5;obtain⟨a6,c6,rfl⟩:=g h6;obtain⟨a7,c7,rfl⟩:=g h7;have e7:(ivs .i64 d.par.late).length=d.par.late.length:=Km _ _;simp only[bvs_len,e7]at h0 h1 h2 h3 h4 h5 h6 h7⊢;exact⟨a0,c0,a1,c1,a2,c2,a3,c3,a4,c4,a5,c5,a6,c6,a7,c7,rfl,h0.rd,h1.rd,h2.rd,h3.rd,h4.rd,h5.rd,h6.rd,h7.rd⟩
section
section
variable {P:Program} {w:World}
theorem Qr {ops:Array Oper} {rest:List Oper} {o:Oper} {a:Act} {Q:Exit→Act→World→Prop} (hgd:o.guard=none) (s x:Operand) (t:TypeId)
  (ho:o.op=.call {callee:=.builtin .append,args:=#[s,x],argTypes:=#[t,t]})
  (B:Nat) (e:TypeId) (z:Value) (k bytes:Nat) (F:ElemK P t e z k bytes)
  (v:Value) (n:Nat) (xs:List Value) (hs:a.eval s=v) (hown:OwnK w B e k v n xs)
  (N:Nat) (ys:List Value) (hx:a.eval x=.slice (some ⟨N,0,none⟩) 1 1) (hl:ys.length=k) (hu:∀(j:Nat) u,ys[j]? =some u→w.cell? ⟨N,j,none⟩=some u) (h1:∀u∈ys,u.oneCell'=true)
  (hn:n<137438953472) (hB:B≤w.heap.size)
  (h:∀v' w',OwnK w' B e k v' (n+1) (xs++ys)→w.grownBy w' v.ownBlock→Below B w w'→wpList P ops Q rest (a.put o.dst v') w'):wpList P ops Q (o::rest) a w:=by
 obtain⟨i,hi,hz,hsz,hby⟩:=Fx F.inf;have low:=F.low;refine wpList_append_own w hgd s x t ho B e i z k bytes F.ty hi hz hsz hby F.one F.pos v n xs hs hown ⟨N,0,none⟩ 1 1 ys hx (by rw[hl,Nat.one_mul]) (fun j u hj=>by rw[Addr.add_lit,Nat.zero_add];exact hu j u hj) h1 ?_ ?_ hB ?_
 ·unfold maxLen;omega
 ·have:(n+1)*bytes≤(n+1)*512:=Nat.mul_le_mul_left _ low;omega
 ·intro v' w' h2 h3 _;refine h v' w' h2 h3 ?_;refine(Below.refl B w).grown h3 hB ?_;intro k hk;exact(World.ownsRow.lt hown k hk).1
end
theorem Own.grown {w w':World} {B:Nat} {e:TypeId} {v:Value} {xs:List Value} {row:Option Nat}(h:Own w B e v xs)(hg:w.grownBy w' row)(hne:∀g,v.ownBlock=some g→row≠some g):Own w' B e v xs:=by
 obtain⟨h1,h2|⟨g,cp,cur,rfl,hb,hh,rest⟩⟩:=h
 ·exact⟨h1,.inl h2⟩
 ·refine⟨h1,.inr ⟨g,cp,cur,rfl,hb,?_,rest⟩⟩;have hl:g<w.heap.size:=by
   rcases aB g w.heap.size with h|h
   ·exact h
   ·rw[aD h]at hh;cases hh
  rw[hg.block g hl (fun e=>hne g (by simp[Value.ownBlock]) e.symm)];exact hh
def Gj (u v:Value):Prop:=∀g,u.ownBlock=some g→v.ownBlock≠some g
theorem Own.blockLt {w:World} {B:Nat} {e:TypeId} {v:Value} {xs:List Value}(h:Own w B e v xs) {g:Nat}(hg:v.ownBlock=some g):g<w.heap.size∧B≤g:=by
 rcases h.2 with⟨rfl,_⟩|⟨g',cp,cur,rfl,hb,hh,_⟩
 ·simp[Value.ownBlock]at hg
 ·simp[Value.ownBlock]at hg;subst hg;refine⟨?_,hb⟩;rcases aB g' w.heap.size with h|h
  ·exact h
  ·rw[aD h]at hh;cases hh
end
end Go.Proofs.YtfofaiommeckbaaGreat
namespace Go.Proofs.YtfofaiommeckbaaGreat
open Go.RowKit WalkM
def Zeu (t:List NodeD)(x:Nat)(u:Int):Prop:=
 u<(Gb t.length:Int)∧Bl (2*u) (x:Int)=true∧(nd t (2*u).toNat).kind≠0∧∀y,y<t.length→(nd t y).kind=2→Bl (2*u) (y:Int)=true→Bl (y:Int) (x:Int)=true→u∈(nd t y).par.late
def Zg (t:List NodeD)(x:Nat)(u:Int):Bool:=
 decide (u<(Gb t.length:Int))&&(Bl (2*u) (x:Int)&&(decide ((nd t (2*u).toNat).kind≠0)&&(aF t.length).all fun y=> !(decide ((nd t y).kind=2)&&(Bl (2*u) (y:Int)&&Bl (y:Int) (x:Int)))||decide (u∈(nd t y).par.late)))
theorem Wx (t:List NodeD)(x:Nat)(u:Int):Zg t x u=true↔Zeu t x u:=by
 unfold Zg Zeu;simp only[cC,decide_eq_true_iff,List.all_eq_true,dN,Bool.or_eq_true,Bool.not_eq_true',Bool.and_eq_false_imp];constructor
 ·rintro⟨h1,h2,h3,h4⟩;refine⟨h1,h2,h3,fun y hy k1 k2 k3=> ?_⟩;rcases h4 y hy with h|h
  ·have:=h k1 k2;rw[k3]at this;cases this
  ·exact h
 ·rintro⟨h1,h2,h3,h4⟩;refine⟨h1,h2,h3,fun y hy=> ?_⟩
  by_cases hm:u∈(nd t y).par.late
  ·exact .inr hm
  ·refine .inl fun k1 k2=> ?_;cases k3:Bl (y:Int) (x:Int)with
   |false=>rfl
   |true=>exact absurd (h4 y hy k1 k2 k3) hm
def Zh (t:List NodeD)(x:Nat):Bool:=(nd t x).par.late.all (Zg t x)
theorem Wy {t:List NodeD} {x:Nat}(h:Zh t x=true):∀u∈(nd t x).par.late,Zeu t x u:=fun u hu=>(Wx t x u).1 (List.all_eq_true.1 h u hu)
theorem Ji {d:NodeD}(h:Aw d=true):d.kind=0∨d.kind=1∨d.kind=2:=by
 unfold Aw at h
 by_cases h0:d.kind=0
 ·exact .inl h0
 ·by_cases h1:d.kind=1
  ·exact .inr (.inl h1)
  ·by_cases h2:d.kind=2
   ·exact .inr (.inr h2)
   ·simp only[h0,h1,h2,if_false]at h;cases h
theorem Jz {d:NodeD}(h:Aw d=true)(hk:d.kind≠2):d.par.late=[]:=by
 unfold Aw at h;have key:npB d.par.box.length d.par.hash.length d.par.late.length=true→d.par.late=[]:=by
  intro h;have:=of_decide_eq_true h;exact List.eq_nil_of_length_eq_zero (by omega)
 rcases Ji (d:=d) (by unfold Aw;exact h)with h0|h1|h2
 ·simp only[h0,if_true,cC]at h;exact key h.2
 ·simp only[h1,if_true,Nat.one_ne_zero,if_false,cC]at h;exact key h.2
 ·exact absurd h2 hk
theorem Bn {d:NodeD}(h:Aw d=true):Kh d.par.late=true:=by
 by_cases hk:d.kind=2
 ·have h':(nlB d.leaf.box.length d.leaf.sign.length d.leaf.ident.length d.leaf.source d.leaf.par.length d.leaf.sig.length&&rpB d.par.box.length d.par.hash.length d.par.late)=true:=by
   have h2:=h;unfold Aw at h2;rw[hk]at h2;exact h2
  rw[cC]at h';have h2:=h'.2;unfold rpB at h2;rw[cC]at h2;exact h2.1
 ·rw[Jz h hk];rfl
theorem Ip {q:Nat}(h:q%2=0)(hq:q≤131070):lev q=0:=lev_eq hq (by unfold IsLev;simp;omega)
theorem Zcr {q x d:Nat}(hd:d≤16)(hq:q+1<2^(d+1))(hx:x+1<2^(d+1))(he:q%2=0):Bl (q:Int) (x:Int)=decide (x=anc q (lev x)):=by
 have h17:=Bb (show d+1≤17 by omega);have hx2:x≤131070:=(by omega);have hl:=(lev_root hx (lev_is hx2)).1;have e:=Zet hd hx hq hl;rw[anc_self (lev_is hx2)]at e;rw[e,Ip he (by omega)]
 congr 1
 simp
theorem Iq {t:List NodeD}(hp:Gc t=true) {x:Nat}(hx:x<t.length):(nd t x).kind≠Lp x∧Aw (nd t x)=true:=(Sv t).1 hp x hx
theorem Te {t:List NodeD}(hp:Gc t=true) {x:Nat}(hx:x<t.length) {u:Int}(hu:u∈(nd t x).par.late):(nd t x).kind=2∧∃m:Nat,u=(m:Int)∧m<65536:=by
 obtain⟨_,h2⟩:=Iq hp hx;refine⟨?_,?_⟩
 ·by_cases hk:(nd t x).kind=2
  ·exact hk
  ·rw[Jz h2 hk]at hu;cases hu
 ·obtain⟨h0,h1⟩:=Dt (Bn h2) u hu;exact⟨u.toNat,by omega,by omega⟩
def Zgw (t:List NodeD):Bool:=if Gb t.length=1 then Zf6 t else Zf6 (t.drop (Gb t.length))
def Zdz (t:List NodeD):Bool:=(aF t.length).all (Zh t)
def Lx (t:List NodeD):Bool:=decide (Gb t.length≠0)&&(Gc t&&(Zgw t&&Zdz t))
theorem Wz {t:List NodeD}(h:Zdz t=true):∀x,x<t.length→Zh t x=true:=fun x hx=>List.all_eq_true.1 h x (List.mem_range.2 hx)
theorem kids_lev {x k:Nat}(hx:x≤131070)(h:IsLev x (k+1)):Do (x:Int)=((x-2^k:Nat):Int)∧Br (x:Int)=((x+2^k:Nat):Int)∧IsLev (x-2^k) k∧IsLev (x+2^k) k∧2^k≤x:=by
 have hl:=lev_eq hx h;have hz:Kg (x:Int)=((k+1:Nat):Int):=by
  rw[Kg,if_pos (by unfold Az;rw[decide_eq_true_iff];omega),Int.toNat_natCast,hl]
 have hp:0<2^k:=aP (by simp);have hh:Dr (x:Int)=((2^k:Nat):Int):=by
  rw[Dr,hz,if_pos (by omega),show(((k+1:Nat):Int)-1).toNat=k by omega,Int.natCast_pow];rfl
 unfold IsLev at h⊢;have e1:2^(k+1)=2*2^k:=(by rw[aN];omega);have e2:2^(k+1+1)=4*2^k:=(by rw[aN,e1];omega);rw[e2,e1]at h;rw[e1];have hd:=Nat.div_add_mod x (4*2^k);rw[h]at hd;have hpx:2^k≤x:=(by omega);refine⟨?_,?_,?_,?_,hpx⟩
 ·rw[Do,hh,if_neg (by omega)];omega
 ·rw[Br,hh,if_neg (by omega)];omega
 ·have e:x-2^k=2*2^k*(2*(x/(4*2^k)))+(2^k-1):=by
   have:2*2^k*(2*(x/(4*2^k)))=4*2^k*(x/(4*2^k)):=(by rw[bD,←bE,←bE]);omega
  rw[e,dQ];exact aS (by omega)
 ·have e:x+2^k=2*2^k*(2*(x/(4*2^k))+1)+(2^k-1):=by
   have:2*2^k*(2*(x/(4*2^k))+1)=4*2^k*(x/(4*2^k))+2*2^k:=(by rw[Nat.mul_add,Nat.mul_one,bD,←bE,←bE]);omega
  rw[e,dQ];exact aS (by omega)
theorem Fb {x:Nat}(h:IsLev x 0):x%2=0:=by unfold IsLev at h;simpa using h
theorem He {x k:Nat}(h:IsLev x (k+1)):x%2=1:=by
 unfold IsLev at h;have e2:2^(k+1+1)=2*2^(k+1):=(by rw[aN];omega);have e1:2^(k+1)=2*2^k:=(by rw[aN];omega);have hp:0<2^k:=aP (by simp);have:=Nat.mod_mod_of_dvd x (show 2∣2^(k+1+1)from⟨2^(k+1),e2⟩);rw[h]at this;omega
theorem Oz {x d:Nat}(hx:x+1<2^(d+1))(hd:d≤16):x+2^lev x+1≤2^(d+1):=by
 have h17:2^(d+1)≤2^17:=Nat.pow_le_pow_right (by omega) (by omega);have hxl:x≤131070:=(by have:(2:Nat)^17=131072:=rfl;omega);have hl:=lev_is hxl;have hld:=(lev_root hx hl).1;have hph:=phi_le (x:=x) (d:=d) (by omega) hld;have ha:=anc_self hl;rw[anc_plo]at ha;have e:phi x (lev x)=plo x (lev x)+(2^(lev x+1)-2):=rfl;have e1:2^(lev x+1)=2*2^lev x:=(by rw[aN];omega);have hp:0<2^lev x:=aP (by simp);omega
open WireM
theorem NodeC.flat {w:World} {d:NodeD} {c:Array Value}(h:NodeC w d c):∃(kd s l1 l2 l3 l4 l5 l6 l7 l8 c1 c2 c3 c4 c5 e1 e2 e3:Nat) (a1 a2 a3 a4 a5 b1 b2 b3:Option Addr),
  c=#[.int .u8 (kd:Nat),.slice a1 l1 c1,.slice a2 l2 c2,.slice a3 l3 c3,.int .u8 (s:Nat),.slice a4 l4 c4,.slice a5 l5 c5,.slice b1 l6 e1,.slice b2 l7 e2,.slice b3 l8 e3]∧kd=d.kind∧l8=d.par.late.length∧Rd w (.slice b3 l8 e3) (ivs .i64 d.par.late):=by
 obtain⟨a1,c1,a2,c2,a3,c3,a4,c4,a5,c5,b1,e1,b2,e2,b3,e3,hcs,h1,h2,h3,h4,h5,h6,h7,h8⟩:=h;exact⟨_,_,_,_,_,_,_,_,_,_,_,_,_,_,_,_,_,_,_,_,_,_,_,_,_,_,hcs,rfl,rfl,h8⟩
def Zf9 (t:List NodeD)(m:Nat):List Int:=((aF m).filter fun i=>(nd t (2*i)).kind==1).map fun i=>((i:Nat):Int)
theorem mem_iff (t:List NodeD)(m:Nat)(i:Nat):((i:Nat):Int)∈Zf9 t m↔i<m∧(nd t (2*i)).kind=1:=by
 unfold Zf9;simp only[List.mem_map,List.mem_filter,dN,beq_iff_eq];constructor
 ·rintro⟨j,⟨h1,h2⟩,e⟩;have:j=i:=(by omega);subst this;exact⟨h1,h2⟩
 ·rintro⟨h1,h2⟩;exact⟨i,⟨h1,h2⟩,rfl⟩
def inR (k x y:Nat):Prop:=x+1≤y+2^k∧y<x+2^k
instance decInR (k x y:Nat):Decidable (inR k x y):=inferInstanceAs (Decidable (_∧_))
theorem Tf {x y k:Nat}(hx:x≤131070)(hy:y≤131070)(hl:IsLev x k):Bl (y:Int) (x:Int)=true↔inR k x y:=by
 have hlx:=lev_eq hx hl;rw[Tb hy hx,hlx,decide_eq_true_iff];have hs:=anc_self hl;rw[anc_plo]at hs;have e:phi x k=plo x k+(2^(k+1)-2):=rfl;have e1:2^(k+1)=2*2^k:=(by rw[aN];omega);have hp:0<2^k:=aP (by simp);unfold inR;omega
theorem Zg5 (m x:Nat):Bl (2*(m:Int)) (x:Int)=Bl ((2*m:Nat):Int) (x:Int):=by rw[Int.natCast_mul];rfl
end Go.Proofs.YtfofaiommeckbaaGreat
namespace Go.Proofs.YtfofaiommeckbaaGreat
open Go.RowKit ShaM WireM
theorem Rd.onlyG {w w':World} {v:Value} {xs:List Value} {g:Nat}(h:Rd w v xs)(ho:OnlyG g w w')(hne:∀a n c,v=.slice (some a) n c→a.block≠g):Rd w' v xs:=by
 rcases h.lt with rfl|⟨b,off,cap,e,hb⟩
 ·obtain⟨a,c,e,h1,h2,h3⟩:=h;refine⟨a,c,e,h1,h2,.inl ⟨rfl,?_⟩⟩;rcases h3 with⟨_,h3⟩|⟨b,off,h3,_⟩
  ·exact h3
  ·intro h;rw[h3]at h;cases h
 ·obtain⟨a,c,e',h1,h2,h3⟩:=h;rw[e]at e';simp only[Value.slice.injEq]at e';obtain⟨rfl,-,rfl⟩:=e';refine⟨_,cap,e,h1,h2,?_⟩;rcases h3 with⟨h3,_⟩|⟨b',off',h3,hc⟩
  ·exact .inl ⟨h3,fun h=>by cases h⟩
  ·refine .inr ⟨b',off',h3,fun j u hu=> ?_⟩;simp only[Option.some.injEq,Addr.mk.injEq,and_true]at h3;obtain⟨rfl,rfl⟩:=h3;have hh:=ho.2.2 b hb (hne _ _ _ e);have:=hc j u hu;unfold World.cell? at this⊢;simp only[hh];exact this
theorem Zev {b:List Nat}(h:∀x∈b,x<256):∀x∈padL b,x<256:=by
 intro x hx;rcases List.mem_append.1 hx with hx|hx
 ·exact h x hx
 ·rcases List.mem_cons.1 hx with rfl|hx
  ·omega
  ·rcases List.mem_append.1 hx with hx|hx
   ·rw[(List.mem_replicate.1 hx).2];omega
   ·exact beN_lt _ _ x hx
theorem Zi (b:List Nat):(padL b).length≤b.length+72:=by
 simp only[padL,tailL,aG,cR,List.length_replicate,beN_len];omega
def Zgu (S:List Nat)(t:Nat):List Nat:=(aF 32).map fun j=>if j<4*t then S.getD (j/4) 0/2^(8*(3-j%4))%256 else 0
theorem Zcs (S:List Nat)(t:Nat):(Zgu S t).length=32:=by simp[Zgu]
theorem Zct {S:List Nat}(h:S.length=8):Zgu S 8=(S.map (beN 4)).flatten:=by
 match S,h with
 |[a,b,c,d,e,f,g,k],_=>simp[Zgu,List.range_succ,beN]
end Go.Proofs.YtfofaiommeckbaaGreat
namespace Go.Proofs.YtfofaiommeckbaaGreat
open Go.RowKit
open ShaM WireM
theorem Uz (L:List Nat):(shaF L).length=32:=by
 unfold shaF;rw[←Zct (blocksN_ok _ HL0_len HL0_lt _).1,Zcs]
open WalkM
mutual
def Hz (t:Nat→NodeD):Nat→Nat→List Nat
 |0,x=>([1]++beN 4 (x/2))++Bd (t x)
 |k+1,x=>([2]++Bd (t x))++(As (Ev t k (x-2^k))++As (Ev t k (x+2^k)))
def Ev (t:Nat→NodeD):Nat→Nat→List Nat
 |0,x=>shaF (([1]++beN 4 (x/2))++Bd (t x))
 |k+1,x=>shaF (([2]++Bd (t x))++(As (Ev t k (x-2^k))++As (Ev t k (x+2^k))))
end
theorem Gf (t:Nat→NodeD)(k x:Nat):Ev t k x=shaF (Hz t k x):=by cases k<;>simp only[Ev,Hz]
theorem Dv (t:Nat→NodeD)(x:Nat):Hz t 0 x=([1]++beN 4 (x/2))++Bd (t x):=by simp only[Hz]
theorem Dw (t:Nat→NodeD)(k x:Nat):Hz t (k+1) x=([2]++Bd (t x))++(As (Ev t k (x-2^k))++As (Ev t k (x+2^k))):=by simp only[Hz]
theorem Cz (t:Nat→NodeD)(k x:Nat):(Ev t k x).length=32:=by rw[Gf];exact Uz _
theorem Zj (b:List Nat):∀x∈shaF b,x<256:=by
 intro x hx;unfold shaF at hx;rw[List.mem_flatten]at hx;obtain⟨l,hl,hx⟩:=hx;obtain⟨y,_,rfl⟩:=List.mem_map.1 hl;exact beN_lt _ _ x hx
theorem Va (t:Nat→NodeD)(k x:Nat):∀y∈Ev t k x,y<256:=by rw[Gf];exact Zj _
theorem Nj {L:List Nat}(h:L.length=32):(As L).length≤36:=by have:=Ax L (by omega);omega
theorem Zk {t:Nat→NodeD}(hs:∀x,Cc (t x)=true)(k x:Nat):(Hz t k x).length≤8000:=by
 have h:=Cy (hs x);cases k with
 |zero=>
  rw[Dv];simp only[aG,cR,bL,beN_len];omega
 |succ k=>
  have h1:=Nj (Cz t k (x-2^k));have h2:=Nj (Cz t k (x+2^k));rw[Dw];simp only[aG,cR,bL];omega
def woD (t:List NodeD)(ps:List Int)(x:Nat):NodeD:=
 if x%2=0 then(if((x/2:Nat):Int)∈ps then Ar else nd t x)
 else⟨(nd t x).kind,(nd t x).leaf,⟨(nd t x).par.box,(nd t x).par.hash,(nd t x).par.late.filter fun u=>decide (u∉ps)⟩⟩
theorem Zew (t:List NodeD)(x:Nat):woD t [] x=nd t x:=by
 unfold woD
 split
 ·rw[if_neg (by simp)]
 ·have:((nd t x).par.late.filter fun u=>decide (u∉([]:List Int)))=(nd t x).par.late:=List.filter_eq_self.2 (by simp);rw[this]
theorem Zcu {t:List NodeD} {ps:List Int} {x:Nat}(h:x%2=0):woD t ps x=if((x/2:Nat):Int)∈ps then Ar else nd t x:=by rw[woD,if_pos h]
theorem Tg {t:List NodeD} {ps:List Int} {x:Nat}(h:x%2=1):woD t ps x=⟨(nd t x).kind,(nd t x).leaf,⟨(nd t x).par.box,(nd t x).par.hash,(nd t x).par.late.filter fun u=>decide (u∉ps)⟩⟩:=by rw[woD,if_neg (by omega)]
theorem Ly {t:List NodeD}(h:Ez t=true)(ps:List Int)(x:Nat):Cc (woD t ps x)=true:=by
 have hs:=Ln h x;unfold woD
 split
 ·split
  ·exact Lm
  ·exact hs
 ·have h1:=of_decide_eq_true hs;have h2:=dO (fun u=>decide (u∉ps)) (nd t x).par.late;exact decide_eq_true ⟨h1.1,h1.2.1,h1.2.2.1,h1.2.2.2.1,h1.2.2.2.2.1,h1.2.2.2.2.2.1,h1.2.2.2.2.2.2.1,by have:=h1.2.2.2.2.2.2.2;simp only;omega⟩
theorem rdS {w:World} {v:Value} {xs:List Value}(h:Rd w v xs):∃a n c,v=.slice a n c:=by
 obtain⟨a,c,e,_⟩:=h;exact⟨_,_,_,e⟩
theorem Dx (x y:Value)(A B:List Nat)(w:World)(hx:Rd w x (bvs A))(hy:Rd w y (bvs B))(hl:A.length+B.length<1000000000):
  Calls Tryz.prog 146 #[x,y] w fun e w'=>∃v',e=.returned v'∧Own w' w.heap.size 5 v' (bvs (A++B))∧Below w.heap.size w w':=by
 have HX:=Hd hx;have HY:=Hd hy;clear hx hy;go_enter Tryz.func146,Tryz.ntmps146;go_wp2_with (at_builtin;refine Am rfl (.tmp 5) (.tmp 6) 28 rfl w.heap.size 5 _ 1 Cm _ [] rfl (Own.lit0 rfl lR) _ (bvs A) rfl (HX.out.alloc _) (Ck _) ?c2 ?c3 ?_);case c2=>rw[bvs_len];simp;omega
 case c3=>simp
 rintro v2 w2 hown-hb2;have hbt:=((Below.refl w.heap.size w).alloc lR (.cells #[] 5)).trans hb2;have HO:=Hd hown;have HB:=Hd hbt;have HY2:=Hd (HY.out.below hbt lR);clear hown hb2 hbt;go_wp2_with (at_builtin;refine Am rfl (.tmp 7) (.tmp 8) 28 rfl w.heap.size 5 _ 1 Cm _ _ rfl HO.out _ (bvs B) rfl HY2.out (Ck _) ?c4 ?c5 ?_);case c4=>simp only[bvs_len];omega
 case c5=>exact HB.out.size
 rintro v3 w3 hown-hb3;have HO3:=Hd hown;have HB3:=Hd (HB.out.trans hb3);clear hown hb3;go_wp2_with fail;go_ret;refine⟨_,rfl,?_,HB3.out⟩;rw[Cg];exact HO3.out
theorem Qs (v:Value)(L:List Int)(x:Int)(w:World)(h:Rd w v (ivs .i64 L)):
  Calls Tryz.prog 145 #[v,.int .i64 x] w fun e w'=>e=.returned (.bool (decide (x∈L)))∧w'=w:=by
 have hv:∃a c,v=.slice a L.length c∧c≤maxLen∧L.length≤c:=(by obtain⟨a,c,e,h1,h2,_⟩:=h;exact⟨a,c,by rw[e];simp[ivs],h2,by simpa [ivs]using h1⟩);obtain⟨a,c,rfl,hcm,hlc⟩:=hv;have G:=fun(i:Nat) (hi:i<L.length)=>h.at3 (u:=.int .i64 (L.getD i 0)) (r:=i) (by simp[ivs,aH,hi]);have M1:=fun(i:Nat) (hi:i<L.length) (e:L.getD i 0=x)=>(show decide (x∈L)=true from decide_eq_true (by
  rw[aH,aI hi]at e;have:L[i]=x:=e;rw[←this];exact List.getElem_mem hi))
 have M2:=fun(hno:∀i,i<L.length→L.getD i 0≠x)=>(show decide (x∈L)=false from decide_eq_false (fun hm=>by
  obtain⟨i,hi,e⟩:=List.getElem_of_mem hm;exact hno i hi (by rw[aH,aI hi];exact e)))
 obtain⟨n,hn⟩:=eX L.length;obtain⟨R,hR⟩:=eX (decide (x∈L));rw[←hn]at G M1 M2 hlc⊢;rw[←hR]at M1 M2⊢;have hnm:n≤9223372036854775807:=(by unfold maxLen at hcm;omega);have HG:=Hd G;have HM1:=Hd M1;have HM2:=Hd M2;clear G M1 M2 h hn hR hcm;go_enter Tryz.func145,Tryz.ntmps145;go_wp2_with fail
 go_loopg [5] n (fun q iv wr=>∃r:Nat,r+q=n∧iv=.int .i64 (r:Nat)∧(∀i,i<r→L.getD i 0≠x)∧wr=w)
 case atStart=>exact⟨0,by omega,rfl,fun k hk=>by omega,rfl⟩
 case round=>
  obtain⟨r,hr,rfl,hno,rfl⟩:=hrel;have HR:=Hd hr;have HNO:=Hd hno;clear hr hno
  by_cases hlt:r<n
  ·have hlt':decide (r<n)=true:=decide_eq_true hlt;obtain⟨b,off,rfl,hbl,hcell⟩:=HG.out r hlt;obtain⟨y,hy⟩:=eX (L.getD r 0);rw[←hy]at hcell;have HY:=Hd hy;clear hy
   by_cases he:y=x
   ·have hq:(y==x)=true:=(by rw[beq_iff_eq];exact he);have HE:=Hd he;clear he;go_wp2_with fail;go_ret;exact⟨Ek (HM1.out r hlt (by rw[←HY.out];exact HE.out)),rfl⟩
   ·have hq:(y==x)=false:=(by rw[beq_eq_false_iff_ne];exact he);have HE:=Hd he;clear he;go_wp2_with fail;go_roundg (gk-1);case measure=>have:=HR.out;omega
    case rel=>
     refine⟨r+1,by have:=HR.out;omega,by go_num,fun i hi=> ?_,rfl⟩
     by_cases e:i=r
     ·rw[e,←HY.out];exact HE.out
     ·exact HNO.out i (by omega)
  ·obtain rfl:r=n:=(by have:=HR.out;omega);have hlt':decide (r<r)=false:=decide_eq_false hlt;go_wp2_with fail;go_ret;exact⟨Ek (HM2.out HNO.out),rfl⟩
def Vb (t:List NodeD)(ps:List Int)(k:Nat):Prop:=∀(x:Nat) (v vp:Value) (w:World),TreeR w v t→Rd w vp (ivs .i64 ps)→IsLev x k→x+2^k≤t.length→
 Calls Tryz.prog 86 #[v,.int .i64 (x:Nat),vp] w fun e w'=>∃v',e=.returned v'∧Own w' w.heap.size 5 v' (bvs (Hz (woD t ps) k x))∧Below w.heap.size w w'
def Zl (t:List NodeD)(ps:List Int)(k:Nat):Prop:=∀(x:Nat) (v vp:Value) (w:World),TreeR w v t→Rd w vp (ivs .i64 ps)→IsLev x k→x+2^k≤t.length→
 Calls Tryz.prog 76 #[v,.int .i64 (x:Nat),vp] w fun e w'=>∃v',e=.returned v'∧Own w' w.heap.size 5 v' (bvs (Ev (woD t ps) k x))∧Below w.heap.size w w'
theorem NodeC.alloc {w:World} {d:NodeD} {c:Array Value}(h:NodeC w d c)(o:Obj):NodeC (w.alloc o) d c:=h.below ((Below.refl w.heap.size w).alloc lR o) lR
theorem Xa (t:List NodeD)(ps:List Int)(hs:Ez t=true)(hok:TreeOk t)(hp:Gc t=true):Vb t ps 0:=by
 intro x v vp w h hpr hlev hx;have hev:=Fb hlev;have hx:x<t.length:=(by have:(2:Nat)^0=1:=rfl;omega);obtain⟨a,c,rfl,hc,hc2⟩:=h.sl;obtain⟨b,off,cs,rfl,hbl,hnc,hra⟩:=h.node hx;have HEV:=Hd (show(nd t x).kind≠2 by have:=(Iq hp hx).1;rwa [Sw hev]at this);have hlen:=Fn hs;obtain⟨n,hn⟩:=eX t.length;rw[←hn]at hx hc hlen⊢;obtain⟨m,hm0⟩:=eX (x/2);have hq:(x:Int)/2=(m:Int):=(by omega);have hm:(x:Int)%2=0:=(by omega);have HAS:=Hd (fun(W:World) (hw:Below w.heap.size w W)=>Qs vp ps (m:Int) W (hpr.below hw lR));have HT:=Hd (show Hz (woD t ps) 0 x=([1]++beN 4 m)++Bd (if(m:Int)∈ps then Ar else nd t x) by rw[Dv,Zcu hev,hm0]);have HKN:=Hd (show NodeOk (nd t x)from hok.nd x);have HSN:=Hd (Ln hs x);obtain⟨a1,c1,a2,c2,a3,c3,a4,c4,a5,c5,b1,e1,b2,e2,b3,e3,hcs,-⟩:=id hnc;obtain⟨kd,hkd⟩:=eX ((nd t x).kind);obtain⟨l1,hl1⟩:=eX ((nd t x).leaf.box.length);obtain⟨l2,hl2⟩:=eX ((nd t x).leaf.sign.length);obtain⟨l3,hl3⟩:=eX ((nd t x).leaf.ident.length);obtain⟨l4,hl4⟩:=eX ((nd t x).leaf.par.length);obtain⟨l5,hl5⟩:=eX ((nd t x).leaf.sig.length);obtain⟨l6,hl6⟩:=eX ((nd t x).par.box.length);obtain⟨l7,hl7⟩:=eX ((nd t x).par.hash.length);obtain⟨l8,hl8⟩:=eX ((nd t x).par.late.length);obtain⟨s,hsrc⟩:=eX ((nd t x).leaf.source);rw[←hkd,←hl1,←hl2,←hl3,←hl4,←hl5,←hl6,←hl7,←hl8,←hsrc]at hcs;have HNC:=Hd hnc;rw[hcs]at hra HNC;have HRA:=Hd hra;have hx40:x<40:=(by omega);have HNUM:=Hd (fun(W:World)=>(show Calls Tryz.prog 64 #[.int .i64 4,.int .u64 (m:Nat)] W fun e w'=>∃v,e=.returned v∧Own w' W.heap.size 5 v (bvs (beN 4 m))∧Below W.heap.size W w' from Kn 4 m W (by omega) (by omega)));have HHH:=Hd hm0;have hvp:∃a c,vp=.slice a ps.length c:=(by obtain⟨a,c,e,_⟩:=hpr;exact⟨a,c,by rw[e];simp[ivs]⟩);obtain⟨pa,pc,rfl⟩:=hvp;obtain⟨pn,hpn⟩:=eX ps.length;rw[←hpn]at HAS⊢;clear hnc hra hcs hkd hl1 hl2 hl3 hl4 hl5 hl6 hl7 hl8 hsrc hok hp hs h hpr hm0 hn hlev hpn;rw[HT.out];obtain⟨D,hD⟩:=eX ((if(m:Int)∈ps then Ar else nd t x));have HDE:=Hd hD;rw[←hD];clear hD;have key:∀(wz:World) (CS:Array Value),Blk wz w.heap.size 52 CS→NodeC wz D CS→Below w.heap.size w wz→NodeOk D→Cc D=true→D.kind≠2→True:=fun _ _ _ _ _ _ _ _=>trivial;clear key;cases hmem:decide ((m:Int)∈ps)with
 |true=>
  have HA:=Hd (fun(W:World) (hw:Below w.heap.size w W)=>by have:=HAS.out W hw;rw[hmem]at this;exact this);have hDn:D=Ar:=(by rw[HDE.out,if_pos (of_decide_eq_true hmem)]);have HDN:=Hd hDn;clear hmem hDn;go_enter Tryz.func86,Tryz.ntmps86;go_wp2_with (refine wpList_load_mid rfl 52 (.tmp 14) rfl b (off+x*10) rfl [.int .u8 (kd:Nat),.slice a1 l1 c1,.slice a2 l2 c2,.slice a3 l3 c3,.int .u8 (s:Nat),.slice a4 l4 c4,.slice a5 l5 c5,.slice b1 l6 e1,.slice b2 l7 e2,.slice b3 l8 e3] _ HRA.out Tryz.underlying52 rfl Ba ?_);refine(HA.out _ (bR.alloc lR _)).mono ?_;rintro e w1 ⟨rfl,rfl⟩;go_wp2_with fail;have HNZ:=Hd (show NodeC (w.alloc (.cells #[.int .u8 0,.slice none 0 0,.slice none 0 0,.slice none 0 0,.int .u8 0,.slice none 0 0,.slice none 0 0,.slice none 0 0,.slice none 0 0,.slice none 0 0] 52)) D #[.int .u8 0,.slice none 0 0,.slice none 0 0,.slice none 0 0,.int .u8 0,.slice none 0 0,.slice none 0 0,.slice none 0 0,.slice none 0 0,.slice none 0 0]from by rw[HDN.out];exact Ha _);obtain⟨wz,hwz⟩:=eX (w.alloc (.cells #[.int .u8 0,.slice none 0 0,.slice none 0 0,.slice none 0 0,.int .u8 0,.slice none 0 0,.slice none 0 0,.slice none 0 0,.slice none 0 0,.slice none 0 0] 52));have HBK:=Hd (show Blk wz w.heap.size 52 #[.int .u8 0,.slice none 0 0,.slice none 0 0,.slice none 0 0,.int .u8 0,.slice none 0 0,.slice none 0 0,.slice none 0 0,.slice none 0 0,.slice none 0 0] by rw[hwz];exact Blk.new w _ _);have HBW:=Hd (show Below w.heap.size w wz by rw[hwz];exact bR.alloc lR _);rw[←hwz]at HNZ⊢;obtain⟨CS,hCS⟩:=eX ((#[.int .u8 0,.slice none 0 0,.slice none 0 0,.slice none 0 0,.int .u8 0,.slice none 0 0,.slice none 0 0,.slice none 0 0,.slice none 0 0,.slice none 0 0]:Array Value));rw[←hCS]at HNZ HBK;have HIN:=Hd (show(Tryz.prog.info? 52).map (·.size)=some CS.size by rw[hCS];exact Ba);have HBY:=Hd (fun(W:World) (hw:Below wz.heap.size wz W)=>Fm D CS W (HNZ.out.below hw lR) (by rw[HDN.out];exact Bt) (by rw[HDN.out];exact Lm) (fun e=>absurd e (by rw[HDN.out];decide)));have hNBl:=Cy (d:=D) (by rw[HDN.out];exact Lm);obtain⟨NB,hNB⟩:=eX (Bd D);rw[←hNB]at HBY hNBl;have HNE:=Hd hNB;have HLEN:=Hd (show([1]++beN 4 m).length+NB.length<1000000000 by rw[aG,beN_len];simp only[cR,bL];omega);clear hwz hCS hNBl hNB;refine Dg [fun v w'=>Own w' wz.heap.size 5 v (bvs [1]),eF (.int .i64 (x:Nat)),eF (.int .i64 (m:Nat)),eF (.int .u64 (m:Nat)),fun v w'=>Own w' wz.heap.size 5 v (bvs (beN 4 m)),fun v w'=>Own w' wz.heap.size 5 v (bvs ([1]++beN 4 m)),eF (.agg CS),fun v w'=>Own w' wz.heap.size 5 v (bvs NB),fun v w'=>Own w' wz.heap.size 5 v (bvs (([1]++beN 4 m)++NB)),fun v w'=>Own w' wz.heap.size 5 v (bvs (([1]++beN 4 m)++NB))] (by kernel_rfl) (by kernel_rfl) (by kernel_rfl) (Ag (fun v x y h _ hs=>Own.below h hs lR) (kE (kE (kE (Ag (fun v x y h _ hs=>Own.below h hs lR) (Ag (fun v x y h _ hs=>Own.below h hs lR) (kE (Ag (fun v x y h _ hs=>Own.below h hs lR) (Ag (fun v x y h _ hs=>Own.below h hs lR) (Ag (fun v x y h _ hs=>Own.below h hs lR) (Ai))))))))))) ?_ ?_
  ·refine gB ?_ (gQ ?_ (gB ?_ (gQ ?_ (gB ?_ (gB ?_ (gB ?_ (gB ?_ (gB ?_ (gB ?_ .nil)))))))));all_goals
    intro a wx hbx ho hf;refine⟨rfl,?_⟩;intro K hK;try have P1:a.tmps[1]?.getD undef=.int .i64 (x:Nat):=ho 1 (by kernel_rfl)
    try have P7:a.tmps[7]?.getD undef=.pointer (some ⟨w.heap.size,0,none⟩):=ho 7 (by kernel_rfl)
    try have E0:=eqn hf.1
    try have D0:IntKind.u64.wrap ((m:Int))=(m:Int):=by rw[IntKind.wrap_u64];omega
    try(refine Hd ?_;go_simp;exact hK _ rfl)
   ·
    go_simp;exact hK _ _ (Own.full (B:=wz.heap.size) (cs:=#[.int .u8 1]) rfl (hbx.size) (by unfold maxLen;simp) rfl) (bR.alloc lR _)
   ·have gw0:(x:Int)/2=(m:Int):=hq;have gw1:IntKind.i64.wrap ((m:Int))=(m:Int):=(by rw[IntKind.wrap_i64];omega);have gw2:(x:Int)/2=(m:Int):=(by omega);have gw3:IntKind.i64.wrap ((x:Int)/2)=(m:Int):=(by rw[gw2];exact gw1);have gw4:dR ((x:Int)) 2=(m:Int):=(by rw[dS (by omega)];omega);have gw5:IntKind.i64.wrap (dR ((x:Int)) 2)=(m:Int):=(by rw[gw4];exact gw1);go_simp;exact hK _ _ rfl bR
   ·go_simp;refine(HNUM.out wx).mono ?_;rintro e w2 ⟨v9,rfl,hown,hb2⟩;exact hK _ _ (hown.mono hbx.size) hb2
   ·have o0:Own wx wz.heap.size 5 (a.tmps[24]?.getD undef) (bvs [1]):=hf.1;obtain⟨v0,hv0⟩:=eX (a.tmps[24]?.getD undef);rw[←hv0]at o0;have e0:=hv0.symm;clear hv0;have o1:Own wx wz.heap.size 5 (a.tmps[28]?.getD undef) (bvs (beN 4 m)):=hf.2.1;obtain⟨v1,hv1⟩:=eX (a.tmps[28]?.getD undef);rw[←hv1]at o1;have e1:=hv1.symm;clear hv1;go_simp;refine(Dx v0 v1 [1] (beN 4 m) wx o0.rd o1.rd (by rw[beN_len];simp)).mono ?_;rintro e w2 ⟨v9,rfl,hown,hb2⟩;exact hK _ _ (hown.mono hbx.size) hb2
   ·exact wp_load_row 52 (.tmp 7) rfl _ (evs P7) _ _ (0,0) _ (HBK.out.below hbx HBK.out.lt) Tryz.underlying52 rfl (HIN.out) (hK _ _ rfl bR)
   ·go_simp;refine(HBY.out wx hbx).mono ?_;rintro e w2 ⟨v9,rfl,hown,hb2⟩;exact hK _ _ (hown.mono hbx.size) hb2
   ·have o0:Own wx wz.heap.size 5 (a.tmps[29]?.getD undef) (bvs ([1]++beN 4 m)):=hf.1;obtain⟨v0,hv0⟩:=eX (a.tmps[29]?.getD undef);rw[←hv0]at o0;have e0:=hv0.symm;clear hv0;have o1:Own wx wz.heap.size 5 (a.tmps[31]?.getD undef) (bvs NB):=hf.2.1;obtain⟨v1,hv1⟩:=eX (a.tmps[31]?.getD undef);rw[←hv1]at o1;have e1:=hv1.symm;clear hv1;go_simp;refine(Dx v0 v1 ([1]++beN 4 m) NB wx o0.rd o1.rd HLEN.out).mono ?_;rintro e w2 ⟨v9,rfl,hown,hb2⟩;exact hK _ _ (hown.mono hbx.size) hb2
   ·have o0:Own wx wz.heap.size 5 (a.tmps[32]?.getD undef) (bvs (([1]++beN 4 m)++NB)):=hf.1;obtain⟨v0,hv0⟩:=eX (a.tmps[32]?.getD undef);rw[←hv0]at o0;have e0:=hv0.symm;clear hv0;go_simp;exact hK _ _ o0 bR
  ·rintro f w9 hb9 hfin;have hb9:Below wz.heap.size wz w9:=hb9;have S6:Own w9 wz.heap.size 5 (f 6) (bvs (([1]++beN 4 m)++NB)):=hfin.2.2.2.2.2.2.2.2.2.1;clear hfin;simp only[Al,Au,En,cS,cT,cU,cV,Nat.reduceBEq,Nat.reduceAdd,cW,cX,cond_true,cond_false];obtain⟨u6,hu6⟩:=eX (f 6);rw[←hu6]at S6⊢;clear hu6;have HO:=Hd S6;have HB9:=Hd hb9;clear S6 hb9;go_wp2_with fail;go_ret;exact⟨_,rfl,by have:=HO.out.mono HBW.out.size;rw[HNE.out]at this;exact this,HBW.out.trans (HB9.out.mono HBW.out.size)⟩
 |false=>
  have HA:=Hd (fun(W:World) (hw:Below w.heap.size w W)=>by have:=HAS.out W hw;rw[hmem]at this;exact this);have hDn:D=nd t x:=(by rw[HDE.out,if_neg (of_decide_eq_false hmem)]);have HDN:=Hd hDn;clear hmem hDn;go_enter Tryz.func86,Tryz.ntmps86;go_wp2_with (refine wpList_load_mid rfl 52 (.tmp 14) rfl b (off+x*10) rfl [.int .u8 (kd:Nat),.slice a1 l1 c1,.slice a2 l2 c2,.slice a3 l3 c3,.int .u8 (s:Nat),.slice a4 l4 c4,.slice a5 l5 c5,.slice b1 l6 e1,.slice b2 l7 e2,.slice b3 l8 e3] _ HRA.out Tryz.underlying52 rfl Ba ?_);refine(HA.out _ (bR.alloc lR _)).mono ?_;rintro e w1 ⟨rfl,rfl⟩;go_wp2_with fail;have HNZ:=Hd (show NodeC (w.alloc (.cells #[.int .u8 (kd:Nat),.slice a1 l1 c1,.slice a2 l2 c2,.slice a3 l3 c3,.int .u8 (s:Nat),.slice a4 l4 c4,.slice a5 l5 c5,.slice b1 l6 e1,.slice b2 l7 e2,.slice b3 l8 e3] 52)) D #[.int .u8 (kd:Nat),.slice a1 l1 c1,.slice a2 l2 c2,.slice a3 l3 c3,.int .u8 (s:Nat),.slice a4 l4 c4,.slice a5 l5 c5,.slice b1 l6 e1,.slice b2 l7 e2,.slice b3 l8 e3]from by rw[HDN.out];exact HNC.out.alloc _);obtain⟨wz,hwz⟩:=eX (w.alloc (.cells #[.int .u8 (kd:Nat),.slice a1 l1 c1,.slice a2 l2 c2,.slice a3 l3 c3,.int .u8 (s:Nat),.slice a4 l4 c4,.slice a5 l5 c5,.slice b1 l6 e1,.slice b2 l7 e2,.slice b3 l8 e3] 52));have HBK:=Hd (show Blk wz w.heap.size 52 #[.int .u8 (kd:Nat),.slice a1 l1 c1,.slice a2 l2 c2,.slice a3 l3 c3,.int .u8 (s:Nat),.slice a4 l4 c4,.slice a5 l5 c5,.slice b1 l6 e1,.slice b2 l7 e2,.slice b3 l8 e3] by rw[hwz];exact Blk.new w _ _);have HBW:=Hd (show Below w.heap.size w wz by rw[hwz];exact bR.alloc lR _);rw[←hwz]at HNZ⊢;obtain⟨CS,hCS⟩:=eX ((#[.int .u8 (kd:Nat),.slice a1 l1 c1,.slice a2 l2 c2,.slice a3 l3 c3,.int .u8 (s:Nat),.slice a4 l4 c4,.slice a5 l5 c5,.slice b1 l6 e1,.slice b2 l7 e2,.slice b3 l8 e3]:Array Value));rw[←hCS]at HNZ HBK;have HIN:=Hd (show(Tryz.prog.info? 52).map (·.size)=some CS.size by rw[hCS];exact Ba);have HBY:=Hd (fun(W:World) (hw:Below wz.heap.size wz W)=>Fm D CS W (HNZ.out.below hw lR) (by rw[HDN.out];exact HKN.out) (by rw[HDN.out];exact HSN.out) (fun e=>absurd e (by rw[HDN.out];exact HEV.out)));have hNBl:=Cy (d:=D) (by rw[HDN.out];exact HSN.out);obtain⟨NB,hNB⟩:=eX (Bd D);rw[←hNB]at HBY hNBl;have HNE:=Hd hNB;have HLEN:=Hd (show([1]++beN 4 m).length+NB.length<1000000000 by rw[aG,beN_len];simp only[cR,bL];omega);clear hwz hCS hNBl hNB;refine Dg [fun v w'=>Own w' wz.heap.size 5 v (bvs [1]),eF (.int .i64 (x:Nat)),eF (.int .i64 (m:Nat)),eF (.int .u64 (m:Nat)),fun v w'=>Own w' wz.heap.size 5 v (bvs (beN 4 m)),fun v w'=>Own w' wz.heap.size 5 v (bvs ([1]++beN 4 m)),eF (.agg CS),fun v w'=>Own w' wz.heap.size 5 v (bvs NB),fun v w'=>Own w' wz.heap.size 5 v (bvs (([1]++beN 4 m)++NB)),fun v w'=>Own w' wz.heap.size 5 v (bvs (([1]++beN 4 m)++NB))] (by kernel_rfl) (by kernel_rfl) (by kernel_rfl) (Ag (fun v x y h _ hs=>Own.below h hs lR) (kE (kE (kE (Ag (fun v x y h _ hs=>Own.below h hs lR) (Ag (fun v x y h _ hs=>Own.below h hs lR) (kE (Ag (fun v x y h _ hs=>Own.below h hs lR) (Ag (fun v x y h _ hs=>Own.below h hs lR) (Ag (fun v x y h _ hs=>Own.below h hs lR) (Ai))))))))))) ?_ ?_
  ·refine gB ?_ (gQ ?_ (gB ?_ (gQ ?_ (gB ?_ (gB ?_ (gB ?_ (gB ?_ (gB ?_ (gB ?_ .nil)))))))));all_goals
    intro a wx hbx ho hf;refine⟨rfl,?_⟩;intro K hK;try have P1:a.tmps[1]?.getD undef=.int .i64 (x:Nat):=ho 1 (by kernel_rfl)
    try have P7:a.tmps[7]?.getD undef=.pointer (some ⟨w.heap.size,0,none⟩):=ho 7 (by kernel_rfl)
    try have E0:=eqn hf.1
    try have D0:IntKind.u64.wrap ((m:Int))=(m:Int):=by rw[IntKind.wrap_u64];omega
    try(refine Hd ?_;go_simp;exact hK _ rfl)
   ·
    go_simp;exact hK _ _ (Own.full (B:=wz.heap.size) (cs:=#[.int .u8 1]) rfl (hbx.size) (by unfold maxLen;simp) rfl) (bR.alloc lR _)
   ·have gw0:(x:Int)/2=(m:Int):=hq;have gw1:IntKind.i64.wrap ((m:Int))=(m:Int):=(by rw[IntKind.wrap_i64];omega);have gw2:(x:Int)/2=(m:Int):=(by omega);have gw3:IntKind.i64.wrap ((x:Int)/2)=(m:Int):=(by rw[gw2];exact gw1);have gw4:dR ((x:Int)) 2=(m:Int):=(by rw[dS (by omega)];omega);have gw5:IntKind.i64.wrap (dR ((x:Int)) 2)=(m:Int):=(by rw[gw4];exact gw1);go_simp;exact hK _ _ rfl bR
   ·go_simp;refine(HNUM.out wx).mono ?_;rintro e w2 ⟨v9,rfl,hown,hb2⟩;exact hK _ _ (hown.mono hbx.size) hb2
   ·have o0:Own wx wz.heap.size 5 (a.tmps[24]?.getD undef) (bvs [1]):=hf.1;obtain⟨v0,hv0⟩:=eX (a.tmps[24]?.getD undef);rw[←hv0]at o0;have e0:=hv0.symm;clear hv0;have o1:Own wx wz.heap.size 5 (a.tmps[28]?.getD undef) (bvs (beN 4 m)):=hf.2.1;obtain⟨v1,hv1⟩:=eX (a.tmps[28]?.getD undef);rw[←hv1]at o1;have e1:=hv1.symm;clear hv1;go_simp;refine(Dx v0 v1 [1] (beN 4 m) wx o0.rd o1.rd (by rw[beN_len];simp)).mono ?_;rintro e w2 ⟨v9,rfl,hown,hb2⟩;exact hK _ _ (hown.mono hbx.size) hb2
   ·exact wp_load_row 52 (.tmp 7) rfl _ (evs P7) _ _ (0,0) _ (HBK.out.below hbx HBK.out.lt) Tryz.underlying52 rfl (HIN.out) (hK _ _ rfl bR)
   ·go_simp;refine(HBY.out wx hbx).mono ?_;rintro e w2 ⟨v9,rfl,hown,hb2⟩;exact hK _ _ (hown.mono hbx.size) hb2
   ·have o0:Own wx wz.heap.size 5 (a.tmps[29]?.getD undef) (bvs ([1]++beN 4 m)):=hf.1;obtain⟨v0,hv0⟩:=eX (a.tmps[29]?.getD undef);rw[←hv0]at o0;have e0:=hv0.symm;clear hv0;have o1:Own wx wz.heap.size 5 (a.tmps[31]?.getD undef) (bvs NB):=hf.2.1;obtain⟨v1,hv1⟩:=eX (a.tmps[31]?.getD undef);rw[←hv1]at o1;have e1:=hv1.symm;clear hv1;go_simp;refine(Dx v0 v1 ([1]++beN 4 m) NB wx o0.rd o1.rd HLEN.out).mono ?_;rintro e w2 ⟨v9,rfl,hown,hb2⟩;exact hK _ _ (hown.mono hbx.size) hb2
   ·have o0:Own wx wz.heap.size 5 (a.tmps[32]?.getD undef) (bvs (([1]++beN 4 m)++NB)):=hf.1;obtain⟨v0,hv0⟩:=eX (a.tmps[32]?.getD undef);rw[←hv0]at o0;have e0:=hv0.symm;clear hv0;go_simp;exact hK _ _ o0 bR
  ·rintro f w9 hb9 hfin;have hb9:Below wz.heap.size wz w9:=hb9;have S6:Own w9 wz.heap.size 5 (f 6) (bvs (([1]++beN 4 m)++NB)):=hfin.2.2.2.2.2.2.2.2.2.1;clear hfin;simp only[Al,Au,En,cS,cT,cU,cV,Nat.reduceBEq,Nat.reduceAdd,cW,cX,cond_true,cond_false];obtain⟨u6,hu6⟩:=eX (f 6);rw[←hu6]at S6⊢;clear hu6;have HO:=Hd S6;have HB9:=Hd hb9;clear S6 hb9;go_wp2_with fail;go_ret;exact⟨_,rfl,by have:=HO.out.mono HBW.out.size;rw[HNE.out]at this;exact this,HBW.out.trans (HB9.out.mono HBW.out.size)⟩
def Pa (ps:List Int)(u:Int):Bool:=decide (u∉ps)
theorem Zm {ps:List Int} {u:Int}(h:u∉ps):Pa ps u=true:=decide_eq_true h
theorem Zcv {ps:List Int} {u:Int}(h:u∈ps):¬Pa ps u=true:=by unfold Pa;simp[h]
theorem Kj (L:List Int)(p:Int→Bool) {i:Nat}(h:i<L.length):(L.take (i+1)).filter p=(L.take i).filter p++(if p (L.getD i 0)=true then [L.getD i 0]else []):=by
 rw[List.take_succ_eq_append_getElem h,List.filter_append]
 congr 1
 rw[aH,aI h,List.filter_cons];simp
theorem Xb (t:List NodeD)(ps:List Int)(hs:Ez t=true)(hok:TreeOk t)(hp:Gc t=true)(k:Nat)(IH:Zl t ps k):Vb t ps (k+1):=by
 intro x v vp w h hpr hlev hx;have hod:=He hlev;have hlen:=Fn hs;have hpw:2^(k+1)=2*2^k:=(by rw[aN];omega);have hp1:0<2^k:=aP (by simp);have hxt:x<t.length:=(by omega);obtain⟨hkl,hkr,hl1',hl2',hkx⟩:=kids_lev (by omega) hlev;have KD:=fun(W:World)=>Fa (x:Int) W;rw[hkl,hkr]at KD;obtain⟨a,c,rfl,hc,hc2⟩:=h.sl;obtain⟨b,off,cs,rfl,hbl,hnc,hra⟩:=h.node hxt;have HL:=Hd (fun(W:World) (hw:Below w.heap.size w W)=>IH (x-2^k) _ vp W (h.below hw lR) (hpr.below hw lR) hl1' (by omega));have HR:=Hd (fun(W:World) (hw:Below w.heap.size w W)=>IH (x+2^k) _ vp W (h.below hw lR) (hpr.below hw lR) hl2' (by omega));obtain⟨n,hn⟩:=eX t.length;rw[←hn]at HL HR hc hlen hxt⊢;have hkd2:(nd t x).kind≠1:=(by have:=(Iq hp (x:=x) (by omega)).1;rwa [Wu hod]at this);have hrt:=(Iq hp (x:=x) (by omega)).2;have hLB:∀u∈(woD t ps x).par.late,0≤u∧u<65536:=by
  rw[Tg hod];intro u hu;exact Dt (Bn hrt) u (List.mem_filter.1 hu).1
 have hWO:NodeOk (woD t ps x):=by
  have:=hok.nd x;rw[Tg hod];exact⟨this.kind,this.source,this.box,this.sign,this.ident,this.par,this.sig,this.pbox,this.hash,fun u hu=>this.late u (List.mem_filter.1 hu).1⟩
 have hWS:=Ly hs ps x;have HT:=Hd (Dw (woD t ps) k x);obtain⟨H1,hH1⟩:=eX (Ev (woD t ps) k (x-2^k));obtain⟨H2,hH2⟩:=eX (Ev (woD t ps) k (x+2^k));have hH1l:H1.length=32:=(by rw[hH1];exact Cz _ _ _);have hH2l:H2.length=32:=(by rw[hH2];exact Cz _ _ _);rw[←hH1,←hH2]at HT;rw[←hH1]at HL;rw[←hH2]at HR;obtain⟨xl,hxl⟩:=eX (x-2^k);obtain⟨xr,hxr⟩:=eX (x+2^k);rw[←hxl]at HL KD;rw[←hxr]at HR KD;have HKD:=Hd KD;obtain⟨D,hD⟩:=eX (woD t ps x);have hDe:D=⟨(nd t x).kind,(nd t x).leaf,⟨(nd t x).par.box,(nd t x).par.hash,(nd t x).par.late.filter (Pa ps)⟩⟩:=(by rw[hD,Tg hod];rfl);rw[←hD]at HT hLB hWO hWS;rw[HT.out];have hNBl:=Cy hWS;have hm:(x:Int)%2=1:=(by omega);obtain⟨a1,c1,a2,c2,a3,c3,a4,c4,a5,c5,b1,e1,b2,e2,b3,e3,hcs,h1,h2,h3,h4,h5,h6,h7,h8⟩:=id hnc
 -- the late ones
 obtain⟨LT,hLT⟩:=eX ((nd t x).par.late);have hLTl:LT.length≤60:=(by have:=of_decide_eq_true (Qm hs x);rw[hLT];omega);rw[←hLT]at h8 hDe
 -- behind the loop the node's cells are those of D
 have FIN:=fun(W:World) (z1:Option Addr) (z2 z3:Nat) (hw:Below w.heap.size w W) (hz:Rd W (.slice z1 z2 z3) (ivs .i64 (LT.filter (Pa ps))))=>
  (show NodeC W D #[.int .u8 ((nd t x).kind:Nat),.slice a1 (nd t x).leaf.box.length c1,.slice a2 (nd t x).leaf.sign.length c2,.slice a3 (nd t x).leaf.ident.length c3,.int .u8 ((nd t x).leaf.source:Nat),.slice a4 (nd t x).leaf.par.length c4,.slice a5 (nd t x).leaf.sig.length c5,.slice b1 (nd t x).par.box.length e1,.slice b2 (nd t x).par.hash.length e2,.slice z1 z2 z3] by
   have e2':z2=(LT.filter (Pa ps)).length:=by
    obtain⟨_,_,e,_⟩:=hz;simp only[Value.slice.injEq]at e;rw[e.2.1];simp[ivs]
   subst e2';rw[hDe];exact⟨a1,c1,a2,c2,a3,c3,a4,c4,a5,c5,b1,e1,b2,e2,z1,z3,rfl,h1.below hw lR,h2.below hw lR,h3.below hw lR,h4.below hw lR,h5.below hw lR,h6.below hw lR,h7.below hw lR,hz⟩)
 obtain⟨kd,hkd⟩:=eX ((nd t x).kind);obtain⟨l1,hl1⟩:=eX ((nd t x).leaf.box.length);obtain⟨l2,hl2⟩:=eX ((nd t x).leaf.sign.length);obtain⟨l3,hl3⟩:=eX ((nd t x).leaf.ident.length);obtain⟨l4,hl4⟩:=eX ((nd t x).leaf.par.length);obtain⟨l5,hl5⟩:=eX ((nd t x).leaf.sig.length);obtain⟨l6,hl6⟩:=eX ((nd t x).par.box.length);obtain⟨l7,hl7⟩:=eX ((nd t x).par.hash.length);obtain⟨l8,hl8⟩:=eX LT.length;obtain⟨s,hsrc⟩:=eX ((nd t x).leaf.source);rw[←hLT]at hcs;rw[←hl8]at h8;rw[←hkd,←hl1,←hl2,←hl3,←hl4,←hl5,←hl6,←hl7,←hl8,←hsrc]at hcs;rw[←hkd,←hl1,←hl2,←hl3,←hl4,←hl5,←hl6,←hl7,←hsrc]at FIN;have HFIN:=Hd FIN;have hl60:l8≤60:=(by omega);rw[hcs]at hra;have HRA:=Hd hra;have HAS:=Hd (fun(u:Int) (W:World) (hw:Below w.heap.size w W)=>Qs vp ps u W (hpr.below hw lR));have HLT:=Hd h8;have HL8:=Hd hl8;have HBY:=Hd (fun(CS:Array Value) (W:World) (hw:NodeC W D CS)=>Fm D CS W hw hWO hWS (fun _=>hLB));obtain⟨NB,hNB⟩:=eX (Bd D);rw[←hNB]at HBY hNBl⊢;have HNBl:=Hd hNBl;have HH1:=Hd hH1l;have HH2:=Hd hH2l;obtain⟨l80,hl80⟩:∃l,l≤e3∧l=l8:=⟨l8,by have:=(Fk h8).1;exact this,rfl⟩;have hl8e:l8≤e3:=(Fk h8).1;have he3:e3≤9223372036854775807:=(Fk h8).2;obtain⟨pa,pn,pc,rfl⟩:∃a n c,vp=.slice a n c:=(by obtain⟨a,c,e,_⟩:=hpr;exact⟨_,_,_,e⟩);clear hl80 FIN hnc h1 h2 h3 h4 h5 h6 h7 h8 hcs hra hkd hl1 hl2 hl3 hl4 hl5 hl6 hl7 hl8 hsrc hLT hDe hD hNB hNBl hH1 hH2 hH1l hH2l hxl hxr KD hpr h hok hs hp hn IH hlev hx hpw hp1 hkl hkr hl1' hl2' hkx hkd2 hrt hLB hWO hWS hod hLTl;go_enter Tryz.func86,Tryz.ntmps86;go_wp2_with (refine wpList_load_mid rfl 52 (.tmp 14) rfl b (off+x*10) rfl [.int .u8 (kd:Nat),.slice a1 l1 c1,.slice a2 l2 c2,.slice a3 l3 c3,.int .u8 (s:Nat),.slice a4 l4 c4,.slice a5 l5 c5,.slice b1 l6 e1,.slice b2 l7 e2,.slice b3 l8 e3] _ HRA.out Tryz.underlying52 rfl Ba ?_);obtain⟨wz,hwz⟩:=eX (w.alloc (.cells #[.int .u8 (kd:Nat),.slice a1 l1 c1,.slice a2 l2 c2,.slice a3 l3 c3,.int .u8 (s:Nat),.slice a4 l4 c4,.slice a5 l5 c5,.slice b1 l6 e1,.slice b2 l7 e2,.slice b3 l8 e3] 52));have HBK:=Hd (show Blk wz w.heap.size 52 #[.int .u8 (kd:Nat),.slice a1 l1 c1,.slice a2 l2 c2,.slice a3 l3 c3,.int .u8 (s:Nat),.slice a4 l4 c4,.slice a5 l5 c5,.slice b1 l6 e1,.slice b2 l7 e2,.slice b3 l8 e3] by rw[hwz];exact Blk.new w _ _);have HBW:=Hd (show Below w.heap.size w wz by rw[hwz];exact bR.alloc lR _);have hwl:w.heap.size<wz.heap.size:=HBK.out.lt;rw[←hwz];clear hwz
 go_loopg [8,9] l8 (fun q lv iv wr=>∃i:Nat,i+q=l8∧iv=.int .i64 (i:Nat)∧Own wr wz.heap.size 3 lv (ivs .i64 ((LT.take i).filter (Pa ps)))∧Below wz.heap.size wz wr)
 case atStart=>exact⟨0,by omega,rfl,Own.nil _ _ _,bR⟩
 case round=>
  obtain⟨i,hi,rfl,hown,hb⟩:=hrel;have HI:=Hd hi;have HO:=Hd hown;have HB:=Hd hb;have HBZ:=Hd (HBW.out.trans (hb.mono HBW.out.size));obtain⟨v1,v2,v3,rfl⟩:=Dp hown;have k9:wr.cell? ⟨w.heap.size,9,none⟩=some (.slice b3 l8 e3):=(HBK.out.below hb hwl).cell 9;have hwr:w.heap.size<wr.heap.size:=dP hwl hb.size
  by_cases hlt:i<l8
  ·have hlt':decide (i<l8)=true:=decide_eq_true hlt;have hlI:(i:Int)<(l8:Int):=(by omega);obtain⟨lb,lo,hb3,hbl2,hcell⟩:=(HLT.out.below HBZ.out lR).at3 (r:=i) (u:=.int .i64 (LT.getD i 0)) (by simp[ivs,aH,show i<LT.length by have:=HL8.out;omega]);have HFS:=Hd (Kj LT (Pa ps) (show i<LT.length by have:=HL8.out;omega));obtain⟨u,hu⟩:=eX (LT.getD i 0);rw[←hu]at hcell HFS;subst hb3;have HA:=HAS.out u wr HBZ.out;cases hmem:decide (u∈ps)with
   |true=>
    rw[hmem]at HA;have HAA:=Hd HA;have HM:=Hd (of_decide_eq_true hmem);clear hi hown hb hu HA hmem;go_wp2_with fail;refine(HAA.out).mono ?_;rintro e w1 ⟨rfl,rfl⟩;go_wp2_with fail;go_roundg (gk-1);case measure=>have:=HI.out;omega
    case rel=>
     refine⟨i+1,by have:=HI.out;omega,by go_num,?_,HB.out⟩;rw[HFS.out,if_neg (Zcv HM.out),List.append_nil];exact HO.out
   |false=>
    rw[hmem]at HA;have HAA:=Hd HA;have HM:=Hd (of_decide_eq_false hmem);clear hi hown hb hu HA hmem;go_wp2_with fail;refine(HAA.out).mono ?_;rintro e w1 ⟨rfl,rfl⟩;go_wp2_with (at_builtin;refine An rfl (.tmp 50) (.tmp 57) 48 rfl wz.heap.size 3 _ 8 Cl _ _ rfl (HO.out.alloc _) ⟨w1.heap.size,0,none⟩ (.int .i64 u) rfl ?c1 rfl ?c2 ?c3 ?_);case c1=>exact Aq rfl
    case c2=>have:=dO (Pa ps) (LT.take i);have h2:=List.length_take_le i LT;rw[Zd];omega
    case c3=>have:=HB.out.size;simp;omega
    rintro v' w2 hown1 hg1 hb1;clear hg1;have HO1:=Hd hown1;have HB1:=Hd ((HB.out.alloc HB.out.size (.cells #[.int .i64 u] 3)).trans hb1);obtain⟨y1,y2,y3,rfl⟩:=Dp hown1;clear hown1 hb1;go_wp2_with fail;go_roundg (gk-1);case measure=>have:=HI.out;omega
    case rel=>
     refine⟨i+1,by have:=HI.out;omega,by go_num,?_,HB1.out⟩;rw[HFS.out,if_pos (Zm HM.out),Kr];exact HO1.out
  ·obtain rfl:i=l8:=(by omega);have hlt':decide (i<i)=false:=decide_eq_false hlt;have hLe:LT.take i=LT:=List.take_of_length_le (by have:=HL8.out;omega);rw[hLe]at HO;have kf:wr.frozen? ⟨w.heap.size,9,none⟩=false:=(HBK.out.below hb hwl).frozen 9;have HB2:=Hd ((HBK.out.below hb hwl).set 9 (.slice v1 v2 v3));clear hi hown hb hlt hLe;have HZS:=Hd (show Below w.heap.size w (wr.setCell ⟨w.heap.size,9,none⟩ (.slice v1 v2 v3))from HBZ.out.setCell (p:=⟨w.heap.size,9,none⟩) lR _);have HOS:=Hd (HO.out.setLow (p:=⟨w.heap.size,9,none⟩) hwl (.slice v1 v2 v3));obtain⟨ws,hws⟩:=eX (wr.setCell ⟨w.heap.size,9,none⟩ (.slice v1 v2 v3));rw[←hws]at HB2 HZS HOS;have HB2':=Hd (show Blk ws w.heap.size 52 #[.int .u8 (kd:Nat),.slice a1 l1 c1,.slice a2 l2 c2,.slice a3 l3 c3,.int .u8 (s:Nat),.slice a4 l4 c4,.slice a5 l5 c5,.slice b1 l6 e1,.slice b2 l7 e2,.slice v1 v2 v3]from HB2.out);have hwsl:w.heap.size<ws.heap.size:=HB2.out.lt;clear HB2 HO;go_wp2_with fail;rw[←hws];clear hws k9 kf hwr;refine(HKD.out _).mono ?_;rintro e w2 ⟨rfl,hb2⟩;have HB3:=Hd (HB2'.out.below hb2 hwsl);have HZ2:=Hd (HZS.out.trans (hb2.mono HZS.out.size));have HO2:=Hd ((HOS.out.below hb2 lR).rd);have HL2:=Hd (show Rd (w2.alloc (.cells #[.int .u8 2] 5)) (.slice (some ⟨w2.heap.size,0,none⟩) 1 1) (bvs [2])from Rd.lit _ _ _ _ _ rfl rfl (by unfold maxLen;simp));have HZ3:=Hd (HZ2.out.alloc HZ2.out.size (.cells #[.int .u8 2] 5));have HC3:=Hd (HFIN.out (w2.alloc (.cells #[.int .u8 2] 5)) v1 v2 v3 HZ3.out (HO2.out.alloc _));clear hb2 HOS HB2' HZS;go_wp2_with (refine wpList_load_row rfl 52 (.tmp 7) rfl w.heap.size rfl 52 #[.int .u8 (kd:Nat),.slice a1 l1 c1,.slice a2 l2 c2,.slice a3 l3 c3,.int .u8 (s:Nat),.slice a4 l4 c4,.slice a5 l5 c5,.slice b1 l6 e1,.slice b2 l7 e2,.slice v1 v2 v3] (0,0) _ (HB3.out.alloc _) Tryz.underlying52 rfl Ba ?_);refine(HBY.out _ _ HC3.out).mono ?_;rintro e w4 ⟨u4,rfl,hown4,hb4⟩;have HZ4:=Hd (HZ3.out.trans (hb4.mono HZ3.out.size));have HO4:=Hd hown4.rd;have HL4:=Hd (HL2.out.below hb4 lR);clear hown4 hb4;obtain⟨x1,x2,x3,rfl⟩:=rdS HO4.out;go_wp2_with fail;refine(Dx _ _ [2] NB w4 HL4.out HO4.out (by have:=HNBl.out;simp only[cR,bL];omega)).mono ?_;rintro e w5 ⟨u5,rfl,hown5,hb5⟩;have HZ5:=Hd (HZ4.out.trans (hb5.mono HZ4.out.size));have HO5:=Hd hown5.rd;clear hown5 hb5;obtain⟨x4,x5,x6,rfl⟩:=rdS HO5.out;go_wp2_with fail;refine(HL.out w5 HZ5.out).mono ?_;rintro e w6 ⟨u6,rfl,hown6,hb6⟩;have HZ6:=Hd (HZ5.out.trans (hb6.mono HZ5.out.size));have HO6:=Hd hown6.rd;have HP6:=Hd (HO5.out.below hb6 lR);clear hown6 hb6;obtain⟨x7,x8,x9,rfl⟩:=rdS HO6.out;go_wp2_with fail;refine(Db _ H1 w6 HO6.out (by have:=HH1.out;omega)).mono ?_;rintro e w7 ⟨u7,rfl,hown7,hb7⟩;have HZ7:=Hd (HZ6.out.trans (hb7.mono HZ6.out.size));have HO7:=Hd hown7.rd;have HP7:=Hd (HP6.out.below hb7 lR);clear hown7 hb7;obtain⟨y1,y2,y3,rfl⟩:=rdS HO7.out;go_wp2_with fail;refine(HR.out w7 HZ7.out).mono ?_;rintro e w8 ⟨u8,rfl,hown8,hb8⟩;have HZ8:=Hd (HZ7.out.trans (hb8.mono HZ7.out.size));have HO8:=Hd hown8.rd;have HQ8:=Hd (HO7.out.below hb8 lR);have HP8:=Hd (HP7.out.below hb8 lR);clear hown8 hb8;obtain⟨y4,y5,y6,rfl⟩:=rdS HO8.out;go_wp2_with fail;refine(Db _ H2 w8 HO8.out (by have:=HH2.out;omega)).mono ?_;rintro e w9 ⟨u9,rfl,hown9,hb9⟩;have HZ9:=Hd (HZ8.out.trans (hb9.mono HZ8.out.size));have HO9:=Hd hown9.rd;have HQ9:=Hd (HQ8.out.below hb9 lR);have HP9:=Hd (HP8.out.below hb9 lR);clear hown9 hb9;obtain⟨y7,y8,y9,rfl⟩:=rdS HO9.out;go_wp2_with fail;refine(Dx _ _ (As H1) (As H2) w9 HQ9.out HO9.out (by have:=Nj HH1.out;have:=Nj HH2.out;omega)).mono ?_;rintro e wA ⟨uA,rfl,hownA,hbA⟩;have HZA:=Hd (HZ9.out.trans (hbA.mono HZ9.out.size));have HOA:=Hd hownA.rd;have HPA:=Hd (HP9.out.below hbA lR);clear hownA hbA;obtain⟨z1,z2,z3,rfl⟩:=rdS HOA.out;go_wp2_with fail;refine(Dx _ _ ([2]++NB) (As H1++As H2) wA HPA.out HOA.out (by have:=Nj HH1.out;have:=Nj HH2.out;have:=HNBl.out;simp only[aG,cR,bL];omega)).mono ?_;rintro e wB ⟨uB,rfl,hownB,hbB⟩;have HZB:=Hd (HZA.out.trans (hbB.mono HZA.out.size));have HOB:=Hd (hownB.mono HZA.out.size);clear hownB hbB;go_wp2_with fail;go_ret;exact⟨_,rfl,HOB.out,HZB.out⟩
end Go.Proofs.YtfofaiommeckbaaGreat
namespace Go.Proofs.YtfofaiommeckbaaGreat
open Go.RowKit
section
section
variable {P:Program} {l:List Oper} {Q:Exit→Act→World→Prop} {sat:List Eg} {tl:List Bool} {q:Nat} {a0:Act} {W:World} {i:Nat} {o:Oper}
abbrev Zga (P:Program)(l:List Oper)(Q:Exit→Act→World→Prop)(sat:List Eg)(tl:List Bool)(q:Nat)(a0:Act)(W:World)(i:Nat)(o:Oper):Prop:=Sp P l Q sat (fun x=>Below W.heap.size W x) (fun x y=>Below x.heap.size x y) none q tl a0 W i o
abbrev OwedAll6 (P:Program)(l:List Oper)(Q:Exit→Act→World→Prop)(sat:List Eg)(tl:List Bool)(q:Nat)(a0:Act)(W:World)(i:Nat)(os:List Oper):Prop:=OwedAll8 P l Q sat (fun x=>Below W.heap.size W x) (fun x y=>Below x.heap.size x y) none q tl a0 W i os
theorem OwedAll6.nil:OwedAll6 P l Q sat tl q a0 W i []:=trivial
theorem OwedAll6.cons {os:List Oper}(h:Zga P l Q sat tl q a0 W i o)(t:OwedAll6 P l Q sat tl q a0 W (i+1) os):OwedAll6 P l Q sat tl q a0 W i (o::os):=⟨h,t⟩
theorem Hr {id:Nat} {a:Act} {w:World} (sat:List Eg) (fin tl:List Bool) (q:Nat) (hm:P.follows .mixedOrders=true) (hk:Wk sat) (hd:Gi l a.tmps.size=true) (he:Dc l=true) (hla:Sn l fin tl q=true)
  (hops:OwedAll6 P l Q sat tl q a w 0 l)
  (hend:∀(f:Nat→Value) (w':World),Co sat fin f w' 0 l→Q .normal (Al l a f) w'):
  (Code.region id l.toArray true).wp P Q a w:=
 Fy sat fin _ _ none q tl hm (fun j _ _=>⟨fun v x y _ hv _ hs=>hk j v x y hv hs,fun v x y hq=>by cases hq⟩) (fun i j _ _ v x y hv hb=>hk j v x y hv hb) ⟨rfl,rfl,rfl,lR,fun _ _=>rfl⟩ (fun _ _ _ h=>h) (fun _ _ hx hs=>hx.trans (hs.mono hx.size)) hd he hla hops hend
theorem Pb (h:∀(a:Act) (w:World),(tl.getD i false=false→Below W.heap.size W w)→(∀s,Cd l i s=true→a.tmps[s]?.getD undef=a0.tmps[s]?.getD undef)→Ei sat l a w o.after.toList→
      Region.wanted o (yielded l.toArray a.tmps)=true∧∀K:Act→World→Prop,(∀v w',(sat.getD i (fun _ _=>True)) (Bs o a v) w'→(i≠q→Below w.heap.size w w')→K (a.put o.dst v) w')→Oper.wp P o a w K Q):Zga P l Q sat tl q a0 W i o:=by
 intro a w hb ho hf K hK;rw[if_pos (h a w (fun ht=>(hb ht).1) ho hf).1];refine(h a w (fun ht=>(hb ht).1) ho hf).2 K fun v w' hv hs=>hK v w' hv fun hiz=> ?_;cases htl:tl.getD i false with
 |true=>exact hs hiz
 |false=>exact Ae (i:=i) (q:=none) rfl (hs hiz)
end
end
section
section
variable {P:Program} {l:List Oper} {Q:Exit→Act→World→Prop} {sat:List Eg} {tl:List Bool} {q:Nat} {a0:Act} {W:World} {i:Nat} {o:Oper} {os:List Oper}
theorem kT {x:Value}(t:Wk sat):Wk (eF x::sat):=Ds (fun _ _ _ h _=>h) t
theorem gU (htl:tl.getD i false=false) (h:∀(a:Act) (w:World),Below W.heap.size W w→(∀s,Cd l i s=true→a.tmps[s]?.getD undef=a0.tmps[s]?.getD undef)→Ei sat l a w o.after.toList→
      Region.wanted o (yielded l.toArray a.tmps)=true∧∀K:Act→World→Prop,(∀v w',(sat.getD i (fun _ _=>True)) (Bs o a v) w'→(i≠q→Below w.heap.size w w')→K (a.put o.dst v) w')→Oper.wp P o a w K Q)
  (t:OwedAll6 P l Q sat tl q a0 W (i+1) os):OwedAll6 P l Q sat tl q a0 W i (o::os):=.cons (Pb fun a w h1 h2 h3=>h a w (h1 htl) h2 h3) t
theorem gT (htl:tl.getD i false=false) (h:∀(a:Act) (w:World),Below W.heap.size W w→(∀s,Cd l i s=true→a.tmps[s]?.getD undef=a0.tmps[s]?.getD undef)→Ei sat l a w o.after.toList→
      Region.wanted o (yielded l.toArray a.tmps)=true∧∀K:Act→World→Prop,(∀v,(sat.getD i (fun _ _=>True)) (Bs o a v) w→K (a.put o.dst v) w)→Hid (Oper.wp P o a w K Q))
  (t:OwedAll6 P l Q sat tl q a0 W (i+1) os):OwedAll6 P l Q sat tl q a0 W i (o::os):=
 gU htl (fun a w h1 h2 h3=>⟨(h a w h1 h2 h3).1,fun K hK=>((h a w h1 h2 h3).2 K fun v hv=>hK v w hv fun _=>bR).out⟩) t
end
end
open WalkM
end Go.Proofs.YtfofaiommeckbaaGreat
namespace Go.Proofs.YtfofaiommeckbaaGreat
open Go.RowKit
open WireM
end Go.Proofs.YtfofaiommeckbaaGreat
