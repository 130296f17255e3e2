/- Nodes of a tree as data: what their values read as; which may be. -/
import Derived.Test.YtfofaiommeckbaaGreatZPatchMakesB
import Derived.Test.YtfofaiommeckbaaGreatZPatchMakes06
open List renaming getElem?_toArray → bN, getElem?_cons_zero → bO, getElem?_cons_succ → bP, length_append → aG, append_assoc → bQ
set_option linter.unusedVariables false
set_option maxRecDepth 100000
set_option maxHeartbeats 40000000
namespace Go.Proofs.YtfofaiommeckbaaGreat
open Go.RowKit WireM
structure LeafD where
 box:List Nat
 sign:List Nat
 ident:List Nat
 source:Nat
 par:List Nat
 sig:List Nat
structure ParD where
 box:List Nat
 hash:List Nat
 late:List Int
structure NodeD where
 kind:Nat
 leaf:LeafD
 par:ParD
def rlB (n1 n2 n3 s n4 n5:Nat):Bool:=decide (n1=32∧n2=32∧n5=64∧1≤n3∧n3≤64∧1≤s∧s≤3∧(n4=0∨(s=3∧n4=32)))
def nlB (n1 n2 n3 s n4 n5:Nat):Bool:=decide (s=0∧n1+n2+n3+n4+n5=0)
def npB (n1 n2 n3:Nat):Bool:=decide (n1+n2+n3=0)
theorem Oj (a1 a2 a3 a4 a5:Option Addr)(n1 n2 n3 n4 n5 c1 c2 c3 c4 c5 s:Nat)(w:World):
  Calls Tryz.prog 210 #[.agg #[.slice a1 n1 c1,.slice a2 n2 c2,.slice a3 n3 c3,.int .u8 (s:Nat),.slice a4 n4 c4,.slice a5 n5 c5]] w fun e w'=>e=.returned (.bool (rlB n1 n2 n3 s n4 n5))∧Below w.heap.size w w':=by
 by_cases k0:n1≠32
 ·have HE:Hid (rlB n1 n2 n3 s n4 n5=false):=Hd (by rw[rlB,decide_eq_false_iff_not];omega);have t0:((n1:Int) !=32)=true:=(by rw[bne_iff_ne];omega);clear k0;go_enter Tryz.func210,Tryz.ntmps210;go_wp2_with fail;go_ret;exact⟨Ad HE.out.symm,bR.alloc lR _⟩
 ·have t0:((n1:Int) !=32)=false:=by rw[bne_eq_false_iff_eq];omega
  by_cases k1:n2≠32
  ·have HE:Hid (rlB n1 n2 n3 s n4 n5=false):=Hd (by rw[rlB,decide_eq_false_iff_not];omega);have t1:((n2:Int) !=32)=true:=(by rw[bne_iff_ne];omega);clear k1;go_enter Tryz.func210,Tryz.ntmps210;go_wp2_with fail;go_ret;exact⟨Ad HE.out.symm,bR.alloc lR _⟩
  ·have t1:((n2:Int) !=32)=false:=by rw[bne_eq_false_iff_eq];omega
   by_cases k2:n5≠64
   ·have HE:Hid (rlB n1 n2 n3 s n4 n5=false):=Hd (by rw[rlB,decide_eq_false_iff_not];omega);have t2:((n5:Int) !=64)=true:=(by rw[bne_iff_ne];omega);clear k2;go_enter Tryz.func210,Tryz.ntmps210;go_wp2_with fail;go_ret;exact⟨Ad HE.out.symm,bR.alloc lR _⟩
   ·have t2:((n5:Int) !=64)=false:=by rw[bne_eq_false_iff_eq];omega
    by_cases k3:n3<1
    ·have HE:Hid (rlB n1 n2 n3 s n4 n5=false):=Hd (by rw[rlB,decide_eq_false_iff_not];omega);have t3:decide ((n3:Int)<1)=true:=(by rw[decide_eq_true_iff];omega);clear k3;go_enter Tryz.func210,Tryz.ntmps210;go_wp2_with fail;go_ret;exact⟨Ad HE.out.symm,bR.alloc lR _⟩
    ·have t3:decide ((n3:Int)<1)=false:=by rw[decide_eq_false_iff_not];omega
     by_cases k4:64<n3
     ·have HE:Hid (rlB n1 n2 n3 s n4 n5=false):=Hd (by rw[rlB,decide_eq_false_iff_not];omega);have t4:decide (64<(n3:Int))=true:=(by rw[decide_eq_true_iff];omega);clear k4;go_enter Tryz.func210,Tryz.ntmps210;go_wp2_with fail;go_ret;exact⟨Ad HE.out.symm,bR.alloc lR _⟩
     ·have t4:decide (64<(n3:Int))=false:=by rw[decide_eq_false_iff_not];omega
      by_cases k5:s<1
      ·have HE:Hid (rlB n1 n2 n3 s n4 n5=false):=Hd (by rw[rlB,decide_eq_false_iff_not];omega);have t5:decide ((s:Int)<1)=true:=(by rw[decide_eq_true_iff];omega);clear k5;go_enter Tryz.func210,Tryz.ntmps210;go_wp2_with fail;go_ret;exact⟨Ad HE.out.symm,bR.alloc lR _⟩
      ·have t5:decide ((s:Int)<1)=false:=by rw[decide_eq_false_iff_not];omega
       by_cases k6:3<s
       ·have HE:Hid (rlB n1 n2 n3 s n4 n5=false):=Hd (by rw[rlB,decide_eq_false_iff_not];omega);have t6:decide (3<(s:Int))=true:=(by rw[decide_eq_true_iff];omega);clear k6;go_enter Tryz.func210,Tryz.ntmps210;go_wp2_with fail;go_ret;exact⟨Ad HE.out.symm,bR.alloc lR _⟩
       ·have t6:decide (3<(s:Int))=false:=by rw[decide_eq_false_iff_not];omega
        by_cases k7:n4=0
        ·have HE:Hid (rlB n1 n2 n3 s n4 n5=true):=Hd (by rw[rlB,decide_eq_true_iff];omega);have t7:((n4:Int)==0)=true:=(by rw[beq_iff_eq];omega);clear k0 k1 k2 k3 k4 k5 k6 k7;go_enter Tryz.func210,Tryz.ntmps210;go_wp2_with fail;go_ret;exact⟨Ad HE.out.symm,bR.alloc lR _⟩
        ·have t7:((n4:Int)==0)=false:=by rw[beq_eq_false_iff_ne];omega
         by_cases k8:s=3
         ·have t8:((s:Int)==3)=true:=by rw[beq_iff_eq];omega
          by_cases k9:n4=32
          ·have HE:Hid (rlB n1 n2 n3 s n4 n5=true):=Hd (by rw[rlB,decide_eq_true_iff];omega);have t9:((n4:Int)==32)=true:=(by rw[beq_iff_eq];omega);clear k0 k1 k2 k3 k4 k5 k6 k7 k8 k9;go_enter Tryz.func210,Tryz.ntmps210;go_wp2_with fail;go_ret;exact⟨Ad HE.out.symm,bR.alloc lR _⟩
          ·have HE:Hid (rlB n1 n2 n3 s n4 n5=false):=Hd (by rw[rlB,decide_eq_false_iff_not];omega);have t9:((n4:Int)==32)=false:=(by rw[beq_eq_false_iff_ne];omega);clear k0 k1 k2 k3 k4 k5 k6 k7 k8 k9;go_enter Tryz.func210,Tryz.ntmps210;go_wp2_with fail;go_ret;exact⟨Ad HE.out.symm,bR.alloc lR _⟩
         ·have HE:Hid (rlB n1 n2 n3 s n4 n5=false):=Hd (by rw[rlB,decide_eq_false_iff_not];omega);have t8:((s:Int)==3)=false:=(by rw[beq_eq_false_iff_ne];omega);clear k0 k1 k2 k3 k4 k5 k6 k7 k8;go_enter Tryz.func210,Tryz.ntmps210;go_wp2_with fail;go_ret;exact⟨Ad HE.out.symm,bR.alloc lR _⟩
theorem Wj (a1 a2 a3 a4 a5:Option Addr)(n1 n2 n3 n4 n5 c1 c2 c3 c4 c5 s:Nat)(h1:n1≤maxLen)(hs:n1+n2+n3+n4+n5<4611686018427387904)(w:World):
  Calls Tryz.prog 208 #[.agg #[.slice a1 n1 c1,.slice a2 n2 c2,.slice a3 n3 c3,.int .u8 (s:Nat),.slice a4 n4 c4,.slice a5 n5 c5]] w fun e w'=>e=.returned (.bool (nlB n1 n2 n3 s n4 n5))∧Below w.heap.size w w':=by
 by_cases k0:s=0
 ·have t0:((s:Int)==0)=true:=by rw[beq_iff_eq];omega
  by_cases k1:n1+n2+n3+n4+n5=0
  ·have HE:Hid (nlB n1 n2 n3 s n4 n5=true):=Hd (by rw[nlB,decide_eq_true_iff];omega);have t1:((n1:Int)+(n2:Int)+(n3:Int)+(n4:Int)+(n5:Int)==0)=true:=(by rw[beq_iff_eq];omega);clear k0 k1 h1;go_enter Tryz.func208,Tryz.ntmps208;go_wp2_with fail;go_ret;exact⟨Ad HE.out.symm,bR.alloc lR _⟩
  ·have HE:Hid (nlB n1 n2 n3 s n4 n5=false):=Hd (by rw[nlB,decide_eq_false_iff_not];omega);have t1:((n1:Int)+(n2:Int)+(n3:Int)+(n4:Int)+(n5:Int)==0)=false:=(by rw[beq_eq_false_iff_ne];omega);clear k0 k1 h1;go_enter Tryz.func208,Tryz.ntmps208;go_wp2_with fail;go_ret;exact⟨Ad HE.out.symm,bR.alloc lR _⟩
 ·have HE:Hid (nlB n1 n2 n3 s n4 n5=false):=Hd (by rw[nlB,decide_eq_false_iff_not];omega);have t0:((s:Int)==0)=false:=(by rw[beq_eq_false_iff_ne];omega);clear k0 h1;go_enter Tryz.func208,Tryz.ntmps208;go_wp2_with fail;go_ret;exact⟨Ad HE.out.symm,bR.alloc lR _⟩
theorem Qb (a1 a2 a3:Option Addr)(n1 n2 n3 c1 c2 c3:Nat)(hs:n1+n2+n3<4611686018427387904)(w:World):
  Calls Tryz.prog 209 #[.agg #[.slice a1 n1 c1,.slice a2 n2 c2,.slice a3 n3 c3]] w fun e w'=>e=.returned (.bool (npB n1 n2 n3))∧Below w.heap.size w w':=by
 by_cases k1:n1+n2+n3=0
 ·have HE:Hid (npB n1 n2 n3=true):=Hd (by rw[npB,decide_eq_true_iff];omega);have t1:((n1:Int)+(n2:Int)+(n3:Int)==0)=true:=(by rw[beq_iff_eq];omega);clear k1;go_enter Tryz.func209,Tryz.ntmps209;go_wp2_with fail;go_ret;exact⟨Ad HE.out.symm,bR.alloc lR _⟩
 ·have HE:Hid (npB n1 n2 n3=false):=Hd (by rw[npB,decide_eq_false_iff_not];omega);have t1:((n1:Int)+(n2:Int)+(n3:Int)==0)=false:=(by rw[beq_eq_false_iff_ne];omega);clear k1;go_enter Tryz.func209,Tryz.ntmps209;go_wp2_with fail;go_ret;exact⟨Ad HE.out.symm,bR.alloc lR _⟩
def Hn (L:List Int)(i:Nat):Int:=if i=0 then-1 else L.getD (i-1) 0
def Le (L:List Int)(r:Nat):Prop:=∀i,i<r→Hn L i<L.getD i 0∧L.getD i 0<65536
def Kh (L:List Int):Bool:=(List.range L.length).all fun i=>decide (Hn L i<L.getD i 0∧L.getD i 0<65536)
theorem Ih (L:List Int):Kh L=true↔Le L L.length:=by
 unfold Kh Le;rw[List.all_eq_true];constructor
 ·intro h i hi;have:=h i (List.mem_range.2 hi);exact of_decide_eq_true this
 ·intro h i hi;exact decide_eq_true (h i (List.mem_range.1 hi))
theorem Lf {L:List Int} {r:Nat}(hr:r<L.length)(h:¬(Hn L r<L.getD r 0∧L.getD r 0<65536)):Kh L=false:=by
 rw[←Bool.not_eq_true,Ih];intro hl;exact h (hl r hr)
def rpB (n1 n2:Nat)(late:List Int):Bool:=Kh late&&decide (n1=32∧(n2=0∨n2=32))
theorem Lg (a1 a2 a3:Option Addr)(n1 n2 c1 c2 c3:Nat)(L:List Int)(w:World)(hr:Rd w (.slice a3 L.length c3) (ivs .i64 L)):
  Calls Tryz.prog 211 #[.agg #[.slice a1 n1 c1,.slice a2 n2 c2,.slice a3 L.length c3]] w fun e w'=>e=.returned (.bool (rpB n1 n2 L))∧Below w.heap.size w w':=by
 have hcs:=hr.icases;obtain⟨a3',cap,he,hc1,hc2,-⟩:=id hr;rw[Km]at hc1;simp only[Value.slice.injEq]at he;obtain⟨rfl,-,rfl⟩:=he;obtain⟨k,hk⟩:=eX L.length;have hcell:∀r,r<k→∃b o,a3=some ⟨b,o,none⟩∧b<w.heap.size∧w.cell? ⟨b,o+r,none⟩=some (.int .i64 (L.getD r 0)):=by
  intro r hrk;rcases hcs with⟨_,_,he,h0⟩|⟨b,off,cap',_,_,_,he,hb,hc⟩
  ·rw[h0]at hk;simp at hk;omega
  ·simp only[Value.slice.injEq]at he;exact⟨b,off,he.1,hb,hc r (by omega)⟩
 rw[←hk]at hc1⊢;have hkm:k≤9223372036854775807:=(by unfold maxLen at hc2;omega);have HC:=Hd hcell;have HK:=Hd hk;clear hcs hcell hk hr;go_enter Tryz.func211,Tryz.ntmps211;go_wp2_with fail
 go_loopg [3,9] k (fun q last i wr=>∃r:Nat,r+q=k∧i=.int .i64 (r:Int)∧last=.int .i64 (Hn L r)∧Le L r∧wr=w.alloc (.cells #[.slice a1 n1 c1,.slice a2 n2 c2,.slice a3 k c3] 50))
 case atStart=>exact⟨0,by omega,rfl,rfl,fun i h=>absurd h (by omega),rfl⟩
 case round=>
  obtain⟨r,hr,rfl,rfl,hok,rfl⟩:=hrel;have HOK:=Hd hok;clear hok
  by_cases hrk:r<k
  ·obtain⟨b,o,rfl,hb,c0⟩:=HC.out r hrk;have hp:Hn L (r+1)=L.getD r 0:=(by rw[Hn,if_neg (by omega),Nat.add_sub_cancel]);have hF:= @Lf L r (by have:=HK.out;omega);obtain⟨x,hx⟩:=eX (L.getD r 0);rw[←hx]at c0 hp hF;obtain⟨y,hy⟩:=eX (Hn L r);rw[←hy]at hF⊢;have HX:=Hd hx;have HY:=Hd hy;have HP:=Hd hp;have HF:=Hd hF;clear hx hy hp hF
   by_cases k1:x≤y
   ·have HE:=Hd (HF.out (by omega));go_wp2_with fail;go_ret;exact⟨by rw[rpB,HE.out];rfl,bR.alloc lR _⟩
   ·have k1':y<x:=by omega
    by_cases k2:65536≤x
    ·have HE:=Hd (HF.out (by omega));clear k1;go_wp2_with fail;go_ret;exact⟨by rw[rpB,HE.out];rfl,bR.alloc lR _⟩
    ·have k2':x<65536:=(by omega);clear k1 k2;go_wp2_with fail;go_roundg (gk-1);case measure=>omega
     case rel=>
      refine⟨r+1,by omega,by go_num,by rw[HP.out],?_,rfl⟩;intro i hi;rcases Nat.lt_or_ge i r with h|h
      ·exact HOK.out i h
      ·obtain rfl:i=r:=(by omega);rw[←HX.out,←HY.out];exact⟨k1',k2'⟩
  ·obtain rfl:r=k:=(by omega);have hl:Kh L=true:=(by rw[Ih,←HK.out];exact HOK.out);have hB:rpB n1 n2 L=decide (n1=32∧(n2=0∨n2=32)):=(by rw[rpB,hl,Bool.true_and]);have HB:=Hd hB;clear hl hB
   by_cases k1:n1=32
   ·have t1:((n1:Int)==32)=true:=by rw[beq_iff_eq];omega
    by_cases k2:n2=0
    ·have t2:((n2:Int)==0)=true:=(by rw[beq_iff_eq];omega);have HE:=Hd (decide_eq_true (show n1=32∧(n2=0∨n2=32)from⟨k1,.inl k2⟩));clear k1 k2;go_wp2_with fail;go_ret;exact⟨Ad (HB.out.trans HE.out).symm,bR.alloc lR _⟩
    ·have t2:((n2:Int)==0)=false:=by rw[beq_eq_false_iff_ne];omega
     by_cases k3:n2=32
     ·have t3:((n2:Int)==32)=true:=(by rw[beq_iff_eq];omega);have HE:=Hd (decide_eq_true (show n1=32∧(n2=0∨n2=32)from⟨k1,.inr k3⟩));clear k1 k2 k3;go_wp2_with fail;go_ret;exact⟨Ad (HB.out.trans HE.out).symm,bR.alloc lR _⟩
     ·have t3:((n2:Int)==32)=false:=(by rw[beq_eq_false_iff_ne];omega);have HE:=Hd (decide_eq_false (show¬(n1=32∧(n2=0∨n2=32)) by omega));clear k1 k2 k3;go_wp2_with fail;go_ret;exact⟨Ad (HB.out.trans HE.out).symm,bR.alloc lR _⟩
   ·have t1:((n1:Int)==32)=false:=(by rw[beq_eq_false_iff_ne];omega);have HE:=Hd (decide_eq_false (show¬(n1=32∧(n2=0∨n2=32)) by omega));clear k1;go_wp2_with fail;go_ret;exact⟨Ad (HB.out.trans HE.out).symm,bR.alloc lR _⟩
def Aw (d:NodeD):Bool:=
 let l:=d.leaf
 let p:=d.par
 if d.kind=0 then nlB l.box.length l.sign.length l.ident.length l.source l.par.length l.sig.length&&npB p.box.length p.hash.length p.late.length
 else if d.kind=1 then rlB l.box.length l.sign.length l.ident.length l.source l.par.length l.sig.length&&npB p.box.length p.hash.length p.late.length
 else if d.kind=2 then nlB l.box.length l.sign.length l.ident.length l.source l.par.length l.sig.length&&rpB p.box.length p.hash.length p.late
 else false
def NodeC (w:World)(d:NodeD)(c:Array Value):Prop:=
 ∃a1 c1 a2 c2 a3 c3 a4 c4 a5 c5 b1 e1 b2 e2 b3 e3,c=#[.int .u8 (d.kind:Nat),.slice a1 d.leaf.box.length c1,.slice a2 d.leaf.sign.length c2,.slice a3 d.leaf.ident.length c3,.int .u8 (d.leaf.source:Nat),.slice a4 d.leaf.par.length c4,.slice a5 d.leaf.sig.length c5,
  .slice b1 d.par.box.length e1,.slice b2 d.par.hash.length e2,.slice b3 d.par.late.length e3]∧
  Rd w (.slice a1 d.leaf.box.length c1) (bvs d.leaf.box)∧Rd w (.slice a2 d.leaf.sign.length c2) (bvs d.leaf.sign)∧Rd w (.slice a3 d.leaf.ident.length c3) (bvs d.leaf.ident)∧
  Rd w (.slice a4 d.leaf.par.length c4) (bvs d.leaf.par)∧Rd w (.slice a5 d.leaf.sig.length c5) (bvs d.leaf.sig)∧
  Rd w (.slice b1 d.par.box.length e1) (bvs d.par.box)∧Rd w (.slice b2 d.par.hash.length e2) (bvs d.par.hash)∧Rd w (.slice b3 d.par.late.length e3) (ivs .i64 d.par.late)
structure NodeOk (d:NodeD):Prop where
 kind:d.kind<256
 source:d.leaf.source<256
 box:∀n∈d.leaf.box,n<256
 sign:∀n∈d.leaf.sign,n<256
 ident:∀n∈d.leaf.ident,n<256
 par:∀n∈d.leaf.par,n<256
 sig:∀n∈d.leaf.sig,n<256
 pbox:∀n∈d.par.box,n<256
 hash:∀n∈d.par.hash,n<256
 late:∀n∈d.par.late,-9223372036854775808≤n∧n≤9223372036854775807
def Cc (d:NodeD):Bool:=decide (d.leaf.box.length≤200∧d.leaf.sign.length≤200∧d.leaf.ident.length≤200∧d.leaf.par.length≤200∧d.leaf.sig.length≤200∧d.par.box.length≤200∧d.par.hash.length≤200∧d.par.late.length≤1000)
def exB (d:NodeD):Bool:=decide (d.leaf.box.length≤200∧d.leaf.sign.length≤200∧d.leaf.ident.length≤200∧d.leaf.par.length≤200∧d.leaf.sig.length≤200∧d.par.box.length≤200∧d.par.hash.length≤200∧d.par.late.length≤60)
theorem Qc {d:NodeD}(h:exB d=true):Cc d=true:=by
 have:=of_decide_eq_true h;exact decide_eq_true ⟨this.1,this.2.1,this.2.2.1,this.2.2.2.1,this.2.2.2.2.1,this.2.2.2.2.2.1,this.2.2.2.2.2.2.1,Nat.le_trans this.2.2.2.2.2.2.2 (by decide)⟩
theorem NodeC.below {w w':World} {B:Nat} {d:NodeD} {c:Array Value}(h:NodeC w d c)(hb:Below B w w')(hB:w.heap.size≤B):NodeC w' d c:=by
 obtain⟨a1,c1,a2,c2,a3,c3,a4,c4,a5,c5,b1,e1,b2,e2,b3,e3,rfl,h1,h2,h3,h4,h5,h6,h7,h8⟩:=h;exact⟨a1,c1,a2,c2,a3,c3,a4,c4,a5,c5,b1,e1,b2,e2,b3,e3,rfl,h1.below hb hB,h2.below hb hB,h3.below hb hB,h4.below hb hB,h5.below hb hB,h6.below hb hB,h7.below hb hB,h8.below hb hB⟩
theorem Fk {w:World} {a:Option Addr} {n c:Nat} {xs:List Value}(h:Rd w (.slice a n c) xs):n≤c∧c≤9223372036854775807:=by
 obtain⟨a',c',he,h1,h2,_⟩:=h;simp only[Value.slice.injEq]at he;obtain⟨_,rfl,rfl⟩:=he;unfold maxLen at h2;exact⟨h1,h2⟩
theorem Qd (d:NodeD)(c:Array Value)(w:World)(h:NodeC w d c)(hs:Cc d=true):
  Calls Tryz.prog 169 #[.agg c] w fun e w'=>e=.returned (.bool (Aw d))∧Below w.heap.size w w':=by
 have hsm:=of_decide_eq_true hs;obtain⟨a1,c1,a2,c2,a3,c3,a4,c4,a5,c5,b1,e1,b2,e2,b3,e3,rfl,h1,h2,h3,h4,h5,h6,h7,h8⟩:=h;obtain⟨kind,leaf,par⟩:=d;simp only at h1 h2 h3 h4 h5 h6 h7 h8 hsm⊢;have RL:=fun w=>Oj a1 a2 a3 a4 a5 leaf.box.length leaf.sign.length leaf.ident.length leaf.par.length leaf.sig.length c1 c2 c3 c4 c5 leaf.source w;have NL:=fun w=>Wj a1 a2 a3 a4 a5 leaf.box.length leaf.sign.length leaf.ident.length leaf.par.length leaf.sig.length c1 c2 c3 c4 c5 leaf.source (by unfold maxLen;omega) (by omega) w;have NP:=fun w=>Qb b1 b2 b3 par.box.length par.hash.length par.late.length e1 e2 e3 (by omega) w;have RP:=fun w h=>Lg b1 b2 b3 par.box.length par.hash.length e1 e2 e3 par.late w h;have hB:Aw ⟨kind,leaf,par⟩=(if kind=0 then nlB leaf.box.length leaf.sign.length leaf.ident.length leaf.source leaf.par.length leaf.sig.length&&npB par.box.length par.hash.length par.late.length
  else if kind=1 then rlB leaf.box.length leaf.sign.length leaf.ident.length leaf.source leaf.par.length leaf.sig.length&&npB par.box.length par.hash.length par.late.length
  else if kind=2 then nlB leaf.box.length leaf.sign.length leaf.ident.length leaf.source leaf.par.length leaf.sig.length&&rpB par.box.length par.hash.length par.late else false):=rfl
 rw[hB];obtain⟨m1,hm1⟩:=eX leaf.box.length;obtain⟨m2,hm2⟩:=eX leaf.sign.length;obtain⟨m3,hm3⟩:=eX leaf.ident.length;obtain⟨m4,hm4⟩:=eX leaf.par.length;obtain⟨m5,hm5⟩:=eX leaf.sig.length;obtain⟨m6,hm6⟩:=eX par.box.length;obtain⟨m7,hm7⟩:=eX par.hash.length;rw[←hm1,←hm2,←hm3,←hm4,←hm5]at RL NL;rw[←hm6,←hm7]at NP RP;rw[←hm1,←hm2,←hm3,←hm4,←hm5,←hm6,←hm7];obtain⟨m8,hm8⟩:=eX par.late.length;rw[←hm8]at NP RP h8⊢;obtain⟨src,hsrc⟩:=eX leaf.source;rw[←hsrc]at RL NL⊢;obtain⟨rl,hrl⟩:=eX (rlB m1 m2 m3 src m4 m5);rw[←hrl]at RL⊢;obtain⟨nl,hnl⟩:=eX (nlB m1 m2 m3 src m4 m5);rw[←hnl]at NL⊢;obtain⟨np,hnp⟩:=eX (npB m6 m7 m8);rw[←hnp]at NP⊢;obtain⟨rp,hrp⟩:=eX (rpB m6 m7 par.late);rw[←hrp]at RP⊢;have HRL:=Hd RL;have HNL:=Hd NL;have HNP:=Hd NP;have HRP:=Hd RP;have H8:=Hd h8;clear RL NL NP RP h1 h2 h3 h4 h5 h6 h7 h8 hm1 hm2 hm3 hm4 hm5 hm6 hm7 hm8 hsrc hrl hnl hnp hrp hB hs hsm;have hb0:∀cs:Array Value,Below w.heap.size w (w.alloc (.cells cs 52)):=fun cs=>bR.alloc lR _;have HB0:=Hd hb0;clear hb0
 by_cases k0:kind=0
 ·subst k0;rw[if_pos rfl];go_enter Tryz.func169,Tryz.ntmps169;go_wp2_with fail;refine(HNL.out _).mono ?_;rintro e w1 ⟨rfl,hb1⟩;have hz:=hb1.size;simp only[World.alloc]at hz;have hgx:w.heap.size<w1.heap.size:=(by simp at hz;omega);have hbk:=(Blk.new w 52 _).below hb1 (by simp);have x7:=hbk.cell 7;have x8:=hbk.cell 8;have x9:=hbk.cell 9;simp only[bN,bO,bP]at x7 x8 x9;have hbt:=(HB0.out _).trans (hb1.mono (by simp));have HB1:=Hd hbt;have H81:=Hd (H8.out.below hbt lR);clear hb1 hz hbk hbt;cases nl with
  |true=>
   go_wp2_with fail;refine(HNP.out _).mono ?_;rintro e w2 ⟨rfl,hb2⟩;have HB2:=Hd (HB1.out.trans (hb2.mono (by omega)));clear hb2;go_wp2_with fail;go_ret;exact⟨rfl,HB2.out⟩
  |false=>
   go_wp2_with fail;go_ret;exact⟨rfl,HB1.out⟩
 ·by_cases k1:kind=1
  ·subst k1;rw[if_neg (by omega),if_pos rfl];go_enter Tryz.func169,Tryz.ntmps169;go_wp2_with fail;refine(HRL.out _).mono ?_;rintro e w1 ⟨rfl,hb1⟩;have hz:=hb1.size;simp only[World.alloc]at hz;have hgx:w.heap.size<w1.heap.size:=(by simp at hz;omega);have hbk:=(Blk.new w 52 _).below hb1 (by simp);have x7:=hbk.cell 7;have x8:=hbk.cell 8;have x9:=hbk.cell 9;simp only[bN,bO,bP]at x7 x8 x9;have hbt:=(HB0.out _).trans (hb1.mono (by simp));have HB1:=Hd hbt;have H81:=Hd (H8.out.below hbt lR);clear hb1 hz hbk hbt;cases rl with
   |true=>
    go_wp2_with fail;refine(HNP.out _).mono ?_;rintro e w2 ⟨rfl,hb2⟩;have HB2:=Hd (HB1.out.trans (hb2.mono (by omega)));clear hb2;go_wp2_with fail;go_ret;exact⟨rfl,HB2.out⟩
   |false=>
    go_wp2_with fail;go_ret;exact⟨rfl,HB1.out⟩
  ·by_cases k2:kind=2
   ·subst k2;rw[if_neg (by omega),if_neg (by omega),if_pos rfl];go_enter Tryz.func169,Tryz.ntmps169;go_wp2_with fail;refine(HNL.out _).mono ?_;rintro e w1 ⟨rfl,hb1⟩;have hz:=hb1.size;simp only[World.alloc]at hz;have hgx:w.heap.size<w1.heap.size:=(by simp at hz;omega);have hbk:=(Blk.new w 52 _).below hb1 (by simp);have x7:=hbk.cell 7;have x8:=hbk.cell 8;have x9:=hbk.cell 9;simp only[bN,bO,bP]at x7 x8 x9;have hbt:=(HB0.out _).trans (hb1.mono (by simp));have HB1:=Hd hbt;have H81:=Hd (H8.out.below hbt lR);clear hb1 hz hbk hbt;cases nl with
    |true=>
     go_wp2_with fail;refine(HRP.out _ H81.out).mono ?_;rintro e w2 ⟨rfl,hb2⟩;have HB2:=Hd (HB1.out.trans (hb2.mono (by omega)));clear hb2;go_wp2_with fail;go_ret;exact⟨rfl,HB2.out⟩
    |false=>
     go_wp2_with fail;go_ret;exact⟨rfl,HB1.out⟩
   ·rw[if_neg k0,if_neg k1,if_neg k2];have t0:((kind:Int)==0)=false:=(by rw[beq_eq_false_iff_ne];omega);have t1:((kind:Int)==1)=false:=(by rw[beq_eq_false_iff_ne];omega);have t2:((kind:Int)==2)=false:=(by rw[beq_eq_false_iff_ne];omega);clear k0 k1 k2;go_enter Tryz.func169,Tryz.ntmps169;go_wp2_with fail;go_ret;exact⟨rfl,HB0.out _⟩
def Jc (d:LeafD):List Nat:=Mu [d.box,d.sign,d.ident]++[d.source]++(if d.source=3 then As d.par else [])
def Lh (d:LeafD):Prop:=d.box.length≤200∧d.sign.length≤200∧d.ident.length≤200∧d.par.length≤200∧d.sig.length≤200
theorem Qe (b:Value) (B:List Nat) (d:LeafD) (a1 a2 a3 a4 a5:Option Addr) (c1 c2 c3 c4 c5:Nat) (w:World) (hb:Rd w b (bvs B)) (hB:B.length<1000000000) (hs:Lh d) (hsrc:d.source<256)
  (h1:Rd w (.slice a1 d.box.length c1) (bvs d.box)) (h2:Rd w (.slice a2 d.sign.length c2) (bvs d.sign)) (h3:Rd w (.slice a3 d.ident.length c3) (bvs d.ident)) (h4:Rd w (.slice a4 d.par.length c4) (bvs d.par)):
  Calls Tryz.prog 171 #[b,.agg #[.slice a1 d.box.length c1,.slice a2 d.sign.length c2,.slice a3 d.ident.length c3,.int .u8 (d.source:Nat),.slice a4 d.par.length c4,.slice a5 d.sig.length c5]] w
   fun e w'=>∃v,e=.returned v∧Own w' w.heap.size 5 v (bvs (B++Jc d))∧Below w.heap.size w w':=by
 obtain⟨s1,s2,s3,s4,s5⟩:=hs;have hrows:∀r∈[d.box,d.sign,d.ident],r.length≤200:=by
  intro r hr;simp only[List.mem_cons,List.not_mem_nil,or_false]at hr;rcases hr with rfl|rfl|rfl<;>assumption
 have hcl:∀r,(Mu ([d.box,d.sign,d.ident].take r)).length≤612:=by
  intro r;have h:=Um ([d.box,d.sign,d.ident].take r) (fun x hx=>hrows x (List.mem_of_mem_take hx));have:([d.box,d.sign,d.ident].take r).length≤3:=(by rw[List.length_take];simp only[List.length_cons,List.length_nil];omega);omega
 have hu:Jc d=Mu [d.box,d.sign,d.ident]++[d.source]++(if d.source=3 then As d.par else []):=rfl;obtain⟨rows,hrw⟩:=eX ([d.box,d.sign,d.ident]);rw[←hrw]at hcl hu hrows;have hlen:rows.length=3:=(by rw[hrw];rfl);obtain⟨V1,hV1⟩:=eX (Value.slice a1 d.box.length c1);have mkl:∀W:World,∀N,N=W.heap.size→Below w.heap.size w W→RdL (W.alloc (.cells #[.slice a1 d.box.length c1,.slice a2 d.sign.length c2,.slice a3 d.ident.length c3] 28)) (.slice (some ⟨N,0,none⟩) 3 3) rows:=by
  intro W N hN hW;refine⟨[.slice a1 d.box.length c1,.slice a2 d.sign.length c2,.slice a3 d.ident.length c3],?_,by rw[hlen];rfl,?_⟩
  ·exact(Own.full (w:=W) (B:=W.heap.size) (e:=28) (cs:=#[.slice a1 d.box.length c1,.slice a2 d.sign.length c2,.slice a3 d.ident.length c3]) hN (by omega) (by unfold maxLen;simp) (n:=3) rfl).rd
  ·intro i r hi;rw[hrw]at hi;have k1:=(h1.below hW lR).alloc (.cells #[.slice a1 d.box.length c1,.slice a2 d.sign.length c2,.slice a3 d.ident.length c3] 28);have k2:=(h2.below hW lR).alloc (.cells #[.slice a1 d.box.length c1,.slice a2 d.sign.length c2,.slice a3 d.ident.length c3] 28);have k3:=(h3.below hW lR).alloc (.cells #[.slice a1 d.box.length c1,.slice a2 d.sign.length c2,.slice a3 d.ident.length c3] 28)
   match i,hi with
   |0,hi=>simp only[bO,Option.some.injEq]at hi;subst hi;exact⟨_,rfl,k1⟩
   |1,hi=>simp only[bP,bO,Option.some.injEq]at hi;subst hi;exact⟨_,rfl,k2⟩
   |2,hi=>simp only[bP,bO,Option.some.injEq]at hi;subst hi;exact⟨_,rfl,k3⟩
   |n+3,hi=>simp at hi
 clear V1 hV1;have hts:=fun(r:Nat) (h:r<rows.length)=>Yg (l:=rows) h;have hW0:Below w.heap.size w (w.alloc (.cells #[.slice a1 d.box.length c1,.slice a2 d.sign.length c2,.slice a3 d.ident.length c3,.int .u8 (d.source:Nat),.slice a4 d.par.length c4,.slice a5 d.sig.length c5] 44)):=bR.alloc lR _;have hM:=mkl _ (w.heap.size+1) (by simp) hW0;have hpar:=h4;have hbk0:=Blk.new w 44 #[.slice a1 d.box.length c1,.slice a2 d.sign.length c2,.slice a3 d.ident.length c3,.int .u8 (d.source:Nat),.slice a4 d.par.length c4,.slice a5 d.sig.length c5];obtain⟨n1,hn1⟩:=eX d.box.length;obtain⟨n2,hn2⟩:=eX d.sign.length;obtain⟨n3,hn3⟩:=eX d.ident.length;obtain⟨n5,hn5⟩:=eX d.sig.length;rw[←hn1,←hn2,←hn3]at hM hW0 hbk0⊢;rw[←hn5]at hM hW0 hbk0⊢;have hbk1:=hbk0.alloc (.cells #[.slice a1 n1 c1,.slice a2 n2 c2,.slice a3 n3 c3] 28);have hW1:=hW0.alloc (by simp) (.cells #[.slice a1 n1 c1,.slice a2 n2 c2,.slice a3 n3 c3] 28);have hz:((w.alloc (.cells #[.slice a1 n1 c1,.slice a2 n2 c2,.slice a3 n3 c3,.int .u8 (d.source:Nat),.slice a4 d.par.length c4,.slice a5 n5 c5] 44)).alloc (.cells #[.slice a1 n1 c1,.slice a2 n2 c2,.slice a3 n3 c3] 28)).heap.size=w.heap.size+2:=(by simp);have hb1:=hb.below hW1 lR;have hp1:=hpar.below hW1 lR;obtain⟨W1,hWe⟩:=eX (((w.alloc (.cells #[.slice a1 n1 c1,.slice a2 n2 c2,.slice a3 n3 c3,.int .u8 (d.source:Nat),.slice a4 d.par.length c4,.slice a5 n5 c5] 44)).alloc (.cells #[.slice a1 n1 c1,.slice a2 n2 c2,.slice a3 n3 c3] 28)));rw[←hWe]at hM hbk1 hW1 hz hb1 hp1;have HM:=Hd hM;have HBK:=Hd hbk1;have HW1:=Hd hW1;have HZ:=Hd hz;have HB1:=Hd hb1;have HP1:=Hd hp1;have HWE:=Hd hWe;have HU:=Hd hu;have HTS:=Hd hts;have HCL:=Hd hcl;have HR:=Hd hrows;have HLEN:=Hd hlen;clear hM hbk0 hbk1 hW0 hW1 hz hb1 hp1 hWe hu hts hcl hrows hlen hpar mkl h1 h2 h3 h4 hb hrw hn1 hn2 hn3 hn5;go_enter Tryz.func171,Tryz.ntmps171;go_wp2_with fail;rw[←HWE.out]
 go_loopg [0,15] 3 (fun q bv i wr=>∃r:Nat,r+q=3∧i=.int .i64 (r:Int)∧Rd wr bv (bvs (B++Mu (rows.take r)))∧(0<r→Own wr (w.heap.size+2) 5 bv (bvs (B++Mu (rows.take r))))∧Below (w.heap.size+2) W1 wr)
 case atStart=>exact⟨0,by omega,rfl,by simpa [Mu]using HB1.out,fun h=>absurd h (by omega),bR⟩
 case round=>
  obtain⟨r,hr,rfl,hrb,hown,hbw⟩:=hrel;have HRB:=Hd hrb;have HO:=Hd hown;have HBW:=Hd hbw;have hzw:=hbw.size;rw[HZ.out]at hzw;have hm:=HM.out.below hbw (by rw[HZ.out];exact lR);obtain⟨am,capm,he,hc1,hc2,hrow⟩:=hm.cases;rw[HLEN.out]at he;simp only[Value.slice.injEq]at he;obtain⟨rfl,-,rfl⟩:=he;have HROW:=Hd hrow;clear hrb hown hbw hrow hm hc1 hc2
  by_cases hrk:r<3
  ·have hrl:r<rows.length:=(by have:=HLEN.out;omega);obtain⟨b2,o2,u,he2,hb2,c0,hu⟩:=HROW.out r hrl;simp only[Option.some.injEq,Addr.mk.injEq,and_true]at he2;obtain⟨rfl,rfl⟩:=he2;rw[Nat.zero_add]at c0;have hl200:=HR.out _ (List.getElem_mem hrl);have hts:=HTS.out r hrl;have hcl:=HCL.out r;obtain⟨x,hx⟩:=eX (rows[r]);rw[←hx]at hu hl200 hts;obtain⟨au,nu,cu,rfl⟩:∃a n c,u=.slice a n c:=(by obtain⟨a,cap,e,_⟩:=hu;exact⟨a,_,cap,e⟩);have HPV:=Hd (fun b' (hb':Rd wr b' (bvs (B++Mu (rows.take r))))=>Ej b' (.slice au nu cu) _ x wr hb' hu (by rw[aG];omega) (by omega));have HT1:=Hd hts;have hrk':decide ((r:Int)<3)=true:=(by rw[decide_eq_true_iff];omega);clear hx hu hts hl200 hcl;go_wp2_with fail;refine(HPV.out _ HRB.out).mono ?_;rintro e w5 ⟨v5,rfl,hown5,hb5⟩;have HO5:=Hd (hown5.mono hzw);have HB5:=Hd (HBW.out.trans (hb5.mono hzw));clear hown5 hb5;go_wp2_with fail;go_roundg (gk-1);case measure=>omega
   case rel=>
    refine⟨r+1,by omega,by go_num,?_,fun _=> ?_,HB5.out⟩
    ·rw[HT1.out,Qa,←bQ];exact HO5.out.rd
    ·rw[HT1.out,Qa,←bQ];exact HO5.out
  ·obtain rfl:r=3:=(by omega);have ho:=HO.out (by omega);have ht:rows.take 3=rows:=(by rw[←HLEN.out,List.take_length]);rw[ht]at ho;have hcl:=HCL.out 3;rw[ht]at hcl;have HO3:=Hd ho;have hbk:=HBK.out.below HBW.out (by omega);have x3:=hbk.cell 3;have x4:=hbk.cell 4;simp only[bN,bO,bP]at x3 x4;have hgx:w.heap.size<wr.heap.size:=(by omega);have HBK3:=Hd hbk;have hrk':decide (((3:Nat):Int)<3)=false:=(by decide);obtain⟨src,hsr⟩:=eX d.source;rw[←hsr]at x3 hsrc;have HSR:=Hd hsr;clear ho ht hbk hsr;go_wp2_with (at_builtin;refine An rfl (.tmp 23) (.tmp 26) 28 rfl (w.heap.size+2) 5 _ 1 Cm _ _ rfl (HO3.out.alloc _) ⟨wr.heap.size,0,none⟩ (.int .u8 (src:Nat)) rfl ?c1 rfl ?c2 ?c3 ?_);case c1=>exact Aq rfl
   case c2=>rw[bvs_len,aG];omega
   case c3=>simp;omega
   rintro v6 w6 hown6-hb6;have hb6':=(HBW.out.alloc hzw (.cells #[.int .u8 (src:Nat)] 5)).trans hb6;have HO6:=Hd hown6;have HB6:=Hd hb6';have hz6:w.heap.size+2≤w6.heap.size:=(by have:=hb6.size;simp at this;omega);have hbk6:=HBK.out.below hb6' (by omega);have y3:=hbk6.cell 3;have y4:=hbk6.cell 4;simp only[bN,bO,bP]at y3 y4;rw[←HSR.out]at y3;have hp6:=HP1.out.below hb6' (by rw[HZ.out];exact lR);have HP6:=Hd hp6;have hfin:=(HW1.out.trans (hb6'.mono (by omega)));have HFIN:=Hd hfin;clear hown6 hb6 hb6' hbk6 hp6 hfin x3 x4;have hbv:bvs (B++Mu rows)++[.int .u8 (src:Nat)]=bvs (B++Mu rows++[src]):=(Uk _ _).symm;have HBV:=Hd hbv;clear hbv
   by_cases k3:src=3
   ·have t3:((src:Int)==3)=true:=(by rw[beq_iff_eq];omega);have HU3:Hid (Jc d=Mu rows++[src]++As d.par):=Hd (by rw[HU.out,←HSR.out,if_pos k3]);have HR6:Hid (Rd w6 v6 (bvs (B++Mu rows++[src]))):=Hd (by rw[←HBV.out];exact HO6.out.rd);have HPV:=Hd (Ej v6 _ _ d.par w6 HR6.out HP6.out (by rw[aG,aG];simp;omega) (by omega));clear k3;go_wp2_with fail;refine HPV.out.mono ?_;rintro e w7 ⟨v7,rfl,hown7,hb7⟩;have HO7:=Hd (hown7.mono (show w.heap.size≤w6.heap.size by omega));have HB7:=Hd (HFIN.out.trans (hb7.mono (by omega)));clear hown7 hb7;go_wp2_with fail;go_ret;refine⟨_,rfl,?_,HB7.out⟩;rw[HU3.out,←bQ,←bQ];exact HO7.out
   ·have t3:((src:Int)==3)=false:=(by rw[beq_eq_false_iff_ne];omega);have HU3:Hid (Jc d=Mu rows++[src]):=Hd (by rw[HU.out,←HSR.out,if_neg k3,List.append_nil]);clear k3;go_wp2_with fail;go_ret;refine⟨_,rfl,?_,HFIN.out⟩;rw[HU3.out,←bQ,←HBV.out];exact HO6.out.mono (by omega)
end Go.Proofs.YtfofaiommeckbaaGreat
