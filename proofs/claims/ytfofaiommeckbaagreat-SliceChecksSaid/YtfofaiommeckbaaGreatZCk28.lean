import Derived.Test.YtfofaiommeckbaaGreatZCk25
import Derived.Test.YtfofaiommeckbaaGreatZCk27
open Go.Obj renaming cells -> rJ
open Go.Ending renaming returned -> rK
open Go.Value renaming slice -> rC, int -> rD, pointer -> rE
open Go.IntKind renaming i64 -> rF, u8 -> rG
open Option renaming none -> rI
open Go.Proofs.Tryz
open List renaming length_take -> cQ, mem_of_mem_take -> cL, length_map -> gH, getElem_map -> gN, getElem?_toArray -> cR, getElem?_cons_zero -> cS, map_map -> iT, map_congr_left -> gZ, length_drop -> dZ, mem_of_mem_drop -> iD
open Nat renaming pow_le_pow_right -> bQ, lt_of_lt_of_le -> cH, le_trans -> eT, log2 -> bP, two_pow_pos -> fD, le_of_lt -> eW, zero_add -> aD
open Bool renaming eq_iff_iff -> gA, and_eq_true -> aT
open Int renaming toNat_natCast -> cV, toNat_of_nonneg -> iU
set_option linter.unusedVariables false
set_option maxRecDepth 100000
set_option maxHeartbeats 40000000
namespace Go.Proofs.YtfofaiommeckbaaGreat
open Go.RowKit Go.Maps WalkM WireM
def Fr (L:List Nat)(s:Int)(P:Nat->Bool):Nat×Nat×List Nat×Nat:=
 if(Eg L 0 s).2.2≠0 then(0,(Eg L 0 s).2.2,(Eg L 0 s).2)else if P (Du (Eg L 0 s).1)=true then(Du (Eg L 0 s).1,0,(Eg L 0 s).2)else(0,3,(Eg L 0 s).2)
def Zfy (B:Nat)(w:World)(r:Nat×Nat×List Nat×Nat)(e:Ending)(w':World):Prop:=
 e=rK (.tuple #[rD rF (r.1:Nat),rD rG (r.2.1:Nat)])/\RS w' B r.2.2.1 r.2.2.2/\Only B w w'
theorem Zfz {L:List Nat} {er:Nat} {n:Int}(h:(Cc L er n).2.2≠0):(Cc L er n).1=[]:=by
 unfold Cc at h|-
 by_cases h1:er≠0
 ·rw[iP h1]
 ·rw[iN h1]at h|-
  by_cases h2:n<0
  ·rw[iP h2]
  ·rw[iN h2]at h|-
   by_cases h3:(L.length:Int)<n
   ·rw[iP h3]
   ·rw[iN h3]at h;exact absurd rfl h
theorem Zf0 {L:List Nat} {s:Int}(b:∀n∈L,n<256)(f:s=1\/s=4):Du (Eg L 0 s).1<4294967296:=by
 have p:=Ge L 0 s
 by_cases h:(Eg L 0 s).2.2=0
 ·have:=Sq (L:=L) (er:=0) (n:=if Zgd s=true then s else-1) h;have a:Zgd s=true:=by rcases f with rfl|rfl<;>decide
  rw[iP a]at this;have e:Eg L 0 s=Cc L 0 s:=(by rw[Eg,iP a]);rw[e,this.2.2.2];have c:(L.take s.toNat).length<=4:=(by rw[cQ];omega);have h1:=Nn _ _ rfl fun n d=>b n (cL (i:=s.toNat) d);have h2:256^(L.take s.toNat).length<=256^4:=bQ (by omega) c;exact cH h1 (eT h2 (by decide))
 ·have:(Eg L 0 s).1=[]:=Zfz h;rw[this];decide
theorem Qu (g:Nat) (c:Value) (H:∀args w,(callFunc g args).run prog w=.ok (.enter g args) w) (B:Nat) (L:List Nat) (s:Int) (P:Nat->Bool) (w:World) (h:RS w B L 0) (C:s=1\/s=4) (u:∀n∈L,n<256)
  (z:∀(n:Nat) (W:World),n<4294967296->Only B w W->Calls prog g #[rD rF (n:Nat),c] W fun e D=>e=rK (.bool (P n))/\D=W):
  Calls prog 118 #[rE (some ⟨B,0,rI⟩),rD rF s,.func (.func g) #[] #[c]] w (Zfy B w (Fr L s P)):=by
 have A:=Hd (Nu B L 0 s w h u);have y:=Zf0 u C;have q:=Hd fun(L:List Nat) (er:Nat) W=>Gm B L er W;unfold Fr;obtain⟨m,p⟩:=eX (Du (Eg L 0 s).1);obtain⟨M,v⟩:=eX ((Eg L 0 s).2.1);obtain⟨er,b⟩:=eX ((Eg L 0 s).2.2);have r:Hid (Calls prog 154 #[rE (some ⟨B,0,rI⟩),rD rF s] w fun e w'=>e=rK (rD .u64 (m:Nat))/\RS w' B M er/\Only B w w'):=Hd (by rw[p,v,b];exact A.out);have e2:(Eg L 0 s).2=(M,er):=(by rw[v,b]);rw[<-p]at y;rw[<-b,<-p,e2];have d:=Hd fun(W:World) (E:Only B w W)=>z m W y E;have F:IntKind.i64.wrap (m:Int)=(m:Int):=IntWalk.i64_in _ ⟨by omega,by omega⟩;obtain⟨R,x⟩:=eX ((if er≠0 then(0,er,M,er)else if P m=true then(m,0,M,er)else(0,3,M,er):Nat×Nat×List Nat×Nat));rw[<-x];have k:=Hd x;obtain⟨G,f⟩:=eX (P m);rw[<-f]at d k;clear A h C u y z p v b e2 x f;go_in;go_wp2_with fail;refine r.out.mono ?_;rintro e I ⟨rfl,i,a⟩;have o:=Hd i;have l:=Hd a;clear i a;go_wp2_with fail;refine(q.out _ _ _ o.out).mono ?_;rintro e w' ⟨rfl,rfl⟩
 by_cases h1:er=0
 ·have t:((er:Int) !=0)=false:=(by rw[bne_eq_false_iff_eq];omega);have j:=Hd h1;clear h1;go_wp2_with fail;refine(d.out _ l.out).mono ?_;rintro e w' ⟨rfl,rfl⟩;cases G with
  |true=>
   go_wp2_with fail;go_ret2;rw[k.out,iN (by have:=j.out;omega),iP trivial];exact⟨rfl,o.out,l.out⟩
  |false=>
   go_wp2_with fail;go_ret2;rw[k.out,iN (by have:=j.out;omega),iN (by simp)];exact⟨rfl,o.out,l.out⟩
 ·have t:((er:Int) !=0)=true:=(by rw[bne_iff_ne];omega);have j:=Hd h1;clear h1;go_wp2_with fail;go_ret2;rw[k.out,iP j.out];exact⟨rfl,o.out,l.out⟩
theorem Zf1 (g:Nat) (G:∀args w,(callFunc g args).run prog w=.ok (.enter g args) w) (B:Nat) (L:List Nat) (s:Int) (P:Nat->Bool) (w:World) (h:RS w B L 0) (A:s=1\/s=4) (t:∀n∈L,n<256)
  (y:∀(n:Nat) (W:World),n<4294967296->Only B w W->Calls prog g #[rD rF (n:Nat)] W fun e C=>e=rK (.bool (P n))/\C=W):
  Calls prog 118 #[rE (some ⟨B,0,rI⟩),rD rF s,.func (.func g) #[] #[]] w (Zfy B w (Fr L s P)):=by
 have z:=Hd (Nu B L 0 s w h t);have x:=Zf0 t A;have p:=Hd fun(L:List Nat) (er:Nat) W=>Gm B L er W;unfold Fr;obtain⟨m,o⟩:=eX (Du (Eg L 0 s).1);obtain⟨M,u⟩:=eX ((Eg L 0 s).2.1);obtain⟨er,b⟩:=eX ((Eg L 0 s).2.2);have q:Hid (Calls prog 154 #[rE (some ⟨B,0,rI⟩),rD rF s] w fun e w'=>e=rK (rD .u64 (m:Nat))/\RS w' B M er/\Only B w w'):=Hd (by rw[o,u,b];exact z.out);have e2:(Eg L 0 s).2=(M,er):=(by rw[u,b]);rw[<-o]at x;rw[<-b,<-o,e2];have c:=Hd fun(W:World) (D:Only B w W)=>y m W x D;have E:IntKind.i64.wrap (m:Int)=(m:Int):=IntWalk.i64_in _ ⟨by omega,by omega⟩;obtain⟨R,v⟩:=eX ((if er≠0 then(0,er,M,er)else if P m=true then(m,0,M,er)else(0,3,M,er):Nat×Nat×List Nat×Nat));rw[<-v];have j:=Hd v;obtain⟨F,d⟩:=eX (P m);rw[<-d]at c j;clear z h A t x y o u b e2 v d;go_in;go_wp2_with fail;refine q.out.mono ?_;rintro e H ⟨rfl,f,a⟩;have l:=Hd f;have k:=Hd a;clear f a;go_wp2_with fail;refine(p.out _ _ _ l.out).mono ?_;rintro e w' ⟨rfl,rfl⟩
 by_cases h1:er=0
 ·have r:((er:Int) !=0)=false:=(by rw[bne_eq_false_iff_eq];omega);have i:=Hd h1;clear h1;go_wp2_with fail;refine(c.out _ k.out).mono ?_;rintro e w' ⟨rfl,rfl⟩;cases F with
  |true=>
   go_wp2_with fail;go_ret2;rw[j.out,iN (by have:=i.out;omega),iP trivial];exact⟨rfl,l.out,k.out⟩
  |false=>
   go_wp2_with fail;go_ret2;rw[j.out,iN (by have:=i.out;omega),iN (by simp)];exact⟨rfl,l.out,k.out⟩
 ·have r:((er:Int) !=0)=true:=(by rw[bne_iff_ne];omega);have i:=Hd h1;clear h1;go_wp2_with fail;go_ret2;rw[j.out,iP i.out];exact⟨rfl,l.out,k.out⟩
def Zmu (only:Bool)(n i:Nat)(L:List Nat):Nat×SparseD:=
 if(rdP (bP n) (n-1) L).er≠0 then((rdP (bP n) (n-1) L).er,Ef)else
 if Zgr (rdP (bP n) (n-1) L).rest 0≠0 then(Zgr (rdP (bP n) (n-1) L).rest 0,Ef)else
 if Ar ⟨n,i,(rdP (bP n) (n-1) L).op,(rdP (bP n) (n-1) L).sh⟩ only=true then(0,⟨n,i,(rdP (bP n) (n-1) L).op,(rdP (bP n) (n-1) L).sh⟩)else(3,Ef)
def Zmv (only:Bool)(n:Nat)(L:List Nat):Nat×SparseD:=
 if(Fr L 4 fun i=>decide (i<n)).2.1≠0 then((Fr L 4 fun i=>decide (i<n)).2.1,Ef)else
 Zmu only n (Fr L 4 fun i=>decide (i<n)).1 (Fr L 4 fun i=>decide (i<n)).2.2.1
def Zmw (only:Bool)(L:List Nat):Nat×SparseD:=
 if(Fr L 4 fits).2.1≠0 then((Fr L 4 fits).2.1,Ef)else
 Zmv only (Fr L 4 fits).1 (Fr L 4 fits).2.2.1
def ofT (only:Bool)(mk:Nat)(b:List Nat):Nat×SparseD:=
 if 1048576<b.length then(6,Ef)else
 if(Fr b 1 fun n=>n==mk).2.1≠0 then((Fr b 1 fun n=>n==mk).2.1,Ef)else
 Zmw only (Fr b 1 fun n=>n==mk).2.2.1
def Zi1 (r:Nat×SparseD)(w:World)(e:Ending)(w':World):Prop:=Below w.heap.size w w'/\
 if r.1=0 then∃ob sb gg,e=rK (.tuple #[.agg #[rD rF r.2.leaves,rD rF r.2.own,.map (some ob),.map (some sb)],rD rG 0])/\w.heap.size<=ob/\w.heap.size<=sb/\ob≠sb/\ob<gg/\sb<gg/\PcS w' ob sb gg r.2.op.length r.2.sh.length (Ah r.2.op) (Ba r.2.sh)
 else e=rK (.tuple #[.agg #[rD rF 0,rD rF 0,.map none,.map none],rD rG (r.1:Nat)])
theorem PcS.pieceN {w:World} {ob sb g n m:Nat} {F:Int->Option NodeD} {H:Int->Option (List Nat)}(h:PcS w ob sb g n m F H):PieceN w ob n F:=by
 obtain⟨⟨G,h1,h2⟩,-⟩:=h;refine⟨G,h1,fun x=> ?_⟩;have:=h2 x;revert this;cases F x with
 |none=>exact fun h=>h
 |some d=>rintro⟨c,h3,h4⟩;exact⟨c,h3,h4.c⟩
theorem PcS.pieceH {w:World} {ob sb g n m:Nat} {F:Int->Option NodeD} {H:Int->Option (List Nat)}(h:PcS w ob sb g n m F H):PieceH w sb m H:=by
 obtain⟨-,G,h1,h2⟩:=h;refine⟨G,h1,fun x=> ?_⟩;have:=h2 x;revert this;cases H x with
 |none=>exact fun h=>h
 |some d=>rintro⟨c,h3,h4⟩;exact⟨c,h3,h4.rd⟩
theorem Zf2 (n g mk:Nat)(w:World)(d:w.cell? ⟨g,0,rI⟩=some (rD rF (mk:Nat))):
  Calls prog 119 #[rD rF (n:Nat),rE (some ⟨g,0,rI⟩)] w fun e w'=>e=rK (.bool (n==mk))/\w'=w:=by
 obtain⟨b,a⟩:=eX ((n==mk));have c:((n:Int)==(mk:Int))=b:=(by rw[a,gA,beq_iff_eq,beq_iff_eq];omega);rw[<-a];clear a;go_in;go_wp2_with fail;go_ret;exact⟨by first|rfl|(rw[c]),rfl⟩
theorem Zf3 (n g lv:Nat)(w:World)(f:w.cell? ⟨g,0,rI⟩=some (rD rF (lv:Nat))):
  Calls prog 120 #[rD rF (n:Nat),rE (some ⟨g,0,rI⟩)] w fun e w'=>e=rK (.bool (decide (n<lv)))/\w'=w:=by
 obtain⟨b,a⟩:=eX (decide (n<lv));have c:decide (n<lv)=b:=a.symm;have d:decide ((n:Int)<(lv:Int))=b:=(by rw[a,gA,dI,dI];omega);rw[<-a];clear a;go_in;go_wp2_with fail;go_ret;exact⟨by first|rfl|(rw[c])|(rw[d]),rfl⟩
theorem Xp {d:NodeD}(h:At d=true)(a:d.par.late.length<=1000):Cj d=true:=by
 unfold At at h;simp only at h;unfold Cj;rw[dI]
 split at h
 ·rw[aT]at h;have h1:=oD h.1;have h2:=oD h.2;omega
 ·split at h
  ·rw[aT]at h;have h1:=oD h.1;have h2:=oD h.2;omega
  ·split at h
   ·rw[aT]at h;have h1:=oD h.1;have h2:=h.2;unfold rpB at h2;rw[aT]at h2;have h3:=oD h2.2;omega
   ·cases h
theorem Ne {α:Type} {l:List (Int×α)}(h:l.Pairwise fun p q=>p.1<q.1):(l.map (·.1)).Pairwise (· < ·):=List.pairwise_map.2 h
theorem Vk {k x n i:Nat} {L:List Nat}(e:∀y∈L,y<256)(c:L.length<=4000\/Ds ⟨0,0,(rdP k x L).op,(rdP k x L).sh⟩=true)(hx:2^k<=x+1)(j:x+2^k<=131071)(m:n<=4294967296)(b:i<=4294967296)(h:(rdP k x L).er=0):
  SparseOk ⟨(n:Int),(i:Int),(rdP k x L).op,(rdP k x L).sh⟩/\Ds ⟨(n:Int),(i:Int),(rdP k x L).op,(rdP k x L).sh⟩=true/\Cu ⟨(n:Int),(i:Int),(rdP k x L).op,(rdP k x L).sh⟩=true:=by
 have o:=Vh k x L hx h;generalize rdP k x L=r at o c|-;have g:=o.len;refine⟨⟨by unfold inI;simp only;omega,by unfold inI;simp only;omega,fun p a=> ?_,fun p a=> ?_⟩,?_,?_⟩
 ·have:=o.opIn p a;exact⟨by unfold inI;omega,(o.node p a).2.2 e⟩
 ·have:=o.shIn p a;exact⟨by unfold inI;omega,fun y d=>e y ((o.hash p a).2.2 y d)⟩
 ·rcases c with c|c
  rotate_left
  ·exact c
  unfold Ds;simp only[aT,decide_eq_true_eq];refine⟨⟨⟨by omega,by omega⟩,List.all_eq_true.2 fun p a=>Xp (o.node p a).1 (by have:=(o.node p a).2.1;omega)⟩,List.all_eq_true.2 fun p a=>dT (by have:=(o.hash p a).1;omega)⟩
 ·unfold Cu;rw[aT];constructor
  ·have:=Nd (l:=r.op.map (·.1)) (f:=spK r.op) (fun i b=>by
    rw[gH]at b;unfold spK;rw[Jc b,gN]) (Ne o.opUp) (fun y d=>by
    obtain⟨p,a,rfl⟩:=List.mem_map.1 d;have:=(o.opIn p a).1;omega)
   rwa [gH]at this
  ·have:=Nd (l:=r.sh.map (·.1)) (f:=stK r.sh) (fun i b=>by
    rw[gH]at b;unfold stK;rw[Ko b,gN]) (Ne o.shUp) (fun y d=>by
    obtain⟨p,a,rfl⟩:=List.mem_map.1 d;have:=(o.shIn p a).1;omega)
   rwa [gH]at this
def Zmx (mk:Nat)(L:List Nat):RdR:=rdP (bP (Fr (Fr L 1 fun n=>n==mk).2.2.1 4 fits).1) ((Fr (Fr L 1 fun n=>n==mk).2.2.1 4 fits).1-1) (Fr (Fr (Fr L 1 fun n=>n==mk).2.2.1 4 fits).2.2.1 4 fun i=>decide (i<(Fr (Fr L 1 fun n=>n==mk).2.2.1 4 fits).1)).2.2.1
def BL (mk:Nat)(L:List Nat):Prop:=L.length<=1000000/\(L.length<=4000\/Ds ⟨0,0,(Zmx mk L).op,(Zmx mk L).sh⟩=true)
theorem bl4 {mk:Nat} {L:List Nat}(h:L.length<=4000):BL mk L:=⟨by omega,.inl h⟩
theorem Zi2 (s:SparseD)(only:Bool)(ob sb:Nat)(W:World)(b:SparseOk s)(f:Ds s=true)(d:Cu s=true)(h1:PieceN W ob s.op.length (Ah s.op))(h2:PieceH W sb s.sh.length (Ba s.sh)):
  Calls prog 123 #[.agg #[rD rF s.leaves,rD rF s.own,.map (some ob),.map (some sb)],.bool only] W fun e w'=>e=rK (.bool (Ar s only))/\Below W.heap.size W w':=by
 obtain⟨h,j⟩:=Gd f;have a:=d;unfold Cu at a;rw[aT]at a;have:=Qn s.leaves s.own ob sb s.op.length s.sh.length (Ah s.op) (Ba s.sh) (s.op.map (·.1)) (s.sh.map (·.1)) only W h1 h2 (by omega) (by omega) (Mb b f) (Kr (g:=spK s.op) (fun i c=>by unfold spK;rw[Jc c]) a.1) (fun x=>Nc) (Kr (g:=stK s.sh) (fun i c=>by unfold stK;rw[Ko c]) a.2) (fun x=>Iq) (by simp;omega) (by simp;omega) b.leaves b.own;have e:=Ve s only;rw[d,Bool.true_and]at e
 rwa [e]at this
theorem PcS.made {w:World} {ob sb g:Nat}(h1:MapF w ob 0 fun _=>none)(h2:MapF w sb 0 fun _=>none):PcS w ob sb g 0 0 (fun _=>none) fun _=>none:=⟨⟨_,h1,fun _=>rfl⟩,⟨_,h2,fun _=>rfl⟩⟩
theorem St {L:List Nat} {s:Int} {P:Nat->Bool}(h:(Fr L s P).2.1=0):P (Fr L s P).1=true/\(Fr L s P).2.2.2=0:=by
 unfold Fr at h|-
 split at h
 ·rename_i h1;exact absurd h h1
 ·rename_i h1
  split at h
  ·rename_i h2;rw[iN h1,iP h2];exact⟨h2,by simpa using h1⟩
  ·cases h
theorem Is (L:List Nat)(s:Int)(P:Nat->Bool):Sub (Fr L s P).2.2.1 L:=by
 have h:=(Ge L 0 s).2.1;unfold Fr
 split
 ·exact h
 ·split<;>exact h
theorem Su {L:List Nat} {s:Int} {P:Nat->Bool}(hL:∀n∈L,n<256)(hs:s=1\/s=4):(Fr L s P).1<4294967296:=by
 have h:=Zf0 hL hs;unfold Fr
 split
 ·exact(by decide:0<4294967296)
 ·split
  ·exact h
  ·exact(by decide:0<4294967296)
theorem Sv {n:Nat}(h:fits n=true):n=2^bP n/\n<=65536/\bP n<=16/\Nl (n:Int)=((n-1:Nat):Int)/\IsLev (n-1) (bP n):=by
 obtain⟨d,b,rfl⟩:=(fits_iff n).1 h;have a:2^d<=65536:=eT (bQ (by omega) b) (by decide);have c:=fD d;rw[Nat.log2_two_pow];refine⟨rfl,a,b,by rw[Nl,iP (by rw[cV];exact h)];omega,?_⟩;unfold IsLev;rw[Nat.mod_eq_of_lt (by rw[Nat.pow_succ];omega)]
theorem Zi3 (l:List (Int×NodeD)):Mf (fun _=>none) l=Ah l:=by funext y;unfold Mf;cases Ah l y<;>rfl
theorem Zi4 (l:List (Int×List Nat)):Po (fun _=>none) l=Ba l:=by funext y;unfold Po;cases Ba l y<;>rfl
theorem Zf4 (a:Option Addr) (cp:Nat) (L L1 L2 L3:List Nat) (mk nn u A e1 e2 e3 f1 f2 f3 k x:Nat) (only:Bool) (l:RdR) (E:Nat×SparseD) (w:World) (h:Rd w (.slice a L.length cp) (bvs L)) (hl:L.length<=1000000) (bA:((mk:Int)==2)=only)
  (C1:∀(B g:Nat) (W:World),RS W B L 0->Blk W g 3 #[rD rF (mk:Nat)]->g≠B->Calls prog 118 #[rE (some ⟨B,0,rI⟩),rD rF 1,.func (.func 119) #[] #[rE (some ⟨g,0,rI⟩)]] W (Zfy B W (nn,e1,L1,f1)))
  (C2:e1=0->∀(B:Nat) (W:World),RS W B L1 f1->Calls prog 118 #[rE (some ⟨B,0,rI⟩),rD rF 4,.func (.func 113) #[] #[]] W (Zfy B W (u,e2,L2,f2)))
  (C3:e1=0->e2=0->∀(B g:Nat) (W:World) (y1 y2 y3:Value),RS W B L2 f2->Blk W g 101 #[rD rF (u:Nat),y1,y2,y3]->g≠B->Calls prog 118 #[rE (some ⟨B,0,rI⟩),rD rF 4,.func (.func 120) #[] #[rE (some ⟨g,0,rI⟩)]] W (Zfy B W (A,e3,L3,f3)))
  (C4:e1=0->e2=0->e3=0->∀(B ob sb g:Nat) (W:World),B<ob->B<sb->ob≠sb->ob<g->sb<g->g<=W.heap.size->RS W B L3 f3->PcS W ob sb g 0 0 (fun _=>none) (fun _=>none)->
   Calls prog 121 #[.agg #[rD rF (u:Nat),rD rF (A:Nat),.map (some ob),.map (some sb)],rE (some ⟨B,0,rI⟩),rD rF (x:Nat)] W (Zfl B ob sb g 0 0 (fun _=>none) (fun _=>none) l W))
  (CR:e1=0->e2=0->∀W:World,Calls prog 61 #[rD rF (u:Nat)] W fun e w'=>e=rK (rD rF (x:Nat))/\W=w')
  (C6:e1=0->e2=0->e3=0->l.er=0->∀(ob sb:Nat) (W:World),PieceN W ob l.op.length (Ah l.op)->PieceH W sb l.sh.length (Ba l.sh)->Calls prog 123 #[.agg #[rD rF (u:Nat),rD rF (A:Nat),.map (some ob),.map (some sb)],.bool only] W fun e w'=>e=rK (.bool (Ar ⟨(u:Int),(A:Int),l.op,l.sh⟩ only))/\Below W.heap.size W w')
  (X1:e1≠0->E=(e1,Ef)) (X2:e1=0->e2≠0->E=(e2,Ef)) (X3:e1=0->e2=0->e3≠0->E=(e3,Ef)) (X4:e1=0->e2=0->e3=0->l.er≠0->E=(l.er,Ef))
  (X5:e1=0->e2=0->e3=0->l.er=0->Zgr l.rest 0≠0->E=(Zgr l.rest 0,Ef))
  (X6:e1=0->e2=0->e3=0->l.er=0->Zgr l.rest 0=0->∀b,Ar ⟨(u:Int),(A:Int),l.op,l.sh⟩ only=b->E=if b=true then(0,⟨(u:Int),(A:Int),l.op,l.sh⟩)else(3,Ef)):
  Calls prog 66 #[.slice a L.length cp,rD rF (mk:Nat)] w (Zi1 E w):=by
 have aF:=Hd fun(W:World) (hw:Below w.heap.size w W)=>Jy _ L W (h.below hw lR);have bC:=Hd C1;have bD:=Hd C2;have bE:=Hd C3;have bF:=Hd C4;have bH:=Hd CR;have bG:=Hd C6;have bO:=Hd X1;have bP:=Hd X2;have bQ:=Hd X3;have bS:=Hd X4;have bT:=Hd X5;have bU:=Hd X6;have bI:=Hd fun(B:Nat) (W:World) (hW:RS W B l.rest 0)=>Zj7 B l.rest 0 W hW;have a4:=Hd bA;obtain⟨g,hg⟩:=eX (w.heap.size+1);have HG:=Hd hg;obtain⟨w0,I⟩:=eX ((w.alloc (rJ #[rD rF (mk:Nat)] 3)).alloc (rJ #[rD rF 0,rD rF 0,.map none,.map none] 101));have aK:Below w.heap.size w w0:=(by rw[I];exact((Below.refl w.heap.size w).alloc lR _).alloc (by simp) _);have b4:w0.heap.size=w.heap.size+2:=(by rw[I];simp);have a9:Blk w0 w.heap.size 3 #[rD rF (mk:Nat)]:=(by rw[I];exact(Blk.new w _ _).alloc _);have a6:Blk w0 g 101 #[rD rF 0,rD rF 0,.map none,.map none]:=by
  rw[I,hg];have e:(w.alloc (rJ #[rD rF (mk:Nat)] 3)).heap.size=w.heap.size+1:=(by simp);rw[<-e];exact Blk.new _ _ _
 have a7:decide ((L.length:Int)>1048576)=false:=dF (by omega);obtain⟨ln,a8⟩:=eX L.length;rw[<-a8]at a7 aF|-;have a3:=Hd (aF.out w0 aK);have bM:=Hd I;clear h hl C1 C2 C3 C4 CR C6 X1 X2 X3 X4 X5 X6 bA aF a8;have cJ:∀w,(Instr.makeMap 98 none).run prog w=.ok (.map (some w.heap.size)) (w.alloc (.map #[] 0)):=fun w=>rfl;have cK:∀w,(Instr.makeMap 99 none).run prog w=.ok (.map (some w.heap.size)) (w.alloc (.map #[] 0)):=fun w=>rfl;go_in;go_wp2_with fail;rw[<-bM.out,<-HG.out];refine a3.out.mono ?_;rintro e R ⟨rfl,t,s⟩;obtain⟨B,hB⟩:=eX w0.heap.size;rw[<-hB]at t s|-;have aL:Below w.heap.size w R:=aK.trans (s.mono (by omega));have b3:=t.lt;obtain⟨ob,P⟩:=eX R.heap.size;obtain⟨sb,V⟩:=eX (ob+1);obtain⟨p,hp⟩:=eX (sb+1);obtain⟨w2,F⟩:=eX (((R.alloc (.map #[] 0)).alloc (.map #[] 0)).alloc (rJ #[rD rF 0,rD rF 0,.map (some ob),.map (some sb)] 101));have ea:(R.alloc (.map #[] 0)).heap.size=sb:=(by simp[V,P]);have eb:((R.alloc (.map #[] 0)).alloc (.map #[] 0)).heap.size=p:=(by simp[hp,V,P]);have D:Below R.heap.size R w2:=(by rw[F];exact(((Below.refl _ R).alloc lR _).alloc (by simp) _).alloc (by simp;omega) _);have d:=Hd (show w.heap.size+1=g/\g<B/\B<ob/\ob<sb/\sb<p by omega);have aR:=Hd (aL.trans (D.mono aL.size));have G2:=Hd ((a6.below s (by omega)).below D (by omega));have M2:=Hd ((a9.below s (by omega)).below D (by omega));have P2:=Hd (show Blk w2 p 101 #[rD rF 0,rD rF 0,.map (some ob),.map (some sb)] by rw[F,<-eb];exact Blk.new _ _ _);have R2:=Hd (t.below D);have S2:=Hd (show PcS w2 ob sb (p+1) 0 0 (fun _=>none) (fun _=>none)from PcS.made
  (by rw[F,P];exact((MapF.made R).alloc _).alloc _) (by rw[F,<-ea];exact(MapF.made _).alloc _))
 have bV:=Hd (show p+1<=w2.heap.size by rw[F];simp[hp,V,P]);have aG:=Hd (show R.heap.size=ob/\ob+1=sb/\sb+1=p by omega);have bN:=Hd F;clear t s aK b4 a9 a6 aL b3 ea eb D F P V hp hB hg I;go_wp2_with fail;simp only[aG.out.1,aG.out.2.1,aG.out.2.2];rw[<-bN.out];refine(bC.out B w.heap.size w2 R2.out M2.out (by have:=d.out;omega)).mono ?_;rintro e w3 ⟨rfl,t,c⟩;have aB:=Hd (aR.out.trans (c.below (by have:=d.out;omega) aR.out.size));have G3:=Hd (G2.out.only c (by have:=d.out;omega));have M3:=Hd (M2.out.only c (by have:=d.out;omega));have P3:=Hd (P2.out.only c (by have:=d.out;omega));have S3:=Hd (S2.out.only c (by have:=d.out;omega) (by have:=d.out;omega) (by have:=d.out;omega));have R3:=Hd t;have bW:=Hd (eT bV.out c.size);clear t c
 by_cases ha:e1=0
 ·have z:=Hd ha;have b5:((e1:Int)==0)=true:=(by rw[beq_iff_eq];omega);have b6:((e1:Int) !=0)=false:=(by rw[bne_eq_false_iff_eq];omega);clear ha;have aV:=Hd (bD.out z.out);have y0:=P3.out.cell 0;have z0:=P3.out.frozen 0;simp only[cR,cS]at y0;go_wp2_with fail;refine(aV.out B w3 R3.out).mono ?_;rintro e w4 ⟨rfl,t,c⟩;have aS:=Hd (aB.out.trans (c.below (by have:=d.out;omega) aB.out.size));have G4:=Hd (G3.out.only c (by have:=d.out;omega));have M4:=Hd (M3.out.only c (by have:=d.out;omega));have P4:=Hd (P3.out.only c (by have:=d.out;omega));have S4:=Hd (S3.out.only c (by have:=d.out;omega) (by have:=d.out;omega) (by have:=d.out;omega));have R4:=Hd t;have bX:=Hd (eT bW.out c.size);clear t c y0 z0;have y0:=P4.out.cell 0;have z0:=P4.out.frozen 0;simp only[cR,cS]at y0;have o:Only p w4 (w4.setCell ⟨p,0,rI⟩ (rD rF (u:Nat))):=Only.set 0 _;have P5:=Hd (show Blk (w4.setCell ⟨p,0,rI⟩ (rD rF (u:Nat))) p 101 #[rD rF (u:Nat),rD rF 0,.map (some ob),.map (some sb)]from by simpa using P4.out.set 0 (rD rF (u:Nat)));obtain⟨w5,aP⟩:=eX (w4.setCell ⟨p,0,rI⟩ (rD rF (u:Nat)));rw[<-aP]at o P5;have aH:=Hd aP;have aC:=Hd (aS.out.trans (o.below (by have:=d.out;omega) aS.out.size));have G5:=Hd (G4.out.only o (by have:=d.out;omega));have M5:=Hd (M4.out.only o (by have:=d.out;omega));have S5:=Hd (S4.out.only o (by omega) (by have:=d.out;omega) (by have:=d.out;omega));have R5:=Hd (R4.out.only o (by have:=d.out;omega) (eW P4.out.lt));have bY:=Hd (eT bX.out o.size);clear o aP
  by_cases s:e2=0
  ·have C:=Hd s;have b7:((e2:Int)==0)=true:=(by rw[beq_iff_eq];omega);have b8:((e2:Int) !=0)=false:=(by rw[bne_eq_false_iff_eq];omega);clear s;have aW:=Hd (bE.out z.out C.out);go_wp2_with fail;rw[<-aH.out];refine(aW.out B p w5 _ _ _ R5.out P5.out (by have:=d.out;omega)).mono ?_;rintro e w6 ⟨rfl,t,c⟩;have aT:=Hd (aC.out.trans (c.below (by have:=d.out;omega) aC.out.size));have G6:=Hd (G5.out.only c (by have:=d.out;omega));have M6:=Hd (M5.out.only c (by have:=d.out;omega));have P6:=Hd (P5.out.only c (by have:=d.out;omega));have S6:=Hd (S5.out.only c (by have:=d.out;omega) (by have:=d.out;omega) (by have:=d.out;omega));have R6:=Hd t;have bZ:=Hd (eT bY.out c.size);clear t c y0 z0;have y1:=P6.out.cell 1;have z1:=P6.out.frozen 1;simp only[cR,cS,List.getElem?_cons_succ]at y1;have o:Only p w6 (w6.setCell ⟨p,1,rI⟩ (rD rF (A:Nat))):=Only.set 1 _;have P7:=Hd (show Blk (w6.setCell ⟨p,1,rI⟩ (rD rF (A:Nat))) p 101 #[rD rF (u:Nat),rD rF (A:Nat),.map (some ob),.map (some sb)]from by simpa using P6.out.set 1 (rD rF (A:Nat)));obtain⟨w7,aQ⟩:=eX (w6.setCell ⟨p,1,rI⟩ (rD rF (A:Nat)));rw[<-aQ]at o P7;have aI:=Hd aQ;have aE:=Hd (aT.out.trans (o.below (by have:=d.out;omega) aT.out.size));have G7:=Hd (G6.out.only o (by have:=d.out;omega));have M7:=Hd (M6.out.only o (by have:=d.out;omega));have S7:=Hd (S6.out.only o (by omega) (by have:=d.out;omega) (by have:=d.out;omega));have R7:=Hd (R6.out.only o (by have:=d.out;omega) (eW P6.out.lt));have b0:=Hd (eT bZ.out o.size);clear o aQ
   by_cases hc:e3=0
   ·have N:=Hd hc;have b9:((e3:Int)==0)=true:=(by rw[beq_iff_eq];omega);have cA:((e3:Int) !=0)=false:=(by rw[bne_eq_false_iff_eq];omega);clear hc;have aX:=Hd (bF.out z.out C.out N.out);have a0:=Hd (bH.out z.out C.out);have aY:=Hd (bG.out z.out C.out N.out);go_wp2_with fail;rw[<-aI.out];clear y1 z1;refine Bd [eF (.agg #[rD rF (u:Nat),rD rF (A:Nat),.map (some ob),.map (some sb)]),eF (rE (some ⟨B,0,rI⟩)),eF (rE (some ⟨p,0,rI⟩)),eF (rD rF (u:Nat)),eF (rD rF (x:Nat)),fun v w'=>v=rD rG (l.er:Nat)/\(l.er=0->RS w' B l.rest 0/\PcS w' ob sb (p+1) (0+l.op.length) (0+l.sh.length) (Mf (fun _=>none) l.op) (Po (fun _=>none) l.sh)),eF (rD rG (l.er:Nat))]
     (List.replicate 7 true) (fun x=>On3 B ob sb w7 x) (fun x y=>On3 B ob sb x y) (some 5) (by kernel_rfl) ?_ ⟨rfl,rfl,rfl,lR,fun _ _ _ _ _=>rfl⟩ (fun x y _ h=>On3.below h) (fun x y hx hs=>hx.trans hs) (by kernel_rfl) (by kernel_rfl) ?_ ?_
    ·exact kE (kE (kE (kE (kE (Cp (fun v x y h _ s=>⟨h.1,fun e=>⟨(h.2 e).1.below s,(h.2 e).2.below s⟩⟩) (Ax (fun _ _ _ h _ _=>h) Ag))))))
    ·refine gO ?_ (gP ?_ rfl (gP ?_ rfl (gO ?_ (gO ?_ (gOw (by kernel_rfl) ?_ (gP ?_ rfl .nil))))));all_goals
      intro a2 wx U aM ho hf;have U:On3 B ob sb w7 wx:=U;refine⟨rfl,?_⟩;intro K hK;try have b1:a2.tmps[7]?.getD undef=rE (some ⟨p,0,rI⟩):=ho 7 (by kernel_rfl)
      try have cL:a2.tmps[6]?.getD undef=rE (some ⟨B,0,rI⟩):=ho 6 (by kernel_rfl)
      try have cF:=eqn hf.1
      try have cG:=eqn hf.2.1
      try have cH:=eqn hf.2.2.1
      try(refine Hd ?_;go_simp;exact hK _ rfl)
     ·have aN:=P7.out.on3 U (by have:=d.out;omega) (by have:=d.out;omega) (by have:=d.out;omega);exact wp_load_row 101 (.tmp 7) rfl _ (evs b1) _ _ (0,0) _ aN underlying101 rfl (by kernel_rfl) (hK _ _ rfl (Ai rfl bR))
     ·have aN:=P7.out.on3 U (by have:=d.out;omega) (by have:=d.out;omega) (by have:=d.out;omega);have c0:=aN.cell 0;simp only[cR,cS]at c0;go_simp;exact hK _ _ rfl (Ai rfl bR)
     ·go_simp;refine(a0.out wx).mono ?_;rintro e w8 ⟨rfl,rfl⟩;exact hK _ _ rfl (Ai rfl bR)
     ·go_simp;refine(aX.out B ob sb (p+1) wx (by have:=d.out;omega) (by have:=d.out;omega) (by have:=d.out;omega) (by have:=d.out;omega) (by have:=d.out;omega) (by have:=b0.out;have:=aM.size;omega) (R7.out.below aM) (S7.out.below aM)).mono ?_;rintro e w8 ⟨rfl,h2,h3⟩;exact hK _ _ ⟨rfl,h3⟩ (Bu rfl h2)
     ·refine Hd ?_;have cI:a2.tmps[49]?.getD undef=rD rG (l.er:Nat):=hf.1.1;go_simp;exact hK _ rfl
    ·rintro f w8 s O;have s:On3 B ob sb w7 w8:=s;have Q:l.er=0->RS w8 B l.rest 0/\PcS w8 ob sb (p+1) (0+l.op.length) (0+l.sh.length) (Mf (fun _=>none) l.op) (Po (fun _=>none) l.sh):=O.2.2.2.2.2.1.2;have Sr:f 9=rD rG (l.er:Nat):=O.2.2.2.2.2.2.1;clear O;simp only[Ao,Av,Ej,List.filterMap_cons,List.filterMap_nil,List.contains_cons,List.contains_nil,Nat.reduceBEq,Nat.reduceAdd,Bool.or_false,Bool.or_true,cond_true,cond_false];rw[Sr];clear Sr;have S:=Hd (aE.out.trans (s.low (by have:=d.out;omega) (by have:=d.out;omega) (by have:=d.out;omega) aE.out.size));have G8:=Hd (G7.out.on3 s (by have:=d.out;omega) (by have:=d.out;omega) (by have:=d.out;omega));have M8:=Hd (M7.out.on3 s (by have:=d.out;omega) (by have:=d.out;omega) (by have:=d.out;omega));have P8:=Hd (P7.out.on3 s (by have:=d.out;omega) (by have:=d.out;omega) (by have:=d.out;omega));have bK:=Hd Q;clear s Q
     by_cases hd:l.er=0
     ·have T:=Hd hd;have cB:((l.er:Int)==0)=true:=(by rw[beq_iff_eq];omega);have cC:((l.er:Int) !=0)=false:=(by rw[bne_eq_false_iff_eq];omega);clear hd;have aZ:=Hd (aY.out T.out);obtain⟨bB,aO⟩:=bK.out T.out;rw[aD,aD,Zi3,Zi4]at aO;have a1:=Hd (bI.out B w8 bB);have S8:=Hd aO;have Y:=Hd (bT.out z.out C.out N.out T.out);have Z:=Hd (bU.out z.out C.out N.out T.out);clear bB aO;obtain⟨e5,a5⟩:=eX (Zgr l.rest 0);rw[<-a5]at a1 Y Z;clear a5;go_wp2_with fail;refine a1.out.mono ?_;rintro e w' ⟨rfl,rfl⟩
      by_cases he:e5=0
      ·have bJ:=Hd he;have cD:((e5:Int)==0)=true:=(by rw[beq_iff_eq];omega);have cE:((e5:Int) !=0)=false:=(by rw[bne_eq_false_iff_eq];omega);clear he;have c0:=M8.out.cell 0;simp only[cR,cS]at c0;obtain⟨om,H⟩:=eX (((mk:Int)==2));have cM:((mk:Int)==2)=om:=H.symm;have M:=aZ.out ob sb w8 S8.out.pieceN S8.out.pieceH;rw[<-a4.out,<-H]at M;have X:=Hd M;obtain⟨RB,aJ⟩:=eX (Ar ⟨(u:Int),(A:Int),l.op,l.sh⟩ om);have bL:=Hd (show Ar ⟨(u:Int),(A:Int),l.op,l.sh⟩ only=RB by rw[aJ,H,a4.out]);rw[<-aJ]at X;clear H M aJ;go_wp2_with (refine Af rfl 101 (.tmp 7) rfl p rfl 101 #[rD rF (u:Nat),rD rF (A:Nat),.map (some ob),.map (some sb)] (0,0) _ P8.out underlying101 rfl (by kernel_rfl) ?_);refine X.out.mono ?_;rintro e w9 ⟨rfl,s⟩;have aU:=Hd (S.out.trans (s.mono S.out.size));have G9:=Hd (G8.out.below s G8.out.lt);have P9:=Hd (P8.out.below s P8.out.lt);have S9:=Hd (S8.out.below s);clear s c0;have aA:=Hd (Z.out bJ.out RB bL.out);cases RB with
       |true=>
        go_wp2_with (first
         |(refine Af rfl 101 (.tmp 7) rfl p rfl 101 #[rD rF (u:Nat),rD rF (A:Nat),.map (some ob),.map (some sb)] (0,0) _ P9.out underlying101 rfl (by kernel_rfl) ?_)
         |(refine Aa rfl 101 (.tmp 4) (.tmp 66) rfl g #[rD rF (u:Nat),rD rF (A:Nat),.map (some ob),.map (some sb)] rfl rfl 101 #[rD rF 0,rD rF 0,.map none,.map none] G9.out (by kernel_rfl) rfl rfl ?_))
        rintro J i m n j;have r:=Hd i;have q:=Hd (aU.out.trans (m w.heap.size (by have:=d.out;omega)));have b2:=Hd (S9.out.only (Only.storeQ m n) (by have:=d.out;omega) (by have:=d.out;omega) (by have:=d.out;omega));clear i m n j;go_wp2_with fail;refine bodyPost_ret (v:=.tuple #[.agg #[rD rF (u:Nat),rD rF (A:Nat),.map (some ob),.map (some sb)],rD rG 0]) (Ac results66 _ _ g _ _ _ rfl r.out underlying101 rfl (by kernel_rfl)) rfl ?_;rw[aA.out.trans (iP trivial)];refine⟨q.out,?_⟩;rw[iP rfl];exact⟨ob,sb,p+1,rfl,by have:=d.out;omega,by have:=d.out;omega,by have:=d.out;omega,by have:=d.out;omega,by have:=d.out;omega,b2.out⟩
       |false=>
        go_wp2_with (refine Aa rfl 101 (.tmp 4) (.tmp 65) rfl g #[rD rF 0,rD rF 0,.map none,.map none] rfl rfl 101 #[rD rF 0,rD rF 0,.map none,.map none] G9.out (by kernel_rfl) rfl rfl ?_);rintro J i m n j;have r:=Hd i;have q:=Hd (aU.out.trans (m w.heap.size (by have:=d.out;omega)));clear i m n j;go_wp2_with fail;refine bodyPost_ret (v:=.tuple #[.agg #[rD rF 0,rD rF 0,.map none,.map none],rD rG 3]) (Ac results66 _ _ g _ _ _ rfl r.out underlying101 rfl (by kernel_rfl)) rfl ?_;rw[aA.out];exact⟨q.out,rfl⟩
      ·have G:=Hd he;have cD:((e5:Int)==0)=false:=(by rw[qN];omega);have cE:((e5:Int) !=0)=true:=(by rw[bne_iff_ne];omega);clear he;go_wp2_with (refine Aa rfl 101 (.tmp 4) (.tmp 57) rfl g #[rD rF 0,rD rF 0,.map none,.map none] rfl rfl 101 #[rD rF 0,rD rF 0,.map none,.map none] G8.out (by kernel_rfl) rfl rfl ?_);rintro J i m n j;have r:=Hd i;have q:=Hd (S.out.trans (m w.heap.size (by have:=d.out;omega)));clear i m n j;go_wp2_with fail;refine bodyPost_ret (v:=.tuple #[.agg #[rD rF 0,rD rF 0,.map none,.map none],rD rG (e5:Nat)]) (Ac results66 _ _ g _ _ _ rfl r.out underlying101 rfl (by kernel_rfl)) rfl ?_;rw[Y.out G.out];exact⟨q.out,by rw[iN G.out]⟩
     ·have G:=Hd hd;have cB:((l.er:Int)==0)=false:=(by rw[qN];omega);have cC:((l.er:Int) !=0)=true:=(by rw[bne_iff_ne];omega);clear hd;go_wp2_with (refine Aa rfl 101 (.tmp 4) (.tmp 57) rfl g #[rD rF 0,rD rF 0,.map none,.map none] rfl rfl 101 #[rD rF 0,rD rF 0,.map none,.map none] G8.out (by kernel_rfl) rfl rfl ?_);rintro J i m n j;have r:=Hd i;have q:=Hd (S.out.trans (m w.heap.size (by have:=d.out;omega)));clear i m n j;go_wp2_with fail;refine bodyPost_ret (v:=.tuple #[.agg #[rD rF 0,rD rF 0,.map none,.map none],rD rG (l.er:Nat)]) (Ac results66 _ _ g _ _ _ rfl r.out underlying101 rfl (by kernel_rfl)) rfl ?_;rw[bS.out z.out C.out N.out G.out];exact⟨q.out,by rw[iN G.out]⟩
   ·have G:=Hd hc;have b9:((e3:Int)==0)=false:=(by rw[qN];omega);have cA:((e3:Int) !=0)=true:=(by rw[bne_iff_ne];omega);clear hc;go_wp2_with (refine Aa rfl 101 (.tmp 4) (.tmp 57) rfl g #[rD rF 0,rD rF 0,.map none,.map none] rfl rfl 101 #[rD rF 0,rD rF 0,.map none,.map none] (by rw[<-aI.out];exact G7.out) (by kernel_rfl) rfl rfl ?_);rintro J i m n j;simp only[<-aI.out]at m;have r:=Hd i;have q:=Hd (aE.out.trans (m w.heap.size (by have:=d.out;omega)));clear i m n j;go_wp2_with fail;refine bodyPost_ret (v:=.tuple #[.agg #[rD rF 0,rD rF 0,.map none,.map none],rD rG (e3:Nat)]) (Ac results66 _ _ g _ _ _ rfl r.out underlying101 rfl (by kernel_rfl)) rfl ?_;rw[bQ.out z.out C.out G.out];exact⟨q.out,by rw[iN G.out]⟩
  ·have G:=Hd s;have b7:((e2:Int)==0)=false:=(by rw[qN];omega);have b8:((e2:Int) !=0)=true:=(by rw[bne_iff_ne];omega);clear s;go_wp2_with (refine Aa rfl 101 (.tmp 4) (.tmp 57) rfl g #[rD rF 0,rD rF 0,.map none,.map none] rfl rfl 101 #[rD rF 0,rD rF 0,.map none,.map none] (by rw[<-aH.out];exact G5.out) (by kernel_rfl) rfl rfl ?_);rintro J i m n j;simp only[<-aH.out]at m;have r:=Hd i;have q:=Hd (aC.out.trans (m w.heap.size (by have:=d.out;omega)));clear i m n j;go_wp2_with fail;refine bodyPost_ret (v:=.tuple #[.agg #[rD rF 0,rD rF 0,.map none,.map none],rD rG (e2:Nat)]) (Ac results66 _ _ g _ _ _ rfl r.out underlying101 rfl (by kernel_rfl)) rfl ?_;rw[bP.out z.out G.out];exact⟨q.out,by rw[iN G.out]⟩
 ·have G:=Hd ha;have b5:((e1:Int)==0)=false:=(by rw[qN];omega);have b6:((e1:Int) !=0)=true:=(by rw[bne_iff_ne];omega);clear ha;go_wp2_with (refine Aa rfl 101 (.tmp 4) (.tmp 57) rfl g #[rD rF 0,rD rF 0,.map none,.map none] rfl rfl 101 #[rD rF 0,rD rF 0,.map none,.map none] G3.out (by kernel_rfl) rfl rfl ?_);rintro J i m n j;have r:=Hd i;have q:=Hd (aB.out.trans (m w.heap.size (by have:=d.out;omega)));clear i m n j;go_wp2_with fail;refine bodyPost_ret (v:=.tuple #[.agg #[rD rF 0,rD rF 0,.map none,.map none],rD rG (e1:Nat)]) (Ac results66 _ _ g _ _ _ rfl r.out underlying101 rfl (by kernel_rfl)) rfl ?_;rw[bO.out G.out];exact⟨q.out,by rw[iN G.out]⟩
theorem Zi5 (v:Value)(L:List Nat)(mk:Nat)(only:Bool)(w:World)(h:Rd w v (bvs L))(A:BL mk L)(y:∀n∈L,n<256)(C:((mk:Int)==2)=only)(hm:mk<256):
  Calls prog 66 #[v,rD rF (mk:Nat)] w (Zi1 (ofT only mk L) w):=by
 obtain⟨a,cp,rfl,-,-⟩:=id h;rw[bvs_len]at h|-;unfold ofT Zmw Zmv Zmu;obtain⟨A,d⟩:=A;unfold Zmx at d;rw[iN (by omega)];have z:=Is L 1 fun n=>n==mk;have V:=fun h=>St (L:=L) (s:=1) (P:=fun n=>n==mk) h;have O:=fun(B g:Nat) (W:World) (c:RS W B L 0) (o:Blk W g 3 #[rD rF (mk:Nat)]) (m:g≠B)=>Qu 119 (rE (some ⟨g,0,rI⟩)) (fun _ _=>rfl) B L 1 (fun n=>n==mk) W c (.inl rfl) y fun n p l j=>Zf2 n g mk p (by have:=(o.only j m).cell 0;simpa using this);generalize Fr L 1 (fun n=>n==mk)=r1 at z V O d|-;have r:∀n∈r1.2.2.1,n<256:=fun n l=>y n (z.2 n l);have g2:=(Is r1.2.2.1 4 fits).trans z;have J:=fun h=>St (L:=r1.2.2.1) (s:=4) (P:=fits) h;have Z:=Su (P:=fits) r (.inr rfl);have Q:=fun(B:Nat) (W:World) (c:RS W B r1.2.2.1 0)=>Zf1 113 (fun _ _=>rfl) B r1.2.2.1 4 fits W c (.inr rfl) r fun n p l j=>by
  have:=Jw (n:Int) p (by omega) (by omega);rw[cV]at this;exact this.mono fun e w' h=>⟨h.1,h.2.symm⟩
 generalize Fr r1.2.2.1 4 fits=r2 at g2 J Z Q d|-;have t:∀n∈r2.2.2.1,n<256:=fun n l=>y n (g2.2 n l);have g3:=(Is r2.2.2.1 4 fun i=>decide (i<r2.1)).trans g2;have X:=fun h=>St (L:=r2.2.2.1) (s:=4) (P:=fun i=>decide (i<r2.1)) h;have b3:=Su (P:=fun i=>decide (i<r2.1)) t (.inr rfl);have R:=fun(B g:Nat) (W:World) (K M N:Value) (c:RS W B r2.2.2.1 0) (o:Blk W g 101 #[rD rF (r2.1:Nat),K,M,N]) (m:g≠B)=>Qu 120 (rE (some ⟨g,0,rI⟩)) (fun _ _=>rfl) B r2.2.2.1 4 (fun i=>decide (i<r2.1)) W c (.inr rfl) t fun n p l j=>Zf3 n g r2.1 p (by have:=(o.only j m).cell 0;simpa using this);generalize Fr r2.2.2.1 4 (fun i=>decide (i<r2.1))=r3 at g3 X b3 R d|-;have u:∀n∈r3.2.2.1,n<256:=fun n l=>y n (g3.2 n l);have f:=fun(h:r2.2.1=0)=>Sv (J h).1;have S:=fun(h2:r2.2.1=0) (B ob sb g:Nat) (W:World) (D:B<ob) (E:B<sb) (F:ob≠sb) (G:ob<g) (H:sb<g) (I:g<=W.heap.size) (c:RS W B r3.2.2.1 0) (hS:PcS W ob sb g 0 0 (fun _=>none) (fun _=>none))=>
  Ziy (bP r2.1) (f h2).2.2.1 (r2.1-1) (r2.1:Nat) (r3.1:Nat) B ob sb g 0 0 r3.2.2.1 (fun _=>none) (fun _=>none) W (f h2).2.2.2.2 (by have:=(f h2).1;have:=(f h2).2.1;omega) (by have:=(f h2).1;omega) D E F G H I c hS (by have:=g3.1;omega) u
 have Y:=fun(h2:r2.2.1=0) (W:World)=>(show Calls prog 61 #[rD rF (r2.1:Nat)] W fun e w'=>e=rK (rD rF ((r2.1-1:Nat):Int))/\W=w' from by
  have:=Rf (r2.1:Int) W (by omega) (by omega)
  rwa [(f h2).2.2.2.1]at this)
 have T:=fun(h2:r2.2.1=0) (h4:(rdP (bP r2.1) (r2.1-1) r3.2.2.1).er=0)=>Vk (k:=bP r2.1) (x:=r2.1-1) (n:=r2.1) (i:=r3.1) u (d.imp (fun h=>by have:=g3.1;omega) id) (by have:=(f h2).1;omega) (by have:=(f h2).1;have:=(f h2).2.1;omega) (by omega) (by omega) h4;generalize hrr:rdP (bP r2.1) (r2.1-1) r3.2.2.1=rr at S T|-;refine Zf4 a cp L r1.2.2.1 r2.2.2.1 r3.2.2.1 mk r1.1 r2.1 r3.1 r1.2.1 r2.2.1 r3.2.1 r1.2.2.2 r2.2.2.2 r3.2.2.2 0 (r2.1-1) only rr _ w h A C O (fun e B W c=> ?_) (fun e e2 B g W K M N c=> ?_) (fun e e2 e3 B ob sb g W D E F G H I c=> ?_) (fun e e2=>Y e2) (fun e e2 e3 q ob sb W h1 h2=> ?_) (fun e=> ?_) (fun e e2=> ?_) (fun e e2 e3=> ?_) (fun e e2 e3 q=> ?_) (fun e e2 e3 q U=> ?_) (fun e e2 e3 q U b o=> ?_)
 ·rw[(V e).2]at c;exact Q B W c
 ·rw[(J e2).2]at c;exact R B g W K M N c
 ·rw[(X e3).2]at c;exact S e2 B ob sb g W D E F G H I c
 ·obtain⟨q1,q2,q3⟩:=T e2 q;exact Zi2 ⟨(r2.1:Int),(r3.1:Int),rr.op,rr.sh⟩ only ob sb W q1 q2 q3 h1 h2
 ·rw[iP e]
 ·rw[iN (by omega),iP e2]
 ·rw[iN (by omega),iN (by omega),iP e3]
 ·rw[iN (by omega),iN (by omega),iN (by omega),iP q]
 ·rw[iN (by omega),iN (by omega),iN (by omega),iN (by omega),iP U]
 ·rw[iN (by omega),iN (by omega),iN (by omega),iN (by omega),iN (by omega)]
  by_cases hb2:b=true
  ·rw[iP (o.trans hb2),iP hb2]
  ·rw[iN (fun hc=>hb2 (o.symm.trans hc)),iN hb2]
structure SpGood (s:SparseD):Prop where
 ok:SparseOk s
 small:Ds s=true
 piece:Cu s=true
 opPos:∀p∈s.op,0<=p.1
 shPos:∀p∈s.sh,0<=p.1
 opUp:(s.op.map (·.1)).Pairwise (· < ·)
 shUp:(s.sh.map (·.1)).Pairwise (· < ·)
theorem Zf5 {k x n i:Nat} {L:List Nat}(c:∀y∈L,y<256)(e:L.length<=4000\/Ds ⟨0,0,(rdP k x L).op,(rdP k x L).sh⟩=true)(hx:2^k<=x+1)(b:x+2^k<=131071)(f:n<=4294967296)(d:i<=4294967296)(h:(rdP k x L).er=0):
  SpGood ⟨(n:Int),(i:Int),(rdP k x L).op,(rdP k x L).sh⟩:=by
 obtain⟨h1,h2,h3⟩:=Vk (n:=n) (i:=i) c e hx b f d h;have o:=Vh k x L hx h;exact⟨h1,h2,h3,fun p a=>by have:=(o.opIn p a).1;omega,fun p a=>by have:=(o.shIn p a).1;omega,Ne o.opUp,Ne o.shUp⟩
theorem Sw {only:Bool} {mk:Nat} {L:List Nat}(f:∀y∈L,y<256)(l:BL mk L)(h:(ofT only mk L).1=0):SpGood (ofT only mk L).2/\Ar (ofT only mk L).2 only=true:=by
 unfold ofT Zmw Zmv Zmu at h|-;obtain⟨l,a⟩:=l;unfold Zmx at a;rw[iN (by omega)]at h|-;have e:=Is L 1 fun n=>n==mk;generalize Fr L 1 (fun n=>n==mk)=r1 at e a h|-
 split at h
 ·rename_i c;exact absurd h c
 ·rename_i c1
  rw[iN c1];have g:∀n∈r1.2.2.1,n<256:=fun n b=>f n (e.2 n b);have g2:=(Is r1.2.2.1 4 fits).trans e;have m:=fun h=>St (L:=r1.2.2.1) (s:=4) (P:=fits) h;have o:=Su (P:=fits) g (.inr rfl);generalize Fr r1.2.2.1 4 fits=r2 at g2 m o a h|-
  split at h
  ·rename_i c;exact absurd h c
  ·rename_i c2
   rw[iN c2];have j:∀n∈r2.2.2.1,n<256:=fun n b=>f n (g2.2 n b);have g3:=(Is r2.2.2.1 4 fun i=>decide (i<r2.1)).trans g2;have p:=Su (P:=fun i=>decide (i<r2.1)) j (.inr rfl);generalize Fr r2.2.2.1 4 (fun i=>decide (i<r2.1))=r3 at g3 p a h|-
   split at h
   ·rename_i c;exact absurd h c
   ·rename_i c3
    rw[iN c3];have d:=Sv (m (by omega)).1;have G:=fun(q:(rdP (bP r2.1) (r2.1-1) r3.2.2.1).er=0)=>Zf5 (k:=bP r2.1) (x:=r2.1-1) (n:=r2.1) (i:=r3.1) (fun n b=>f n (g3.2 n b)) (a.imp (fun h=>by have:=g3.1;omega) id) (by have:=d.1;omega) (by have:=d.1;have:=d.2.1;omega) (by omega) (by omega) q;generalize rdP (bP r2.1) (r2.1-1) r3.2.2.1=rr at G h|-
    split at h
    ·rename_i c;exact absurd h c
    ·rename_i c4
     rw[iN c4]
     split at h
     ·rename_i c;exact absurd h c
     ·rename_i c5
      rw[iN c5]
      split at h
      ·rename_i c6
       rw[iP c6];exact⟨G (by omega),c6⟩
      ·cases h
theorem Zy {α:Type} {l:List (Int×α)} {D:Nat->α}(hp:∀p∈l,0<=p.1)(hD:∀p∈l,D p.1.toNat=p.2):(l.map fun p=>p.1.toNat).map (fun m:Nat=>((m:Int),D m))=l:=by
 rw[iT]
 conv=>rhs;rw[<-List.map_id l]
 refine gZ fun p hp2=> ?_;show(((p.1.toNat:Nat):Int),D p.1.toNat)=p;rw[hD p hp2,iU (hp p hp2)]
theorem Zz {α:Type} {l:List (Int×α)}(hp:∀p∈l,0<=p.1):((l.map fun p=>p.1.toNat).map fun m:Nat=>(m:Int))=l.map (·.1):=by
 rw[iT];refine gZ fun p hp2=> ?_;show((p.1.toNat:Nat):Int)=p.1;exact iU (hp p hp2)
theorem Zf6 {w:World} {G:Int->Option Value} {H:Int->Option (List Nat)}(h:RunsH w G H)(x:Int):(G x).isSome=(H x).isSome:=by
 have:=h x;cases e:H x with
 |none=>rw[e]at this;have this:G x=none:=this;rw[this];rfl
 |some L=>rw[e]at this;obtain⟨v,h1,h2⟩:=this;rw[h1];rfl
theorem Zi6 (s:SparseD)(b:SpGood s)(ob sb:Nat)(w:World)(h1:PieceN w ob s.op.length (Ah s.op))(h2:PieceH w sb s.sh.length (Ba s.sh)):
  Calls prog 67 #[.agg #[rD rF s.leaves,rD rF s.own,.map (some ob),.map (some sb)]] w fun e w'=>∃v',e=rK v'/\SparseR w' v' s/\Below w.heap.size w w'/\∀(g:Nat) (W:World),g<w.heap.size->Only g w' W->SparseR W v' s:=by
 obtain⟨G,i,j⟩:=h1;obtain⟨q,k,d⟩:=h2;have j:NodesG w G (Ah s.op):=j;have d:RunsH w q (Ba s.sh):=d;obtain⟨u,v⟩:=Gd b.small;have f:=b.small;unfold Ds at f;simp only[aT,decide_eq_true_eq]at f;have t:=fun p (a:p∈s.op)=>Oq b.opUp a;have r:=fun p (a:p∈s.sh)=>Lr b.shUp a;have e1:=Zy (l:=s.op) (D:=fun m:Nat=>(Ah s.op m).getD Am) b.opPos fun p a=>by
  show(Ah s.op ((p.1.toNat:Nat):Int)).getD Am=p.2;rw[iU (b.opPos p a),t p a];rfl
 have e2:=Zy (l:=s.sh) (D:=fun m:Nat=>(Ba s.sh m).getD []) b.shPos fun p a=>by
  show(Ba s.sh ((p.1.toNat:Nat):Int)).getD []=p.2;rw[iU (b.shPos p a),r p a];rfl
 have n1:=Zz b.opPos;have y:=Zz b.shPos;have:=Qp s.leaves s.own ob sb s.op.length s.sh.length G q (s.op.map fun p=>p.1.toNat) (s.sh.map fun p=>p.1.toNat) (fun m=>(Ah s.op m).getD Am) (fun m=>(Ba s.sh m).getD []) w i k (by omega) (by omega)
  (by rw[n1];exact⟨b.opUp,fun x=>by rw[Nc,(j.val x).2]⟩)
  (by rw[y];exact⟨b.shUp,fun x=>by rw[Iq,Zf6 d x]⟩)
  (fun m i=>by
   obtain⟨p,a,rfl⟩:=List.mem_map.1 i;have h:=j ((p.1.toNat:Nat):Int);rw[iU (b.opPos p a),t p a]at h|-;obtain⟨c,n,o⟩:=h;exact⟨(b.ok.op p a).1,List.all_eq_true.1 f.1.2 p a,c,n,o⟩)
  (fun m i=>by
   obtain⟨p,a,rfl⟩:=List.mem_map.1 i;have h:=d ((p.1.toNat:Nat):Int);rw[iU (b.shPos p a),r p a]at h|-;obtain⟨c,n,o⟩:=h;exact⟨(b.ok.sh p a).1,by have:=oD (List.all_eq_true.1 f.2 p a);show p.2.length<=_;omega,c,n,o⟩)
  (by rw[gH];omega) (by rw[gH];omega)
 rw[e1,e2]at this;exact this
theorem Zmo (w:World):SparseR w (.agg #[rD rF 0,rD rF 0,rC rI 0 0,rC rI 0 0]) Ef:=⟨_,_,rfl,SpotsR.nil w,StubsR.nil w⟩
end Go.Proofs.YtfofaiommeckbaaGreat
namespace Go.Proofs.YtfofaiommeckbaaGreat
open Go.RowKit WalkM WireM
theorem Zi7 (L:List Nat)(P:Nat->Bool):Fr L 1 P=match L with|[]=>(0,4,[],4)|b::M=>if P b=true then(b,0,M,0)else(0,3,M,0):=by
 unfold Fr;rw[De];cases L with
 |nil=>rfl
 |cons b M=>simp only[Ze4];rfl
theorem Vl (L:List Nat)(P:Nat->Bool):Fr L 4 P=if L.length<4 then(0,4,L,4)else if P (Hw L)=true then(Hw L,0,L.drop 4,0)else(0,3,L.drop 4,0):=by
 unfold Fr;have e:Eg L 0 4=if L.length<4 then([],L,4)else(L.take 4,L.drop 4,0):=by
  unfold Eg Cc;have a:Zgd 4=true:=(by decide);rw[iP a,iN (by decide),iN (by decide)]
  by_cases h:L.length<4
  ·rw[iP h,iP (by omega)]
  ·rw[iN h,iN (by omega)];rfl
 rw[e]
 by_cases h:L.length<4
 ·rw[iP h,iP h];rfl
 ·rw[iN h,iN h];rfl
theorem Sx (only:Bool)(mk:Nat)(b:List Nat):ofT only mk b=ofS only mk b:=by
 unfold ofT ofS
 by_cases h:1048576<b.length
 ·rw[iP h,iP h]
 ·rw[iN h,iN h,Zi7];cases b with
  |nil=>rfl
  |cons c L=>
   simp only[beq_iff_eq]
   by_cases hc:c=mk
   ·rw[iP hc];simp only[ne_eq,not_true_eq_false,if_false,hc];unfold Zmw;rw[Vl]
    by_cases h4:L.length<4
    ·simp only[iP h4];rfl
    ·simp only[iN h4]
     by_cases hf:fits (Hw L)=true
     ·have a:¬fits (Hw L)=false:=(by rw[hf];decide);simp only[iP hf,iN a];unfold Zmv;rw[Vl,dZ]
      by_cases h8:L.length<8
      ·simp only[iP h8,iP (show L.length-4<4 by omega)];rfl
      ·simp only[iN h8,iN (show¬L.length-4<4 by omega),List.drop_drop]
       by_cases hi:Hw (L.drop 4)<Hw L
       ·simp only[iP (show decide (Hw (L.drop 4)<Hw L)=true by simpa using hi),iN (show¬Hw L<=Hw (L.drop 4) by omega)];unfold Zmu Zgr;simp only[ne_eq,not_true_eq_false,if_false]
        by_cases he:(rdP (bP (Hw L)) (Hw L-1) (L.drop 8)).er=0
        ·simp only[he,not_true_eq_false,if_false]
         by_cases hr:(rdP (bP (Hw L)) (Hw L-1) (L.drop 8)).rest=[]
         ·simp only[hr,not_true_eq_false,if_false,if_true]
         ·simp only[hr,not_false_eq_true,if_false,if_true];rfl
        ·simp only[he,not_false_eq_true,if_true]
       ·simp only[iN (show¬decide (Hw (L.drop 4)<Hw L)=true by simpa using hi),iP (show Hw L<=Hw (L.drop 4) by omega)];rfl
     ·have a:fits (Hw L)=false:=(by simpa using hf);simp only[iN hf,iP a];rfl
   ·rw[iN hc];simp only[ne_eq,hc,not_false_eq_true,if_true];rfl
theorem Zlm (v:Value)(L:List Nat)(mk:Nat)(only:Bool)(w:World)(h:Rd w v (bvs L))(t:∀n∈L,n<256)(Q:L.length<=4000)(R:mk<256)(B:only=decide (mk=2)):
  Calls prog 23 #[v,rD rG (mk:Nat)] w (Zmt (ofS only mk L) w):=by
 have T:∀M:List Nat,(∀n∈M,n<256)->Hw M<4294967296:=fun M u=>by
  have h1:=Nn _ _ rfl fun n o=>u n (cL (i:=4) o);have h2:256^(M.take 4).length<=256^4:=bQ (by omega) (by rw[cQ];omega);exact cH h1 (eT h2 (by decide))
 cases L with
 |nil=>
  have J:∀ {P:Prop},5<=([]:List Nat).length->P:=fun hx=>absurd hx (by decide);have d:∀ {P:Prop},9<=([]:List Nat).length->P:=fun hx=>absurd hx (by decide);have s:∀ {P:Prop},0<([]:List Nat).length->P:=fun hx=>absurd hx (by decide);exact Zx v [] 0 mk 0 0 (Iw 1) only _ w h Q B R (fun hx=>s hx) (by decide) (fun hx=>J hx) (fun hx=>d hx) (fun hx=>d hx) (fun hx=>d hx) (by decide) (by decide) (fun _=>rfl) (fun hx=>s hx) (fun hx=>s hx) (fun _ hx=>J hx) (fun _ hx=>J hx) (fun _ hx=>d hx) (fun _ hx=>d hx) (fun _ hx=>d hx) (fun _ hx=>d hx)
 |cons c M=>
  have u:∀n∈M,n<256:=fun n o=>t n (List.mem_cons_of_mem _ o);have m:∀k,(c::M).drop (k+1)=M.drop k:=fun k=>rfl;obtain⟨n,o⟩:=eX (Hw M);obtain⟨i,D⟩:=eX (Hw (M.drop 4));obtain⟨rd,g⟩:=eX (rdP (bP n) (n-1) (M.drop 8));have C:(c::M).length=M.length+1:=rfl;have j:ofS only mk (c::M)=if c≠mk then(3,Ef)else if M.length<4 then(4,Ef)else if fits n=false then(3,Ef)else if M.length<8 then(4,Ef)else if n<=i then(3,Ef)else
    if rd.er≠0 then(rd.er,Ef)else if rd.rest≠[]then(5,Ef)else if Ar ⟨n,i,rd.op,rd.sh⟩ only=true then(0,⟨n,i,rd.op,rd.sh⟩)else(3,Ef):=by
   rw[ofS,iN (by omega),g,o,D]
  have K:Suf rd.rest (c::M):=(by rw[g];exact(Zjz _ _ _).trans (Suf.drop (c::M) 9));have H:n<4294967296:=(by rw[o];exact T M u);have E:i<4294967296:=(by rw[D];exact T _ fun x hx=>u x (iD hx));refine Zx v (c::M) c mk n i rd only _ w h Q B R (fun _=>rfl) (t c (List.mem_cons_self ..)) (fun Z W z=> ?_) (fun l W z=> ?_) (fun l a W z=> ?_) (fun l a f A Y W V=> ?_) H E ?_ ?_ ?_ ?_ ?_ ?_ ?_ ?_ ?_
  ·have:=Qt v (c::M) 1 W (h.below z lR) t (by omega) (by omega);rw[m 0,List.drop_zero,<-o]at this;exact this
  ·have:=Qt v (c::M) 5 W (h.below z lR) t (by omega) (by omega);rw[m 4,<-D]at this;exact this
  ·have F:=Sv a;have:=Zfv v (c::M) t (by omega) (bP n) (n-1) 9 W F.2.2.2.2 (by have:=F.1;omega) (by omega) (h.below z lR);rw[m 8,<-g]at this;have e:((n-1:Nat):Int)=(n:Int)-1:=(by have:=F.1;have:=fD (bP n);omega);rw[e]at this;exact this
  ·have F:=Sv a;have hp:=fD (bP n);have G:=Zf5 (k:=bP n) (x:=n-1) (n:=n) (i:=i) (L:=M.drop 8) (fun y X=>u y (iD X)) (.inl (by rw[dZ];omega)) (by have:=F.1;omega) (by have:=F.1;omega) (by omega) (by omega) (by rw[<-g];exact A);rw[<-g]at G;have S:=Gd G.small;have N:=G.small;unfold Ds at N;simp only[aT,decide_eq_true_eq]at N;refine Wv Y ⟨n,i,rd.op,rd.sh⟩ only W V G.ok (by have:=S.1;simp only at this|-;omega) (by have:=S.2;simp only at this|-;omega) fun p I=> ?_;have q:=List.all_eq_true.1 N.1.2 p I;unfold Cj at q;simp only[decide_eq_true_eq]at q;omega
  ·intro h;rw[C]at h;omega
  ·intro _ e;rw[j,iP e]
  ·intro _ e O;rw[j,iN (by omega),iP (by omega)]
  ·intro e O a;rw[j,iN (by omega),iN (by omega),iP a]
  ·intro e O a l;rw[j,iN (by omega),iN (by omega),iN (by rw[a];decide),iP (by omega)]
  ·intro e l a f;rw[j,iN (by omega),iN (by omega),iN (by rw[a];decide),iN (by omega),iP f]
  ·intro e l a f A;rw[j,iN (by omega),iN (by omega),iN (by rw[a];decide),iN (by omega),iN (by omega),iP A]
  ·intro e l a f A ht;have r:rd.rest≠[]:=fun e=>(by rw[e]at ht;simp at ht);rw[j,iN (by omega),iN (by omega),iN (by rw[a];decide),iN (by omega),iN (by omega),iN (by omega),iP r]
  ·intro e l a f A ht b U;have r:rd.rest=[]:=by
    have:=K.at.1;exact List.eq_nil_of_length_eq_zero (by omega)
   rw[j,iN (by omega),iN (by omega),iN (by rw[a];decide),iN (by omega),iN (by omega),iN (by omega),iN (by simp[r]),U]
