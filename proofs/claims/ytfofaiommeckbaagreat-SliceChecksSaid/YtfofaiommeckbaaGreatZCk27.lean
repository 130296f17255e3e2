import Derived.Test.YtfofaiommeckbaaGreatZCk26
open Go.Obj renaming cells -> rJ
open Go.Ending renaming returned -> rK
open Go.Value renaming slice -> rC, int -> rD, pointer -> rE
open Go.IntKind renaming i64 -> rF
open Option renaming none -> rI
open Go.Proofs.Tryz
open Nat renaming zero_le -> aA
open List renaming mem_of_getElem? -> iO, length_drop -> dZ, drop_eq_getElem_cons -> iK, getD_eq_getElem?_getD -> aS, getElem?_eq_getElem -> bB, getElem?_toArray -> cR, getElem?_cons_zero -> cS, getElem?_cons_succ -> aP
set_option linter.unusedVariables false
set_option maxRecDepth 100000
set_option maxHeartbeats 40000000
namespace Go.Proofs.YtfofaiommeckbaaGreat
open Go.RowKit WalkM WireM
theorem Xo (L:List Nat):(Au L 0).2.1.kind<=2:=by
 cases L with
 |nil=>unfold Au;rw[show Eg [] 0 1=([],[],4)from De []];exact aA _
 |cons k M=>
  unfold Au;rw[show Eg (k::M) 0 1=([k],M,0)from De (k::M)];simp only;rw[iN (by decide)]
  split
  ·exact aA _
  ·split
   ·split
    ·show 1<=2;decide
    ·exact aA _
   ·split
    ·split
     ·exact Nat.le_refl 2
     ·exact aA _
    ·exact aA _
theorem Zw (v:Value) (L:List Nat) (p x z A:Nat) (K:NodeD->List Nat->RdR) (j o:RdR) (w:World) (h:Rd w v (bvs L)) (O:∀n∈L,n<256) (G:L.length<=1000000000) (Q:p<=L.length) (t:x<=131070)
  (E:x%2=0->K (Au (L.drop (p+1)) 0).2.1 (Au (L.drop (p+1)) 0).2.2.1=⟨0,[((x:Int),(Au (L.drop (p+1)) 0).2.1)],[],(Au (L.drop (p+1)) 0).2.2.1⟩)
  (r:x%2=1->K (Au (L.drop (p+1)) 0).2.1 (Au (L.drop (p+1)) 0).2.2.1=Ml x (Au (L.drop (p+1)) 0).2.1 j o)
  (I:x%2=1->∀W,Calls prog 100 #[rD rF (x:Nat)] W fun e S=>e=rK (.tuple #[rD rF (z:Nat),rD rF (A:Nat)])/\Below W.heap.size W S)
  (B:p<L.length->(Au (L.drop (p+1)) 0).1=0->x%2=1->∀W,Below w.heap.size w W->Calls prog 70 #[v,rD rF ((L.length-(Au (L.drop (p+1)) 0).2.2.1.length:Nat):Int),rD rF (z:Nat)] W (Ziz L j W))
  (C:p<L.length->(Au (L.drop (p+1)) 0).1=0->x%2=1->j.er=0->∀W,Below w.heap.size w W->Calls prog 70 #[v,rD rF ((L.length-j.rest.length:Nat):Int),rD rF (A:Nat)] W (Ziz L o W))
  (BL:j.er=0->j.op.length<=1000000000/\j.sh.length<=1000000000) (H:o.er=0->o.op.length<=1000000000/\o.sh.length<=1000000000):
  Calls prog 70 #[v,rD rF (p:Nat),rD rF (x:Nat)] w (Ziz L (Sz x (L.drop p) K) w):=by
 have J:p<L.length->∀W,Below w.heap.size w W->Calls prog 128 #[v,rD rF ((p+1:Nat):Int)] W (Zmk W (Zlj L (p+1))):=fun X W T=>Xn v L (p+1) W (h.below T lR) O G X;unfold Zlj at J;rcases hM:L.drop p with _|⟨d,M⟩
 ·have V:L.length<=p:=List.drop_eq_nil_iff.1 hM;have a:∀ {P:Prop},p<L.length->P:=fun hx=>absurd hx (by omega);refine Qs v L ((L.drop (p+1)).take 32) p x 0 (x%2) 0 0 z A Am j o (Sz x [] K) w h G Q t rfl (fun hx=>a hx) (by decide) rfl (fun hx=>a hx) I (fun hx=>a hx) (fun hx=>a hx) (by decide) BL H (fun _=>rfl) (fun hx=>a hx) (fun hx=>a hx) (fun hx=>a hx) (fun hx=>a hx) (fun hx=>a hx) (fun hx=>a hx) (fun hx=>a hx) (fun hx=>a hx) (fun hx=>a hx)
 ·have i:p<L.length:=by
   rcases Nat.lt_or_ge p L.length with h1|h1
   ·exact h1
   ·rw[List.drop_of_length_le h1]at hM;cases hM
  have l:L.drop (p+1)=M:=(by rw[<-List.drop_drop,hM];rfl);have s:L[p]? =some d:=by
   have:(L.drop p)[0]? =some d:=(by rw[hM];rfl);rw[List.getElem?_drop]at this;simpa using this
  have U:d<256:=O d (iO s);have m:M.length=L.length-p-1:=(by rw[<-l,dZ];omega);have k:=J i;rw[l]at k E r B C;obtain⟨u,g⟩:=eX ((Au M 0).1);obtain⟨dn,f⟩:=eX ((Au M 0).2.1);obtain⟨R,y⟩:=eX ((Au M 0).2.2.1);have q:Kt x M K=if u≠0 then Iw u else if x%2=0/\dn.kind=2\/x%2=1/\dn.kind=1 then Iw 3 else K dn R:=by
   rw[g,f,y];rfl
  have b:Sz x (d::M) K=if 1<d then Iw 3 else if d=0 then(if M.length<32 then Iw 4 else⟨0,[],[((x:Int),M.take 32)],M.drop 32⟩)else Kt x M K:=rfl;rw[<-g,<-f,<-y]at k;rw[<-f,<-y]at E r;rw[<-g,<-y]at B;rw[<-g]at C;have F:dn.kind<256:=(by rw[f];exact Nat.lt_of_le_of_lt (Xo M) (by decide));refine Qs v L (M.take 32) p x d (x%2) u (if u=0 then L.length-R.length else 0) z A dn j o (Sz x (d::M) K) w h G Q t rfl (fun _=>by simp[bvs,s]) U (by rw[l]) (fun _ _=>k) I (fun _ _ e hx=>by rw[iP e];exact B i e hx) (fun _ _ e hx e2=>C i e hx e2) F BL H ?_ ?_ ?_ ?_ ?_ ?_ ?_ ?_ ?_ ?_
  ·intro hx;exact absurd i (by omega)
  ·intro _ c;rw[b,iP c]
  ·intro _ c c2;rw[b,iN (by omega),iP c,iP (by rw[m];exact c2)]
  ·intro _ c c2;exact⟨M.drop 32,by rw[b,iN (by omega),iP c,iN (by rw[m];exact c2)],by rw[dZ,m];omega⟩
  ·intro _ c e;rw[b,iN (by omega),iN (by omega),q,iP e]
  ·intro _ c e e2;rw[b,iN (by omega),iN (by omega),q,iN (by omega),iP e2]
  ·intro _ c e e2 e3;refine⟨R,?_,by rw[iP e]⟩;rw[b,iN (by omega),iN (by omega),q,iN (by omega),iN (by omega),E e2]
  ·intro _ c e e2 e3 D;rw[b,iN (by omega),iN (by omega),q,iN (by omega),iN (by omega),r e2,Ml,iP D]
  ·intro _ c e e2 e3 D N;rw[b,iN (by omega),iN (by omega),q,iN (by omega),iN (by omega),r e2,Ml,iN (by omega),iP N]
  ·intro _ c e e2 e3 D N;rw[b,iN (by omega),iN (by omega),q,iN (by omega),iN (by omega),r e2,Ml,iN (by omega),iN (by omega)]
theorem Zfu {k x:Nat} {M L:List Nat}(hM:M.length<=L.length)(hl:L.length<=1000000000)(hx:2^k<=x+1):(rdP k x M).er=0->(rdP k x M).op.length<=1000000000/\(rdP k x M).sh.length<=1000000000:=fun h=>by
 have:=(Vh k x M hx h).len;omega
theorem Zfv (v:Value)(L:List Nat)(q:∀n∈L,n<256)(f:L.length<=1000000000):∀k x p w,IsLev x k->x+2^k<=131071->p<=L.length->Rd w v (bvs L)->
  Calls prog 70 #[v,rD rF (p:Nat),rD rF (x:Nat)] w (Ziz L (rdP k x (L.drop p)) w):=by
 intro k
 induction k with
 |zero=>
  intro x p w a hx m h;have h0:=Gu a;have g:∀ {P:Prop},x%2=1->P:=fun hx=>absurd hx (by omega);exact Zw v L p x 0 0 (fun d R=>⟨0,[((x:Int),d)],[],R⟩) (Iw 1) (Iw 1) w h q f m (by omega) (fun _=>rfl) (fun e=>g e) (fun e=>g e) (fun _ _ e=>g e) (fun _ _ e=>g e) (fun e=>absurd e (by decide)) (fun e=>absurd e (by decide))
 |succ k ih=>
  intro x p w a hx m h;have h1:=Gv a;obtain⟨u,y,C,D,E,z,A⟩:=Go.Proofs.YtfofaiommeckbaaGreat.kids_two a hx (by omega);have s:=Nat.two_pow_pos k;have t:2*2^k<=x+1:=by
   have B:=Nat.mod_le x (2^(k+1+1));unfold IsLev at a;have e:2^(k+1)=2*2^k:=(by rw[Nat.pow_succ];omega);omega
  obtain⟨R,j⟩:=eX ((Au (L.drop (p+1)) 0).2.2.1);have o:Suf R L:=(by rw[j];exact(Vj _).trans (Suf.drop L (p+1)));obtain⟨i,b⟩:=eX ((rdP k (x-2^k) R).rest);have c:Suf i L:=(by rw[b];exact(Zjz _ _ _).trans o);refine Zw v L p x (x-2^k) (x+2^k) (fun d R=>Ml x d (rdP k (x-2^k) R) (rdP k (x+2^k) (rdP k (x-2^k) R).rest)) (rdP k (x-2^k) R) (rdP k (x+2^k) i) w h q f m (by omega) (fun e=>absurd e (by omega)) (fun _=>by rw[<-j,b]) (fun _ W=> ?_) (fun _ _ _ W l=> ?_) (fun _ _ _ _ W l=> ?_) ?_ ?_
  ·refine(Gs (x:Int) W).mono ?_;rintro e w' ⟨rfl,r⟩;rw[z,A];exact⟨rfl,r⟩
  ·have:=ih (x-2^k) (L.length-R.length) W u (by omega) (by omega) (h.below l lR);rw[o.at.2]at this;rw[<-j];exact this
  ·have:=ih (x+2^k) (L.length-i.length) W y (by omega) (by omega) (h.below l lR);rw[c.at.2]at this;rw[<-b];exact this
  ·exact Zfu o.at.1 f (by omega)
  ·exact Zfu c.at.1 f (by omega)
theorem Zll {L:List Nat} {p:Nat}(h:p+4<=L.length):Hw (L.drop p)=((L.getD p 0*256+L.getD (p+1) 0)*256+L.getD (p+2) 0)*256+L.getD (p+3) 0:=by
 unfold Hw;rw[iK (show p<L.length by omega),iK (show p+1<L.length by omega),iK (show p+1+1<L.length by omega),iK (show p+1+1+1<L.length by omega)];simp only[List.take_succ_cons,List.take_zero,aS];rw[bB (show p<L.length by omega),bB (show p+1<L.length by omega),bB (show p+2<L.length by omega),bB (show p+3<L.length by omega)];simp[Du]
theorem Qt (v:Value)(L:List Nat)(p:Nat)(w:World)(h:Rd w v (bvs L))(hL:∀n∈L,n<256)(X:L.length<=1000000000)(V:p+4<=L.length):
  Calls prog 68 #[v,rD rF (p:Nat)] w fun e w'=>e=rK (rD rF (Hw (L.drop p):Nat))/\Below w.heap.size w w':=by
 have F:=Zll V;rcases h.cases with⟨_,_,_,e0⟩|⟨z,A,cap,_,_,_,rfl,G,g⟩
 ·subst e0;simp at V
 have i:∀t,L.getD t 0<256:=fun t=>by
  rw[aS];rcases ht:L[t]? with _|y
  ·decide
  ·exact hL y (iO ht)
 obtain⟨H,Q⟩:=eX L.length;rw[<-Q]at g X V|-;obtain⟨s,R⟩:=eX (p+1);obtain⟨u,S⟩:=eX (p+2);obtain⟨x,T⟩:=eX (p+3);have Y:=g p (by omega);have Z:=g s (by omega);have y2:=g u (by omega);have y3:=g x (by omega);have r:=Hd (show p<H/\s<H/\u<H/\x<H by omega);have M:=Hd (show(p:Int)+1=(s:Int)/\(p:Int)+2=(u:Int)/\(p:Int)+3=(x:Int) by omega);have B:=And.intro (i p) (And.intro (i s) (And.intro (i u) (i x)));rw[<-R,<-S,<-T]at F;obtain⟨b,j⟩:=eX (L.getD p 0);obtain⟨d1,k⟩:=eX (L.getD s 0);obtain⟨d2,l⟩:=eX (L.getD u 0);obtain⟨d3,o⟩:=eX (L.getD x 0);rw[<-j,<-k,<-l,<-o]at F B;rw[<-j]at Y;rw[<-k]at Z;rw[<-l]at y2;rw[<-o]at y3;have C:=Hd B;obtain⟨m,U⟩:=eX (Hw (L.drop p));have W:=Hd (show(((b:Int)*256+(d1:Int))*256+(d2:Int))*256+(d3:Int)=(m:Int) by rw[U,F];simp);rw[<-U];have J:=Hd X;clear F j k l o B i R S T U g Q h hL X V;go_in;go_wp2_with fail;refine Dj [eF (rC (some ⟨z,A,rI⟩) H cap),eF (rD rF (p:Nat)),eF (rE (some ⟨z,A+p,rI⟩)),eF (rD .u8 (b:Nat)),eF (rD rF (b:Nat)),eF (rD rF ((b:Int)*256)),eF (rC (some ⟨z,A,rI⟩) H cap),eF (rD rF (p:Nat)),eF (rD rF (s:Nat)),eF (rE (some ⟨z,A+s,rI⟩)),eF (rD .u8 (d1:Nat)),eF (rD rF (d1:Nat)),eF (rD rF ((b:Int)*256+(d1:Int))),eF (rD rF (((b:Int)*256+(d1:Int))*256)),eF (rC (some ⟨z,A,rI⟩) H cap),eF (rD rF (p:Nat)),eF (rD rF (u:Nat)),eF (rE (some ⟨z,A+u,rI⟩)),eF (rD .u8 (d2:Nat)),eF (rD rF (d2:Nat)),eF (rD rF (((b:Int)*256+(d1:Int))*256+(d2:Int))),eF (rD rF ((((b:Int)*256+(d1:Int))*256+(d2:Int))*256)),eF (rC (some ⟨z,A,rI⟩) H cap),eF (rD rF (p:Nat)),eF (rD rF (x:Nat)),eF (rE (some ⟨z,A+x,rI⟩)),eF (rD .u8 (d3:Nat)),eF (rD rF (d3:Nat)),eF (rD rF (m:Nat)),eF (rD rF (m:Nat))] (by kernel_rfl) (by kernel_rfl) (by kernel_rfl) (kE (kE (kE (kE (kE (kE (kE (kE (kE (kE (kE (kE (kE (kE (kE (kE (kE (kE (kE (kE (kE (kE (kE (kE (kE (kE (kE (kE (kE (kE (Ag))))))))))))))))))))))))))))))) ?_ ?_
 ·refine gQ ?_ (gQ ?_ (gQ ?_ (gQ ?_ (gQ ?_ (gB ?_ (gQ ?_ (gQ ?_ (gB ?_ (gQ ?_ (gQ ?_ (gQ ?_ (gB ?_ (gB ?_ (gQ ?_ (gQ ?_ (gB ?_ (gQ ?_ (gQ ?_ (gQ ?_ (gB ?_ (gB ?_ (gQ ?_ (gQ ?_ (gB ?_ (gQ ?_ (gQ ?_ (gQ ?_ (gB ?_ (gQ ?_ .nil)))))))))))))))))))))))))))));all_goals
   intro a wx E ho hf;refine⟨rfl,?_⟩;intro K D;try have aT:a.tmps[0]?.getD undef=rC (some ⟨z,A,rI⟩) H cap:=ho 0 (by kernel_rfl)
   try have aU:a.tmps[1]?.getD undef=rD rF (p:Nat):=ho 1 (by kernel_rfl)
   try have aQ:=eqn hf.1
   try have aR:=eqn hf.2.1
   try have aG:=r.out.1
   try have aH:=(E.cell (p:=⟨z,A+p,rI⟩) G).trans Y
   try have aI:=C.out.1
   try have aJ:IntKind.i64.wrap ((b:Int))=(b:Int):=by rw[IntKind.wrap_i64];omega
   try have aK:=r.out.2.1
   try have aL:=(E.cell (p:=⟨z,A+s,rI⟩) G).trans Z
   try have aM:=C.out.2.1
   try have aN:IntKind.i64.wrap ((d1:Int))=(d1:Int):=by rw[IntKind.wrap_i64];omega
   try have aO:=r.out.2.2.1
   try have aP:=(E.cell (p:=⟨z,A+u,rI⟩) G).trans y2
   try have aA:=C.out.2.2.1
   try have aB:IntKind.i64.wrap ((d2:Int))=(d2:Int):=by rw[IntKind.wrap_i64];omega
   try have aC:=r.out.2.2.2
   try have aD:=(E.cell (p:=⟨z,A+x,rI⟩) G).trans y3
   try have aE:=C.out.2.2.2
   try have aF:IntKind.i64.wrap ((d3:Int))=(d3:Int):=by rw[IntKind.wrap_i64];omega
   try(refine Hd ?_;go_simp;exact D _ rfl)
  ·obtain⟨j,k,l,o⟩:=C.out;have c:IntKind.i64.wrap (((b:Int)*256))=((b:Int)*256):=(by rw[IntKind.wrap_i64];omega);have d:(b:Int)*256=((b:Int)*256):=(by omega);have q:IntKind.i64.wrap ((b:Int)*256)=((b:Int)*256):=(by rw[d];exact c);go_simp;exact D _ _ rfl bR
  ·have O:(p:Int)+1=(s:Int):=M.out.1;have ht:=r.out.2.1;have P:=J.out;have c:IntKind.i64.wrap ((s:Int))=(s:Int):=(by rw[IntKind.wrap_i64];omega);have d:(p:Int)+1=(s:Int):=(by omega);have q:IntKind.i64.wrap ((p:Int)+1)=(s:Int):=(by rw[d];exact c);go_simp;exact D _ _ rfl bR
  ·obtain⟨j,k,l,o⟩:=C.out;have c:IntKind.i64.wrap (((b:Int)*256+(d1:Int)))=((b:Int)*256+(d1:Int)):=(by rw[IntKind.wrap_i64];omega);have d:((b:Int)*256)+(d1:Int)=((b:Int)*256+(d1:Int)):=(by omega);have q:IntKind.i64.wrap (((b:Int)*256)+(d1:Int))=((b:Int)*256+(d1:Int)):=(by rw[d];exact c);go_simp;exact D _ _ rfl bR
  ·obtain⟨j,k,l,o⟩:=C.out;have c:IntKind.i64.wrap ((((b:Int)*256+(d1:Int))*256))=(((b:Int)*256+(d1:Int))*256):=(by rw[IntKind.wrap_i64];omega);have d:((b:Int)*256+(d1:Int))*256=(((b:Int)*256+(d1:Int))*256):=(by omega);have q:IntKind.i64.wrap (((b:Int)*256+(d1:Int))*256)=(((b:Int)*256+(d1:Int))*256):=(by rw[d];exact c);go_simp;exact D _ _ rfl bR
  ·have O:(p:Int)+2=(u:Int):=M.out.2.1;have ht:=r.out.2.2.1;have P:=J.out;have c:IntKind.i64.wrap ((u:Int))=(u:Int):=(by rw[IntKind.wrap_i64];omega);have d:(p:Int)+2=(u:Int):=(by omega);have q:IntKind.i64.wrap ((p:Int)+2)=(u:Int):=(by rw[d];exact c);go_simp;exact D _ _ rfl bR
  ·obtain⟨j,k,l,o⟩:=C.out;have c:IntKind.i64.wrap ((((b:Int)*256+(d1:Int))*256+(d2:Int)))=(((b:Int)*256+(d1:Int))*256+(d2:Int)):=(by rw[IntKind.wrap_i64];omega);have d:(((b:Int)*256+(d1:Int))*256)+(d2:Int)=(((b:Int)*256+(d1:Int))*256+(d2:Int)):=(by omega);have q:IntKind.i64.wrap ((((b:Int)*256+(d1:Int))*256)+(d2:Int))=(((b:Int)*256+(d1:Int))*256+(d2:Int)):=(by rw[d];exact c);go_simp;exact D _ _ rfl bR
  ·obtain⟨j,k,l,o⟩:=C.out;have c:IntKind.i64.wrap (((((b:Int)*256+(d1:Int))*256+(d2:Int))*256))=((((b:Int)*256+(d1:Int))*256+(d2:Int))*256):=(by rw[IntKind.wrap_i64];omega);have d:(((b:Int)*256+(d1:Int))*256+(d2:Int))*256=((((b:Int)*256+(d1:Int))*256+(d2:Int))*256):=(by omega);have q:IntKind.i64.wrap ((((b:Int)*256+(d1:Int))*256+(d2:Int))*256)=((((b:Int)*256+(d1:Int))*256+(d2:Int))*256):=(by rw[d];exact c);go_simp;exact D _ _ rfl bR
  ·have O:(p:Int)+3=(x:Int):=M.out.2.2;have ht:=r.out.2.2.2;have P:=J.out;have c:IntKind.i64.wrap ((x:Int))=(x:Int):=(by rw[IntKind.wrap_i64];omega);have d:(p:Int)+3=(x:Int):=(by omega);have q:IntKind.i64.wrap ((p:Int)+3)=(x:Int):=(by rw[d];exact c);go_simp;exact D _ _ rfl bR
  ·obtain⟨j,k,l,o⟩:=C.out;have U:=W.out;have c:IntKind.i64.wrap ((m:Int))=(m:Int):=(by rw[IntKind.wrap_i64];omega);have d:((((b:Int)*256+(d1:Int))*256+(d2:Int))*256)+(d3:Int)=(m:Int):=(by omega);have q:IntKind.i64.wrap (((((b:Int)*256+(d1:Int))*256+(d2:Int))*256)+(d3:Int))=(m:Int):=(by rw[d];exact c);go_simp;exact D _ _ rfl bR
 ·rintro f w9 N I;have N:Below w.heap.size w w9:=N;have S4:f 4=rD rF (m:Nat):=I.2.2.2.2.2.2.2.2.2.2.2.2.2.2.2.2.2.2.2.2.2.2.2.2.2.2.2.2.2.1;clear I;simp only[Ao,Av,Ej,List.filterMap_cons,List.filterMap_nil,List.contains_cons,List.contains_nil,Nat.reduceBEq,Nat.reduceAdd,Bool.or_false,Bool.or_true,cond_true,cond_false];rw[S4];clear S4
  clear Y Z y2 y3;go_wp2_with fail;go_ret;exact⟨rfl,N⟩
theorem Rd.slotN {w:World} {q i:Nat} {v u:Value} {xs:List Value} {a:Option Addr} {n c:Nat}(h:Rd w v xs)(hx:∀x∈xs,x≠ rC a n c)(o:w.cell? ⟨q,i,rI⟩=some (rC a n c)):Rd (w.setCell ⟨q,i,rI⟩ u) v xs:=by
 obtain⟨l,cap,h1,h2,h3,d|⟨b,k,d,m⟩⟩:=h
 ·exact⟨l,cap,h1,h2,h3,.inl d⟩
 ·refine⟨l,cap,h1,h2,h3,.inr ⟨b,k,d,fun j x g=> ?_⟩⟩;rw[World.cell?_setCell_other]
  ·exact m j x g
  ·intro e;have f:=m j x g;rw[<-e,o]at f;simp only[Option.some.injEq]at f;exact hx x (iO g) f.symm
theorem Zj0 (L:List Nat)(a:Option Addr)(n c:Nat):∀x∈bvs L,x≠ .slice a n c:=by
 intro x hx e;subst e;simp[bvs]at hx
theorem Zmn (L:List Int)(a:Option Addr)(n c:Nat):∀x∈ivs .i64 L,x≠ .slice a n c:=by
 intro x hx e;subst e;simp[ivs]at hx
theorem Zb1 {w:World} {q i:Nat} {d:NodeD} {cs:Array Value} {u:Value} {a:Option Addr} {n c:Nat}(h:NodeC w d cs)(b:w.cell? ⟨q,i,rI⟩=some (rC a n c)):NodeC (w.setCell ⟨q,i,rI⟩ u) d cs:=by
 obtain⟨e,c1,f,c2,g,c3,j,c4,k,c5,b1,e1,l,e2,m,e3,rfl,h1,h2,h3,o,p,r,s,t⟩:=h;have B:=fun L=>Zj0 L a n c;exact⟨e,c1,f,c2,g,c3,j,c4,k,c5,b1,e1,l,e2,m,e3,rfl,h1.slotN (B _) b,h2.slotN (B _) b,h3.slotN (B _) b,o.slotN (B _) b,p.slotN (B _) b,r.slotN (B _) b,s.slotN (B _) b,t.slotN (Zmn _ a n c) b⟩
theorem SpT.slotN {w:World} {B q i:Nat} {v u:Value} {l:List (Int×NodeD)} {a:Option Addr} {n c:Nat}(h:SpT w B v l)(d:q<B)(b:w.cell? ⟨q,i,rI⟩=some (rC a n c)):SpT (w.setCell ⟨q,i,rI⟩ u) B v l:=by
 obtain⟨T,h1,h2,h3⟩:=h;exact⟨T,h1,OwnK.onlyQ h2 (Only.set (a:=w) (B:=q) i u) d,fun t ht=>⟨Zb1 (h3 t ht).1 b,(h3 t ht).2⟩⟩
theorem StT.slotN {w:World} {B q i:Nat} {v u:Value} {l:List (Int×List Nat)} {a:Option Addr} {n c:Nat}(h:StT w B v l)(d:q<B)(b:w.cell? ⟨q,i,rI⟩=some (rC a n c)):StT (w.setCell ⟨q,i,rI⟩ u) B v l:=by
 obtain⟨T,h1,h2,h3⟩:=h;exact⟨T,h1,OwnK.onlyQ h2 (Only.set (a:=w) (B:=q) i u) d,fun t ht=>(h3 t ht).slotN (Zj0 _ a n c) b⟩
theorem Rd.offX {w w':World} {g:Nat} {t:TypeId} {cs:Array Value} {v:Value} {xs:List Value}(h:Rd w v xs)(m:Blk w g t cs)(hx:∀x∈xs,∀i:Nat,cs[i]?≠some x)(n:∀i,i≠g->w'.heap[i]? =w.heap[i]?):Rd w' v xs:=by
 obtain⟨f,cap,h1,h2,h3,a|⟨b,d,a,l⟩⟩:=h
 ·exact⟨f,cap,h1,h2,h3,.inl a⟩
 ·refine⟨f,cap,h1,h2,h3,.inr ⟨b,d,a,fun j x k=> ?_⟩⟩;have c:=l j x k
  by_cases e:b=g
  ·subst e;rw[m.cell]at c;exact absurd c (hx x (iO k) _)
  ·rw[World.cell?_of_block (w:=w) (n b e)];exact c
theorem Rd.offN {w w':World} {g:Nat} {v:Value} {xs:List Value}(h:Rd w v xs)(e:∀b a n c,v=rC (some ⟨b,a,rI⟩) n c->b≠g)(m:∀i,i≠g->w'.heap[i]? =w.heap[i]?):Rd w' v xs:=by
 obtain⟨f,cap,h1,h2,h3,d|⟨b,a,d,k⟩⟩:=h
 ·exact⟨f,cap,h1,h2,h3,.inl d⟩
 ·refine⟨f,cap,h1,h2,h3,.inr ⟨b,a,d,fun j x l=> ?_⟩⟩;rw[World.cell?_of_block (w:=w) (m b (e b a _ _ (by rw[h1,d])))];exact k j x l
theorem Zfw {cs:Array Value}(h:∀(i:Nat) k,cs[i]?≠some (rD .u8 k))(L:List Nat):∀x∈bvs L,∀i:Nat,cs[i]?≠some x:=by
 intro x hx i e;obtain⟨y,-,rfl⟩:=List.mem_map.1 (show x∈L.map fun n:Nat=>Value.int .u8 (n:Int)from hx);exact h i _ e
theorem Zfx {w w':World} {g B:Nat} {t:TypeId} {cs:Array Value} {d:NodeD} {c:Array Value}(h:NodeC w d c)(D:LateNew B c)(C:g<B)(f:Blk w g t cs)(E:∀(i:Nat) k,cs[i]?≠some (rD .u8 k))(a:∀i,i≠g->w'.heap[i]? =w.heap[i]?):NodeC w' d c:=by
 obtain⟨l,c1,m,c2,o,c3,p,c4,q,c5,b1,e1,r,e2,s,e3,rfl,h1,h2,h3,v,x,y,z,A⟩:=h;have B:=Zfw E;refine⟨l,c1,m,c2,o,c3,p,c4,q,c5,b1,e1,r,e2,s,e3,rfl,h1.offX f (B _) a,h2.offX f (B _) a,h3.offX f (B _) a,v.offX f (B _) a,x.offX f (B _) a,y.offX f (B _) a,z.offX f (B _) a,A.offN (fun b j n u e=> ?_) a⟩;have:=D b j n u (by rw[<-e];rfl);omega
theorem SpT.offG {w w':World} {g B:Nat} {t:TypeId} {cs:Array Value} {v:Value} {l:List (Int×NodeD)}(h:SpT w B v l)(a:g<B)(d:Blk w g t cs)(e:∀(i:Nat) k,cs[i]?≠some (rD .u8 k))(c:∀B,B<=g->Below B w w')(b:∀i,i≠g->w'.heap[i]? =w.heap[i]?):SpT w' B v l:=by
 obtain⟨T,h1,h2,h3⟩:=h;exact⟨T,h1,OwnK.onlyQ h2 (Only.storeQ c b) a,fun t ht=>⟨Zfx (h3 t ht).1 (h3 t ht).2 a d e b,(h3 t ht).2⟩⟩
theorem StT.offG {w w':World} {g B:Nat} {t:TypeId} {cs:Array Value} {v:Value} {l:List (Int×List Nat)}(h:StT w B v l)(a:g<B)(d:Blk w g t cs)(e:∀(i:Nat) k,cs[i]?≠some (rD .u8 k))(c:∀B,B<=g->Below B w w')(b:∀i,i≠g->w'.heap[i]? =w.heap[i]?):StT w' B v l:=by
 obtain⟨T,h1,h2,h3⟩:=h;exact⟨T,h1,OwnK.onlyQ h2 (Only.storeQ c b) a,fun t ht=>(h3 t ht).offX d (Zfw e _) b⟩
def Zmt (r:Nat×SparseD)(w:World)(e:Ending)(w':World):Prop:=
 ∃o s,e=rK (.tuple #[.agg #[rD rF r.2.leaves,rD rF r.2.own,o,s],rD rF (r.1:Nat)])/\SpT w' w.heap.size o r.2.op/\StT w' w.heap.size s r.2.sh/\Below w.heap.size w w'
theorem Zx (v:Value) (L:List Nat) (c mk n i:Nat) (rd:RdR) (only:Bool) (r:Nat×SparseD) (w:World) (h:Rd w v (bvs L)) (hl:L.length<=4000) (aZ:only=decide (mk=2)) (hm:mk<256)
  (hk:0<L.length->(bvs L)[0]? =some (rD .u8 (c:Nat))) (hc:c<256)
  (C1:5<=L.length->∀W,Below w.heap.size w W->Calls prog 68 #[v,rD rF 1] W fun e w'=>e=rK (rD rF (n:Nat))/\Below W.heap.size W w')
  (C5:9<=L.length->∀W,Below w.heap.size w W->Calls prog 68 #[v,rD rF 5] W fun e w'=>e=rK (rD rF (i:Nat))/\Below W.heap.size W w')
  (CR:9<=L.length->fits n=true->∀W,Below w.heap.size w W->Calls prog 70 #[v,rD rF 9,rD rF ((n:Int)-1)] W (Ziz L rd W))
  (CA:9<=L.length->fits n=true->i<n->rd.er=0->∀v' W,SparseR W v' ⟨n,i,rd.op,rd.sh⟩->Calls prog 62 #[v',.bool only] W fun e w'=>e=rK (.bool (Ar ⟨n,i,rd.op,rd.sh⟩ only))/\Below W.heap.size W w')
  (hn:n<4294967296) (hi:i<4294967296)
  (X1:L.length<1->r=(4,Ef)) (XM:0<L.length->c≠mk->r=(3,Ef)) (X5:0<L.length->c=mk->L.length<5->r=(4,Ef))
  (XF:c=mk->5<=L.length->fits n=false->r=(3,Ef)) (X9:c=mk->5<=L.length->fits n=true->L.length<9->r=(4,Ef))
  (XI:c=mk->9<=L.length->fits n=true->n<=i->r=(3,Ef)) (XE:c=mk->9<=L.length->fits n=true->i<n->rd.er≠0->r=(rd.er,Ef))
  (XT:c=mk->9<=L.length->fits n=true->i<n->rd.er=0->L.length-rd.rest.length<L.length->r=(5,Ef))
  (XB:c=mk->9<=L.length->fits n=true->i<n->rd.er=0->¬(L.length-rd.rest.length<L.length)->∀b,Ar ⟨n,i,rd.op,rd.sh⟩ only=b->r=if b=true then(0,⟨n,i,rd.op,rd.sh⟩)else(3,Ef)):
  Calls prog 23 #[v,rD .u8 (mk:Nat)] w (Zmt r w):=by
 obtain⟨av,cap,rfl,-,-⟩:=id h;rw[bvs_len]at h C1 C5 CR|-;obtain⟨m,aG⟩:=eX L.length;have a5:=Hd aG;rw[<-aG]at h hl C1 C5 CR CA hk X1 XM X5 XF X9 XI XE XT XB|-;obtain⟨g,hg⟩:=eX w.heap.size;have G:=Hd hg;obtain⟨w0,V⟩:=eX (w.alloc (rJ #[rD rF 0,rD rF 0,rC rI 0 0,rC rI 0 0] 25));have F:=Hd V;have G0:=Hd (show Blk w0 g 25 #[rD rF 0,rD rF 0,rC rI 0 0,rC rI 0 0] by rw[V,hg];exact Blk.new _ _ _);have B0:=Hd (show Below w.heap.size w w0 by rw[V];exact bR.alloc lR _);have a9:=Hd h;have a1:=Hd C1;have a2:=Hd C5;have a4:=Hd CR;have a3:=Hd CA;have bF:=Hd X1;have bM:=Hd XM;have bG:=Hd X5;have bK:=Hd XF;have bH:=Hd X9;have bL:=Hd XI;have bJ:=Hd XE;have bN:=Hd XT;have bI:=Hd XB;have bB:=Hd hk;have a6:=Hd aZ;have bZ:decide ((m:Int)>1048576)=false:=dF (by omega);obtain⟨S,hS⟩:=eX (Zmt r w);rw[<-hS];have u:=Hd (show∀(e:Ending) (w':World) {k:Nat},e=rK (.tuple #[.agg #[rD rF 0,rD rF 0,rC rI 0 0,rC rI 0 0],rD rF (k:Nat)])->r=(k,Ef)->Below w.heap.size w w'->S e w' from by
  rintro e w' k rfl rfl h2;rw[hS];exact⟨_,_,rfl,SpT.nil _ _,StT.nil _ _,h2⟩)
 have bD:=Hd (show∀(e:Ending) (w':World) {o s:Value},e=rK (.tuple #[.agg #[rD rF (n:Nat),rD rF (i:Nat),o,s],rD rF 0])->r=(0,⟨n,i,rd.op,rd.sh⟩)->SpT w' w.heap.size o rd.op->StT w' w.heap.size s rd.sh->Below w.heap.size w w'->S e w' from by
  rintro e w' o s rfl rfl h1 h2 h3;rw[hS];exact⟨_,_,rfl,h1,h2,h3⟩)
 clear h hk C1 C5 CR CA X1 XM X5 XF X9 XI XE XT XB hS aG hg V aZ
 by_cases h1:m<1
 ·have bP:decide ((m:Int)<1)=true:=dT (by omega);have bQ:decide (m<1)=true:=dT h1;have A:=Hd (bF.out h1);clear h1;go_in;go_wp2_with (refine Aa rfl 25 (.tmp 4) (.tmp 18) rfl w.heap.size #[rD rF 0,rD rF 0,rC rI 0 0,rC rI 0 0] rfl rfl 25 #[rD rF 0,rD rF 0,rC rI 0 0,rC rI 0 0] (by rw[<-F.out,<-G.out];exact G0.out) (by kernel_rfl) rfl rfl ?_);rintro w9 d l j f;have z:=Hd d;have x:=Hd (B0.out.trans (by rw[F.out];exact l w.heap.size lR));clear d l j f;go_wp2_with fail;refine bodyPost_ret (v:=.tuple #[.agg #[rD rF 0,rD rF 0,rC rI 0 0,rC rI 0 0],rD rF 4]) (Ac results23 _ _ w.heap.size _ _ _ rfl z.out underlying25 rfl (by kernel_rfl)) rfl ?_;exact u.out _ _ rfl A.out x.out
 ·have bP:decide ((m:Int)<1)=false:=dF (by omega);have bQ:decide (m<1)=false:=dF h1;have HN:=Hd (show 0<m by omega);obtain⟨vb,vo,rfl,bY,aV⟩:=a9.out.get (bB.out (by omega));simp only[Nat.add_zero]at aV;have b0:0<m:=(by omega);clear h1
  by_cases hm2:c=mk
  ·have hq:((c:Int) !=(mk:Int))=false:=(by rw[bne_eq_false_iff_eq];omega);have E:=Hd hm2;clear hm2
   by_cases h5:m<5
   ·have bS:decide ((m:Int)<5)=true:=dT (by omega);have bT:decide (m<5)=true:=dT h5;have A:=Hd (bG.out HN.out E.out h5);clear h5;go_in;go_wp2_with (refine Aa rfl 25 (.tmp 4) (.tmp 28) rfl w.heap.size #[rD rF 0,rD rF 0,rC rI 0 0,rC rI 0 0] rfl rfl 25 #[rD rF 0,rD rF 0,rC rI 0 0,rC rI 0 0] (by rw[<-F.out,<-G.out];exact G0.out) (by kernel_rfl) rfl rfl ?_);rintro w9 d l j f;have z:=Hd d;have x:=Hd (B0.out.trans (by rw[F.out];exact l w.heap.size lR));clear d l j f;go_wp2_with fail;refine bodyPost_ret (v:=.tuple #[.agg #[rD rF 0,rD rF 0,rC rI 0 0,rC rI 0 0],rD rF 4]) (Ac results23 _ _ w.heap.size _ _ _ rfl z.out underlying25 rfl (by kernel_rfl)) rfl ?_;exact u.out _ _ rfl A.out x.out
   ·have bS:decide ((m:Int)<5)=false:=dF (by omega);have bT:decide (m<5)=false:=dF h5;have aC:=Hd (show 5<=m by omega);go_in;go_wp2_with fail;rw[<-F.out,<-G.out];refine(a1.out aC.out w0 B0.out).mono ?_;rintro e w1 ⟨rfl,t⟩;have B1:=Hd (B0.out.trans (t.mono B0.out.size));have G1:=Hd (G0.out.below t G0.out.lt);clear t aV bY;go_wp2_with (refine Aa rfl 25 (.tmp 6) (.tmp 31) rfl w1.heap.size #[rD rF (n:Nat),rD rF 0,rC rI 0 0,rC rI 0 0] rfl rfl 25 #[rD rF 0,rD rF 0,rC rI 0 0,rC rI 0 0] (Blk.new _ _ _) (by kernel_rfl) rfl rfl ?_);rintro w2 d l j f;have t:Below w1.heap.size w1 w2:=(bR.alloc lR _).trans (l _ lR);obtain⟨q,hq⟩:=eX w1.heap.size;have P:=Hd (show g<q by rw[hq];exact G1.out.lt);rw[<-hq]at d|-;have Q2:=Hd d;have B2:=Hd (B1.out.trans (t.mono B1.out.size));have G2:=Hd (G1.out.below t G1.out.lt);clear d l j f t hq;have y0:=Q2.out.cell 0;simp only[cR,cS]at y0;go_wp2_with fail;refine(Kc (n:Int) w2).mono ?_;rintro e w' ⟨rfl,rfl⟩;obtain⟨ft,aF⟩:=eX (fits n);rw[Int.toNat_natCast,<-aF];have y:=Hd aF.symm;clear aF;cases ft with
    |false=>
     go_wp2_with (refine Aa rfl 25 (.tmp 4) (.tmp 36) rfl g #[rD rF 0,rD rF 0,rC rI 0 0,rC rI 0 0] rfl rfl 25 #[rD rF 0,rD rF 0,rC rI 0 0,rC rI 0 0] G2.out (by kernel_rfl) rfl rfl ?_);rintro w9 d l j f;have z:=Hd d;have x:=Hd (B2.out.trans (l w.heap.size (by rw[G.out];exact lR)));clear d l j f;go_wp2_with fail;refine bodyPost_ret (v:=.tuple #[.agg #[rD rF 0,rD rF 0,rC rI 0 0,rC rI 0 0],rD rF 3]) (Ac results23 _ _ g _ _ _ rfl z.out underlying25 rfl (by kernel_rfl)) rfl ?_;exact u.out _ _ rfl (bK.out E.out aC.out y.out) x.out
    |true=>
     by_cases h9:m<9
     ·have bU:decide ((m:Int)<9)=true:=dT (by omega);have bV:decide (m<9)=true:=dT h9;have A:=Hd (bH.out E.out aC.out y.out h9);clear h9;go_wp2_with (refine Aa rfl 25 (.tmp 4) (.tmp 40) rfl g #[rD rF 0,rD rF 0,rC rI 0 0,rC rI 0 0] rfl rfl 25 #[rD rF 0,rD rF 0,rC rI 0 0,rC rI 0 0] G2.out (by kernel_rfl) rfl rfl ?_);rintro w9 d l j f;have z:=Hd d;have x:=Hd (B2.out.trans (l w.heap.size (by rw[G.out];exact lR)));clear d l j f;go_wp2_with fail;refine bodyPost_ret (v:=.tuple #[.agg #[rD rF 0,rD rF 0,rC rI 0 0,rC rI 0 0],rD rF 4]) (Ac results23 _ _ g _ _ _ rfl z.out underlying25 rfl (by kernel_rfl)) rfl ?_;exact u.out _ _ rfl A.out x.out
     ·have bU:decide ((m:Int)<9)=false:=dF (by omega);have bV:decide (m<9)=false:=dF h9;have D:=Hd (show 9<=m by omega);clear h9;go_wp2_with fail;refine(a2.out D.out w2 B2.out).mono ?_;rintro e w3 ⟨rfl,t⟩;have B3:=Hd (B2.out.trans (t.mono B2.out.size));have G3:=Hd (G2.out.below t G2.out.lt);have Q3:=Hd (Q2.out.below t Q2.out.lt);clear t y0;have y0:=Q3.out.cell 0;have y1:=Q3.out.cell 1;have z1:=Q3.out.frozen 1;simp only[cR,cS,aP]at y0 y1;obtain⟨w4,K⟩:=eX (w3.setCell ⟨q,1,rI⟩ (rD rF (i:Nat)));have aD:=Hd K;have Q4:=Hd (show Blk w4 q 25 #[rD rF (n:Nat),rD rF (i:Nat),rC rI 0 0,rC rI 0 0] by rw[K];simpa using Q3.out.set 1 (rD rF (i:Nat)));have G4:=Hd (show Blk w4 g 25 #[rD rF 0,rD rF 0,rC rI 0 0,rC rI 0 0] by rw[K];exact G3.out.far (p:=⟨q,1,rI⟩) (by have:=P.out;simp only;omega) _);have aJ:=Hd (show g<w4.heap.size from G4.out.lt);have B4:=Hd (show Below w.heap.size w w4 by rw[K];exact B3.out.setCell (p:=⟨q,1,rI⟩) (by have:=P.out;have:=G.out;simp only;omega) _);clear K
      by_cases hin:i<n
      ·have aW:decide ((i:Int)>=(n:Int))=false:=dF (by omega);have aX:decide ((n:Int)<=(i:Int))=false:=dF (by omega);have aY:decide (n<=i)=false:=dF (by omega);have Q:=Hd hin;clear hin;go_wp2_with fail;rw[<-aD.out];refine(a4.out D.out y.out w4 B4.out).mono ?_;rintro e w5 ⟨o,s,nx,rfl,aI,ho,hs,t⟩;have B5:=Hd (B4.out.trans (t.mono B4.out.size));have G5:=Hd (G4.out.below t G4.out.lt);have Q5:=Hd (Q4.out.below t Q4.out.lt);have aM:=Hd ho;have aO:=Hd hs;have R:=Hd (show q<w4.heap.size from Q4.out.lt);have bC:=Hd (show SparseR w5 (.agg #[rD rF (n:Nat),rD rF (i:Nat),o,s]) ⟨n,i,rd.op,rd.sh⟩from⟨_,_,rfl,ho.spots,hs.stubs⟩);obtain⟨M,N,rfl,-,-⟩:=ho.spots.sl;obtain⟨X,Y,rfl,-,-⟩:=hs.stubs.sl;obtain⟨O,T⟩:=eX rd.op.length;obtain⟨Z,U⟩:=eX rd.sh.length;rw[<-T,<-U]at bC;rw[<-T]at aM;rw[<-U]at aO;rw[<-T,<-U];obtain⟨er,aE⟩:=eX rd.er;rw[<-aE]at aI|-;have aB:=Hd aE;have a7:=Hd aI;clear t ho hs aE aI T U y0 y1 z1 aW aX aY
       by_cases he:er=0
       ·have HE:=Hd (show rd.er=0 by rw[<-aB.out];exact he);have bW:((er:Int) !=0)=false:=(by rw[bne_eq_false_iff_eq];omega);have e5:=a7.out he;obtain⟨nl,aH⟩:=eX (m-rd.rest.length);rw[<-a5.out,<-aH]at e5;subst e5;have aK:=Hd aH;clear he aH
        by_cases hnn:nl<m
        ·have g1:decide ((nl:Int)<(m:Int))=true:=dT (by omega);have g2:decide (nl<m)=true:=dT hnn;have A:=Hd (bN.out E.out D.out y.out Q.out HE.out (by rw[<-aK.out];exact hnn));clear hnn;go_wp2_with (refine Aa rfl 25 (.tmp 4) (.tmp 68) rfl g #[rD rF 0,rD rF 0,rC rI 0 0,rC rI 0 0] rfl rfl 25 #[rD rF 0,rD rF 0,rC rI 0 0,rC rI 0 0] G5.out (by kernel_rfl) rfl rfl ?_);rintro w9 d l j f;have z:=Hd d;have x:=Hd (B5.out.trans (l w.heap.size (by rw[G.out];exact lR)));clear d l j f;go_wp2_with fail;refine bodyPost_ret (v:=.tuple #[.agg #[rD rF 0,rD rF 0,rC rI 0 0,rC rI 0 0],rD rF 5]) (Ac results23 _ _ g _ _ _ rfl z.out underlying25 rfl (by kernel_rfl)) rfl ?_;exact u.out _ _ rfl A.out x.out
        ·have g1:decide ((nl:Int)<(m:Int))=false:=dF (by omega);have g2:decide (nl<m)=false:=dF hnn;have A:=Hd (bI.out E.out D.out y.out Q.out HE.out (by rw[<-aK.out];exact hnn));clear hnn;have y2:=Q5.out.cell 2;have z2:=Q5.out.frozen 2;have y3:=Q5.out.cell 3;have z3:=Q5.out.frozen 3;simp only[cR,cS,aP]at y2 y3;obtain⟨w6,H⟩:=eX ((w5.setCell ⟨q,2,rI⟩ (rC M O N)).setCell ⟨q,3,rI⟩ (rC X Z Y));have aS:=Hd H;have J:Only q w5 w6:=(by rw[H];exact(Only.set (a:=w5) (B:=q) 2 _).trans (Only.set 3 _));have Q6:=Hd (show Blk w6 q 25 #[rD rF (n:Nat),rD rF (i:Nat),rC M O N,rC X Z Y] by rw[H];simpa using(Q5.out.set 2 (rC M O N)).set 3 (rC X Z Y));have G6:=Hd (G5.out.only J (by have:=P.out;omega));have B6:=Hd (B5.out.trans (J.below (C:=w.heap.size) (by have:=P.out;have:=G.out;omega) B5.out.size));have aA:=(Q5.out.set 2 (rC M O N)).cell 3;simp only[Array.setIfInBounds,List.size_toArray,List.length_cons,List.length_nil]at aA;have aN:=Hd (show SpT w6 w4.heap.size (rC M O N) rd.op by rw[H];exact(aM.out.slotN R.out y2).slotN R.out (by simpa using aA));have aR:=Hd (show StT w6 w4.heap.size (rC X Z Y) rd.sh by rw[H];exact(aO.out.slotN R.out y2).slotN R.out (by simpa using aA));have bA:=Hd (show SparseR w6 (.agg #[rD rF (n:Nat),rD rF (i:Nat),rC M O N,rC X Z Y]) ⟨n,i,rd.op,rd.sh⟩from⟨_,_,rfl,aN.out.spots,aR.out.stubs⟩);clear H J aA;have HA:=Hd (a3.out D.out y.out Q.out HE.out _ w6 bA.out);obtain⟨aU,I⟩:=eX (Ar ⟨n,i,rd.op,rd.sh⟩ only);rw[<-I]at HA;have aT:=Hd (A.out aU I.symm);have bX:((mk:Int)==2)=only:=(by rw[a6.out];by_cases e:mk=2<;>simp[e];omega);clear I;go_wp2_with (refine Af rfl 25 (.tmp 6) rfl q rfl 25 #[rD rF (n:Nat),rD rF (i:Nat),rC M O N,rC X Z Y] (0,0) _ (by rw[<-aS.out];exact Q6.out) underlying25 rfl (by kernel_rfl) ?_);rw[<-aS.out];refine HA.out.mono ?_;rintro e w7 ⟨rfl,t⟩;have B7:=Hd (B6.out.trans (t.mono B6.out.size));have G7:=Hd (G6.out.below t G6.out.lt);have Q7:=Hd (Q6.out.below t Q6.out.lt);have a8:=Hd (aN.out.below t lR);have bE:=Hd (aR.out.below t lR);clear t y2 y3 z2 z3 bX;cases aU with
         |false=>
          go_wp2_with (refine Aa rfl 25 (.tmp 4) (.tmp 78) rfl g #[rD rF 0,rD rF 0,rC rI 0 0,rC rI 0 0] rfl rfl 25 #[rD rF 0,rD rF 0,rC rI 0 0,rC rI 0 0] G7.out (by kernel_rfl) rfl rfl ?_);rintro w9 d l j f;have z:=Hd d;have x:=Hd (B7.out.trans (l w.heap.size (by rw[G.out];exact lR)));clear d l j f;go_wp2_with fail;refine bodyPost_ret (v:=.tuple #[.agg #[rD rF 0,rD rF 0,rC rI 0 0,rC rI 0 0],rD rF 3]) (Ac results23 _ _ g _ _ _ rfl z.out underlying25 rfl (by kernel_rfl)) rfl ?_;exact u.out _ _ rfl aT.out x.out
         |true=>
          go_wp2_with (first
           |(refine Af rfl 25 (.tmp 6) rfl q rfl 25 #[rD rF (n:Nat),rD rF (i:Nat),rC M O N,rC X Z Y] (0,0) _ Q7.out underlying25 rfl (by kernel_rfl) ?_)
           |(refine Aa rfl 25 (.tmp 4) (.tmp 79) rfl g #[rD rF (n:Nat),rD rF (i:Nat),rC M O N,rC X Z Y] rfl rfl 25 #[rD rF 0,rD rF 0,rC rI 0 0,rC rI 0 0] G7.out (by kernel_rfl) rfl rfl ?_))
          rintro b2 d l j f;have bO:=Hd d;have hu:∀(i:Nat) k,(#[rD rF 0,rD rF 0,rC rI 0 0,rC rI 0 0]:Array Value)[i]?≠some (rD .u8 k):=by intro i k;rcases i with _|_|_|_|i<;>simp
          have aL:=Hd ((a8.out.offG aJ.out G7.out hu l j).mono B4.out.size);have aQ:=Hd ((bE.out.offG aJ.out G7.out hu l j).mono B4.out.size);clear hu;have a0:=Hd (B7.out.trans (l w.heap.size (by rw[G.out];exact lR)));clear d l j f;go_wp2_with fail;refine bodyPost_ret (v:=.tuple #[.agg #[rD rF (n:Nat),rD rF (i:Nat),rC M O N,rC X Z Y],rD rF 0]) (Ac results23 _ _ g _ _ _ rfl bO.out underlying25 rfl (by kernel_rfl)) rfl ?_;exact bD.out _ _ rfl aT.out aL.out aQ.out a0.out
       ·have b1:=Hd he;have bW:((er:Int) !=0)=true:=(by rw[bne_iff_ne];omega);have A:=Hd (bJ.out E.out D.out y.out Q.out (by rw[<-aB.out];exact he));rw[<-aB.out]at A;clear he;go_wp2_with (refine Aa rfl 25 (.tmp 4) (.tmp 62) rfl g #[rD rF 0,rD rF 0,rC rI 0 0,rC rI 0 0] rfl rfl 25 #[rD rF 0,rD rF 0,rC rI 0 0,rC rI 0 0] G5.out (by kernel_rfl) rfl rfl ?_);rintro w9 d l j f;have z:=Hd d;have x:=Hd (B5.out.trans (l w.heap.size (by rw[G.out];exact lR)));clear d l j f;go_wp2_with fail;refine bodyPost_ret (v:=.tuple #[.agg #[rD rF 0,rD rF 0,rC rI 0 0,rC rI 0 0],rD rF (er:Nat)]) (Ac results23 _ _ g _ _ _ rfl z.out underlying25 rfl (by kernel_rfl)) rfl ?_;exact u.out _ _ rfl A.out x.out
      ·have aW:decide ((i:Int)>=(n:Int))=true:=dT (by omega);have aX:decide ((n:Int)<=(i:Int))=true:=dT (by omega);have aY:decide (n<=i)=true:=dT (by omega);have A:=Hd (bL.out E.out D.out y.out (by omega));clear hin;go_wp2_with (refine Aa rfl 25 (.tmp 4) (.tmp 49) rfl g #[rD rF 0,rD rF 0,rC rI 0 0,rC rI 0 0] rfl rfl 25 #[rD rF 0,rD rF 0,rC rI 0 0,rC rI 0 0] (by rw[<-aD.out];exact G4.out) (by kernel_rfl) rfl rfl ?_);rintro w9 d l j f;have z:=Hd d;have x:=Hd (B4.out.trans (by rw[aD.out];exact l w.heap.size (by rw[G.out];exact lR)));clear d l j f;go_wp2_with fail;refine bodyPost_ret (v:=.tuple #[.agg #[rD rF 0,rD rF 0,rC rI 0 0,rC rI 0 0],rD rF 3]) (Ac results23 _ _ g _ _ _ rfl z.out underlying25 rfl (by kernel_rfl)) rfl ?_;exact u.out _ _ rfl A.out x.out
  ·have hq:((c:Int) !=(mk:Int))=true:=(by rw[bne_iff_ne];omega);have A:=Hd (bM.out HN.out hm2);clear hm2;go_in;go_wp2_with (refine Aa rfl 25 (.tmp 4) (.tmp 24) rfl w.heap.size #[rD rF 0,rD rF 0,rC rI 0 0,rC rI 0 0] rfl rfl 25 #[rD rF 0,rD rF 0,rC rI 0 0,rC rI 0 0] (by rw[<-F.out,<-G.out];exact G0.out) (by kernel_rfl) rfl rfl ?_);rintro w9 d l j f;have z:=Hd d;have x:=Hd (B0.out.trans (by rw[F.out];exact l w.heap.size lR));clear d l j f;go_wp2_with fail;refine bodyPost_ret (v:=.tuple #[.agg #[rD rF 0,rD rF 0,rC rI 0 0,rC rI 0 0],rD rF 3]) (Ac results23 _ _ w.heap.size _ _ _ rfl z.out underlying25 rfl (by kernel_rfl)) rfl ?_;exact u.out _ _ rfl A.out x.out
