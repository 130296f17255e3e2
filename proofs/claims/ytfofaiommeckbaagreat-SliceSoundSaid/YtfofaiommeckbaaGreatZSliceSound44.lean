/- Walks: hash.All, hash.Tree. -/
import Derived.Test.YtfofaiommeckbaaGreatZSliceSoundB
import Derived.Test.YtfofaiommeckbaaGreatZSliceSound27
import Derived.Laws.MakeOwn
open Bool renaming and_eq_true → cL
open Nat renaming pos_of_ne_zero → aR, mod_eq_of_lt → aU, pow_succ → aP
open List renaming length → iC, eq_nil_of_length_eq_zero → bV, head? → iD, append_assoc → cA
set_option linter.unusedVariables false
set_option maxRecDepth 100000
set_option maxHeartbeats 40000000
namespace Go.Proofs.YtfofaiommeckbaaGreat
open Go.RowKit WalkM ShaM WireM
def Dq (T:Nat→NodeD)(y:Nat):List Nat:=Cj T (lev y) y
theorem Uo (T:Nat→NodeD)(y:Nat):(Dq T y).length=32:=Bs _ _ _
theorem Zim (T:Nat→NodeD)(y:Nat):∀x∈Dq T y,x<256:=Rh _ _ _
theorem Zin (t:List NodeD)(hs:Bg t=true)(hok:TreeOk t)(hp:Be t=true):∀k,Zht t k:=by
 intro k
 induction k with
 |zero=>exact Zdu t hs hok hp
 |succ k ih=>exact Zdv t hs hok hp k ih
theorem AllR.congr {w:World} {g n:Nat} {F F':Nat→Option (List Nat)}(h:AllR w g n F)(e:∀y,y<n→F' y=F y):AllR w g n F':=by
 obtain⟨cs,h1,h2,h3⟩:=h;refine⟨cs,h1,h2,fun y hy=> ?_⟩;obtain⟨u,k1,k2⟩:=h3 y hy;exact⟨u,k1,fun L hL=>k2 L (by rw[←e y hy];exact hL)⟩
theorem Ze7 {n:Nat}(f:n≤4000000):∀w:World,(Instr.makeSlice 64 (.int .i64 (n:Nat)) (.int .i64 (n:Nat))).run Tryz.prog w=.ok (.slice (some ⟨w.heap.size,0,none⟩) n n) (w.alloc (.cells (madeCells (Value.slice none 0 0).cells (n*1)) 28)):=by
 intro w;obtain⟨i,d,e,b,a⟩:∃i,Tryz.prog.info? 28=some i∧i.zero=some (.slice none 0 0)∧i.size=1∧i.bytes=24:=info_parts (by kernel_rfl);have c:=run_make (P:=Tryz.prog) w 64 28 i (.slice none 0 0) Tryz.underlying64 d e .i64 .i64 n n (by omega) (by omega) (by rw[a];omega) (by omega);simp only[Int.toNat_natCast,b]at c;exact c
theorem Ze8 (w:World)(n:Nat):AllR (w.alloc (.cells (madeCells (Value.slice none 0 0).cells (n*1)) 28)) w.heap.size n (fun _=>none):=by
 refine⟨_,Blk.new w _ _,by simp[madeCells],fun y hy=> ?_⟩;exact⟨_,Array.getElem?_eq_getElem (by simpa [madeCells]using hy),fun L hL=>by cases hL⟩
theorem Zio (v:Value)(t:List NodeD)(w:World)(h:TreeR w v t)(u:Bg t=true)(i:TreeOk t)(j:Bv t=true):
  Calls Tryz.prog 131 #[v] w fun e w'=>∃g,w.heap.size≤g∧e=.returned (.tuple #[.slice (some ⟨g,0,none⟩) t.length t.length,.int .u8 0])∧AllR w' g t.length (fun y=>some (Dq (nd t) y))∧Below w.heap.size w w':=by
 have G:=Za2 v t w h u i;rw[j]at G;have J:=Hd G;obtain⟨o,K⟩:Ap t.length≠0∧Be t=true:=by
  rw[Bv,cL,cL]at j;exact⟨of_decide_eq_true j.1,j.2.1⟩
 obtain⟨d,Y,Q,N⟩:=Cl o;have k:=Bo u;have D:0<2^d:=aR (by simp);have m:IsLev (2^d-1) d:=by
  unfold IsLev;exact aU (by have:2^(d+1)=2*2^d:=(by rw[aP];omega);omega)
 have q:=fun(W:World) (g:Nat) (P:Below w.heap.size w W) (S:w.heap.size≤g) (I:AllR W g t.length (fun _=>none))=>Zin t u i K d (2^d-1) g v W _ (h.g P S) I m (by omega);have s:=fun(W:World) (g:Nat) (I:AllR W g t.length (Ku (nd t) (fun _=>none) d (2^d-1)))=>I.congr (F':=fun y=>some (Dq (nd t) y)) (fun y V=>by
  unfold Ku Dq;rw[if_pos ⟨by omega,by omega⟩])
 obtain⟨a,c,rfl,U,T⟩:=h.sl;obtain⟨n,L⟩:=eX t.length;rw[←L]at N k U q s J⊢;obtain⟨x,hx⟩:=eX (2^d-1);rw[←hx]at q s;have X:(n:Int)/2=(x:Int):=(by omega);have A:=Ze7 (n:=n) (by omega);have p:=Hd (fun(W:World)=>Ze8 W n);obtain⟨Z,M⟩:=eX (madeCells (Value.slice none 0 0).cells (n*1));rw[←M]at A p;have F:=Hd q;have z:=Hd s;clear hx M G h u i j o K Q N m q s L D;go_enter Tryz.func131,Tryz.ntmps131;go_wp2_with fail;refine(J.out).mono ?_;rintro e O ⟨rfl,B⟩;have r:=Hd B;have f:=B.size;clear B;go_wp2_with fail;refine(F.out _ _ (r.out.alloc r.out.size _) f (p.out O)).mono ?_;rintro e w2 ⟨v2,rfl,H,E,b,l⟩;have R:=Hd (z.out _ _ b);have C:=Hd ((r.out.alloc r.out.size (.cells Z 28)).trans (l.1.mono f));clear H E b l;go_wp2_with fail;go_ret2;exact⟨_,f,rfl,R.out,C.out⟩
theorem Di {v v' r r':List Nat}(hv:v.length<1073741824)(hv':v'.length<1073741824)(h:Av v++r=Av v'++r'):v=v'∧r=r':=by
 have a:=Yr hv r;rw[h,Yr hv' r']at a;simp only[Prod.mk.injEq,and_true]at a;exact⟨a.1.symm,a.2.symm⟩
theorem Xa {k a b:Nat}(ha:a<256^k)(hb:b<256^k)(h:beN k a=beN k b):a=b:=by
 have e:=congrArg Ds h;rw[Yq,Yq,aU ha,aU hb]at e;exact e
theorem Xb {a b c d:List Nat}(hl:a.length=b.length)(h:a++c=b++d):a=b∧c=d:=List.append_inj h hl
theorem Ze9:∀ {L M:List Int},(∀u∈L,0≤u∧u<65536)→(∀u∈M,0≤u∧u<65536)→Bq L=Bq M→L=M:=by
 intro L
 induction L with
 |nil=>
  intro M _ _ h;have:=congrArg iC h;rw[De,De]at this;exact(bV (by simp at this;omega)).symm
 |cons x L ih=>
  intro M b c h;cases M with
  |nil=>
   have:=congrArg iC h;rw[De,De]at this;simp at this
  |cons y M=>
   have h2:beN 4 x.toNat++Bq L=beN 4 y.toNat++Bq M:=(by simpa [Bq]using h);obtain⟨h3,d⟩:=Xb (by rw[beN_len,beN_len]) h2;have hx:=b x (by simp);have f:=c y (by simp);have e:=Xa (k:=4) (by omega) (by omega) h3;have e2:x=y:=(by omega);rw[e2,ih (fun u a=>b u (by simp[a])) (fun u a=>c u (by simp[a])) d]
theorem Kl {d e:NodeD} {r s:List Nat}(b:Ao d=true)(a:Ao e=true)(H:Bm d=true)(J:Bm e=true)(h:Bc d++r=Bc e++s):d=e∧r=s:=by
 obtain⟨kd,⟨b1,b2,b3,w,N,b5⟩,⟨p1,p2,p3⟩⟩:=d;obtain⟨E,⟨aB,aA,Z,k,f,m⟩,⟨aC,v,Q⟩⟩:=e;have L:=of_decide_eq_true H;have aD:=of_decide_eq_true J;simp only at L aD;have k1:=Gq b;have k2:=Gq a;have l1:=Gc (Db b);have l2:=Gc (Db a);simp only at k1 k2 l1 l2;have o:∀ {i g c s X F:Nat},nlB i g c s X F=true→s=0∧i=0∧g=0∧c=0∧X=0∧F=0:=by
  intro i g c s X F h;have:=of_decide_eq_true h;omega
 have n:∀ {i g c:Nat},npB i g c=true→i=0∧g=0∧c=0:=by
  intro i g c h;have:=of_decide_eq_true h;omega
 have z:∀ {l:List Nat},l.length=0→l=[]:=fun h=>bV h;have p:∀ {l:List Int},l.length=0→l=[]:=fun h=>bV h;have hk:kd=E:=by
  have h0:=congrArg iD h;rcases k1 with rfl|rfl|rfl<;>rcases k2 with rfl|rfl|rfl<;>first|rfl|(simp[Bc]at h0)
 subst hk;rcases k1 with rfl|rfl|rfl
 ·simp only[Ao,if_pos,cL]at b a;obtain⟨rfl,y,M,q,D,x⟩:=o b.1;obtain⟨rfl,A,t,Y,z4,G⟩:=o a.1;obtain⟨O,w2,w3⟩:=n b.2;obtain⟨C,v2,T⟩:=n a.2;have u:=z y;have a2:=z M;have W:=z q;have K:=z D;have a5:=z x;have U:=z O;have a7:=z w2;have I:=p w3;have c1:=z A;have c2:=z t;have c3:=z Y;have c4:=z z4;have c5:=z G;have B:=z C;have S:=z v2;have V:=p T;subst u a2 W K a5 U a7 I c1 c2 c3 c4 c5 B S V;refine⟨rfl,?_⟩;simpa [Bc]using h
 ·simp only[Ao,Nat.one_ne_zero,if_false,if_true,cL]at b a;obtain⟨O,w2,w3⟩:=n b.2;obtain⟨C,v2,T⟩:=n a.2;have U:=z O;have a7:=z w2;have I:=p w3;have B:=z C;have S:=z v2;have V:=p T;subst U a7 I B S V;have r1:=of_decide_eq_true b.1;have r2:=of_decide_eq_true a.1;have h2:Av b1++(Av b2++(Av b3++(w::((if w=3 then Av N else [])++(Av b5++r)))))=Av aB++(Av aA++(Av Z++(k::((if k=3 then Av f else [])++(Av m++s))))):=by
   simpa [Bc,Zcq,cA]using h
  obtain⟨rfl,h3⟩:=Di (by omega) (by omega) h2;obtain⟨rfl,R⟩:=Di (by omega) (by omega) h3;obtain⟨rfl,h5⟩:=Di (by omega) (by omega) R;obtain⟨rfl,j⟩:=List.cons.inj h5;have h7:N=f∧Av b5++r=Av m++s:=by
   by_cases h3:w=3
   ·rw[if_pos h3,if_pos h3]at j;exact Di (by omega) (by omega) j
   ·rw[if_neg h3,if_neg h3]at j;have q1:N.length=0:=(by omega);have q2:f.length=0:=(by omega);exact⟨by rw[z q1,z q2],j⟩
  obtain⟨rfl,h8⟩:=h7;obtain⟨rfl,h9⟩:=Di (by omega) (by omega) h8;exact⟨rfl,h9⟩
 ·have e2:¬(2=0):=(by omega);have P:¬(2=1):=(by omega);simp only[Ao,if_neg e2,if_neg P,if_true,cL]at b a;obtain⟨rfl,y,M,q,D,x⟩:=o b.1;obtain⟨rfl,A,t,Y,z4,G⟩:=o a.1;have u:=z y;have a2:=z M;have W:=z q;have K:=z D;have a5:=z x;have c1:=z A;have c2:=z t;have c3:=z Y;have c4:=z z4;have c5:=z G;subst u a2 W K a5 c1 c2 c3 c4 c5;have h2:Av p1++(Av p2++(Av (Bq p3)++r))=Av aC++(Av v++(Av (Bq Q)++s)):=by
   simpa [Bc,Zco,cA]using h
  obtain⟨rfl,h3⟩:=Di (by omega) (by omega) h2;obtain⟨rfl,R⟩:=Di (by omega) (by omega) h3;obtain⟨h5,j⟩:=Di (by rw[De];omega) (by rw[De];omega) R;rw[Ze9 l1 l2 h5];exact⟨rfl,j⟩
def Zl8 (T U:Nat→NodeD)(n m:Nat):Prop:=∀x y,x<n→y<m→shaF (Dx T (lev x) x)=shaF (Dx U (lev y) y)→Dx T (lev x) x=Dx U (lev y) y
theorem Zm4 {T U:Nat→NodeD} {n m:Nat}(B:∀x,x<n→Ao (T x)=true)(A:∀x,x<m→Ao (U x)=true)(f:∀x,Bm (T x)=true)(i:∀x,Bm (U x)=true)(O:n≤40)(N:m≤40)(l:Zl8 T U n m):
  ∀k a x y,IsLev x k→IsLev y a→x+2^k≤n→y+2^a≤m→Cj T k x=Cj U a y→k=a∧x=y∧∀j,x+1≤j+2^k→j<x+2^k→T j=U j:=by
 intro k
 induction k with
 |zero=>
  intro a x y hx o q u h;have G:(2:Nat)^0=1:=rfl;have z:0<2^a:=aR (by simp);have p:lev x=0:=lev_eq (by omega) hx;have g:lev y=a:=lev_eq (by omega) o;have b:=l x y (by omega) (by omega) (by rw[p,g,←Ek,←Ek];exact h);rw[p,g]at b;cases a with
  |succ a=>
   rw[Cs,Ct]at b;have:=congrArg iD b;simp at this
  |zero=>
   rw[Cs,Cs]at b;simp only[cA]at b;have d:=(List.cons.inj (show(1:Nat)::(beN 4 (x/2)++Bc (T x))=1::(beN 4 (y/2)++Bc (U y))from b)).2;obtain⟨D,h2⟩:=Xb (by rw[beN_len,beN_len]) d;have e:=Xa (k:=4) (by omega) (by omega) D;have M:=Dv hx;have P:=Dv o;have c:x=y:=(by omega);subst c;have w:=(Kl (r:=[]) (s:=[]) (B x (by omega)) (A x (by omega)) (f x) (i x) (by simpa using h2)).1;exact⟨rfl,rfl,fun j D h2=>by
    have:j=x:=(by omega);subst this;exact w⟩
 |succ k ih=>
  intro a x y hx o q u h;have H:2^(k+1)=2*2^k:=(by rw[aP];omega);have G:0<2^k:=aR (by simp);have z:0<2^a:=aR (by simp);have p:lev x=k+1:=lev_eq (by omega) hx;have g:lev y=a:=lev_eq (by omega) o;have b:=l x y (by omega) (by omega) (by rw[p,g,←Ek,←Ek];exact h);rw[p,g]at b;cases a with
  |zero=>
   rw[Cs,Ct]at b;have:=congrArg iD b;simp at this
  |succ a=>
   have C:2^(a+1)=2*2^a:=(by rw[aP];omega);have I:0<2^a:=aR (by simp);rw[Ct,Ct]at b;simp only[cA]at b;have d:=(List.cons.inj (show(2:Nat)::(Bc (T x)++(Av (Cj T k (x-2^k))++Av (Cj T k (x+2^k))))=2::(Bc (U y)++(Av (Cj U a (y-2^a))++Av (Cj U a (y+2^a))))from b)).2;obtain⟨w,h2⟩:=Kl (B x (by omega)) (A y (by omega)) (f x) (i y) d;obtain⟨h3,E⟩:=Di (by rw[Bs];omega) (by rw[Bs];omega) h2;have F:=(Di (v:=Cj T k (x+2^k)) (v':=Cj U a (y+2^a)) (r:=[]) (r':=[]) (by rw[Bs];omega) (by rw[Bs];omega) (by simpa using E)).1;obtain⟨_,_,K,i2,i3⟩:=kids_lev (by omega) hx;obtain⟨_,_,j1,j2,j3⟩:=kids_lev (by omega) o;obtain⟨J,e2,e3⟩:=ih a _ _ K j1 (by omega) (by omega) h3;obtain⟨_,f2,f3⟩:=ih a _ _ i2 j2 (by omega) (by omega) F;subst J;have c:x=y:=(by omega);subst c;refine⟨rfl,rfl,fun j L g2=> ?_⟩;rcases Nat.lt_trichotomy j x with t|t|t
   ·exact e3 j (by omega) (by omega)
   ·subst t;exact w
   ·exact f3 j (by omega) (by omega)
end Go.Proofs.YtfofaiommeckbaaGreat
