/- Walks: hash.All, hash.Tree. -/
import Derived.Test.YtfofaiommeckbaaGreatZSliceReadsB
import Derived.Test.YtfofaiommeckbaaGreatZSliceReads29
import Derived.Laws.MakeOwn
open Bool renaming and_eq_true → bS
open Nat renaming pos_of_ne_zero → aN, mod_eq_of_lt → aP, pow_succ → aQ
open List renaming length → fW, eq_nil_of_length_eq_zero → bH, head? → fX, append_assoc → bN
set_option linter.unusedVariables false
set_option maxRecDepth 100000
set_option maxHeartbeats 40000000
namespace Go.Proofs.YtfofaiommeckbaaGreat
open Go.RowKit WalkM ShaM WireM
def Np (T:Nat→NodeD)(y:Nat):List Nat:=Dz T (lev y) y
theorem Zc0 (T:Nat→NodeD)(y:Nat):(Np T y).length=32:=Cn _ _ _
theorem Zgd (t:List NodeD)(hs:Eg t=true)(hok:TreeOk t)(hp:Ch t=true):∀k,Zfx t k:=by
 intro k
 induction k with
 |zero=>exact Zb2 t hs hok hp
 |succ k ih=>exact Zb3 t hs hok hp k ih
theorem AllR.congr {w:World} {g n:Nat} {F F':Nat→Option (List Nat)}(h:AllR w g n F)(e:∀y,y<n→F' y=F y):AllR w g n F':=by
 obtain⟨cs,h1,h2,h3⟩:=h;refine⟨cs,h1,h2,fun y hy=> ?_⟩;obtain⟨u,k1,k2⟩:=h3 y hy;exact⟨u,k1,fun L hL=>k2 L (by rw[←e y hy];exact hL)⟩
theorem Zc1 {n:Nat}(hn:n≤4000000):∀w:World,(Instr.makeSlice 64 (.int .i64 (n:Nat)) (.int .i64 (n:Nat))).run Tryz.prog w=.ok (.slice (some ⟨w.heap.size,0,none⟩) n n) (w.alloc (.cells (madeCells (Value.slice none 0 0).cells (n*1)) 28)):=by
 intro w;obtain⟨i,hi,hz,hsz,hby⟩:∃i,Tryz.prog.info? 28=some i∧i.zero=some (.slice none 0 0)∧i.size=1∧i.bytes=24:=info_parts (by kernel_rfl);have hr:=run_make (P:=Tryz.prog) w 64 28 i (.slice none 0 0) Tryz.underlying64 hi hz .i64 .i64 n n (by omega) (by omega) (by rw[hby];omega) (by omega);simp only[Int.toNat_natCast,hsz]at hr;exact hr
theorem Zc2 (w:World)(n:Nat):AllR (w.alloc (.cells (madeCells (Value.slice none 0 0).cells (n*1)) 28)) w.heap.size n (fun _=>none):=by
 refine⟨_,Blk.new w _ _,by simp[madeCells],fun y hy=> ?_⟩;exact⟨_,Array.getElem?_eq_getElem (by simpa [madeCells]using hy),fun L hL=>by cases hL⟩
theorem Zge (v:Value)(t:List NodeD)(w:World)(h:TreeR w v t)(hs:Eg t=true)(hok:TreeOk t)(hr:Fr t=true):
  Calls Tryz.prog 131 #[v] w fun e w'=>∃g,w.heap.size≤g∧e=.returned (.tuple #[.slice (some ⟨g,0,none⟩) t.length t.length,.int .u8 0])∧AllR w' g t.length (fun y=>some (Np (nd t) y))∧Below w.heap.size w w':=by
 have TR:=Zg v t w h hs hok;rw[hr]at TR;have HT:=Hd TR;obtain⟨hln,hp⟩:Bg t.length≠0∧Ch t=true:=by
  rw[Fr,bS,bS]at hr;exact⟨of_decide_eq_true hr.1,hr.2.1⟩
 obtain⟨d,hd,hN,hl⟩:=In hln;have hlen:=Fn hs;have hp1:0<2^d:=aN (by simp);have hrl:IsLev (2^d-1) d:=by
  unfold IsLev;exact aP (by have:2^(d+1)=2*2^d:=(by rw[aQ];omega);omega)
 have FL:=fun(W:World) (g:Nat) (hw:Below w.heap.size w W) (hg:w.heap.size≤g) (ha:AllR W g t.length (fun _=>none))=>Zgd t hs hok hp d (2^d-1) g v W _ (h.g hw hg) ha hrl (by omega);have CG:=fun(W:World) (g:Nat) (ha:AllR W g t.length (Ki (nd t) (fun _=>none) d (2^d-1)))=>ha.congr (F':=fun y=>some (Np (nd t) y)) (fun y hy=>by
  unfold Ki Np;rw[if_pos ⟨by omega,by omega⟩])
 obtain⟨a,c,rfl,hc,hc2⟩:=h.sl;obtain⟨n,hn⟩:=eX t.length;rw[←hn]at hl hlen hc FL CG HT⊢;obtain⟨x,hx⟩:=eX (2^d-1);rw[←hx]at FL CG;have hq:(n:Int)/2=(x:Int):=(by omega);have HMK:=Zc1 (n:=n) (by omega);have HMD:=Hd (fun(W:World)=>Zc2 W n);obtain⟨Z,hZ⟩:=eX (madeCells (Value.slice none 0 0).cells (n*1));rw[←hZ]at HMK HMD;have HFL:=Hd FL;have HCG:=Hd CG;clear hx hZ TR h hs hok hr hln hp hN hl hrl FL CG hn hp1;go_enter Tryz.func131,Tryz.ntmps131;go_wp2_with fail;refine(HT.out).mono ?_;rintro e w1 ⟨rfl,hb⟩;have HB:=Hd hb;have hs1:=hb.size;clear hb;go_wp2_with fail;refine(HFL.out _ _ (HB.out.alloc HB.out.size _) hs1 (HMD.out w1)).mono ?_;rintro e w2 ⟨v2,rfl,hr2,ha2,hall2,ho2⟩;have HA:=Hd (HCG.out _ _ hall2);have HB2:=Hd ((HB.out.alloc HB.out.size (.cells Z 28)).trans (ho2.1.mono hs1));clear hr2 ha2 hall2 ho2;go_wp2_with fail;go_ret2;exact⟨_,hs1,rfl,HA.out,HB2.out⟩
theorem Du {v v' r r':List Nat}(hv:v.length<1073741824)(hv':v'.length<1073741824)(h:Ca v++r=Ca v'++r'):v=v'∧r=r':=by
 have a:=Wx hv r;rw[h,Wx hv' r']at a;simp only[Prod.mk.injEq,and_true]at a;exact⟨a.1.symm,a.2.symm⟩
theorem Zc3 {k a b:Nat}(ha:a<256^k)(hb:b<256^k)(h:beN k a=beN k b):a=b:=by
 have e:=congrArg Ct h;rw[Ww,Ww,aP ha,aP hb]at e;exact e
theorem Zc4 {a b c d:List Nat}(hl:a.length=b.length)(h:a++c=b++d):a=b∧c=d:=List.append_inj h hl
theorem Zc5:∀ {L M:List Int},(∀u∈L,0≤u∧u<65536)→(∀u∈M,0≤u∧u<65536)→Dw L=Dw M→L=M:=by
 intro L
 induction L with
 |nil=>
  intro M _ _ h;have:=congrArg fW h;rw[Di,Di]at this;exact(bH (by simp at this;omega)).symm
 |cons x L ih=>
  intro M hL hM h;cases M with
  |nil=>
   have:=congrArg fW h;rw[Di,Di]at this;simp at this
  |cons y M=>
   have h2:beN 4 x.toNat++Dw L=beN 4 y.toNat++Dw M:=(by simpa [Dw]using h);obtain⟨h3,h4⟩:=Zc4 (by rw[beN_len,beN_len]) h2;have hx:=hL x (by simp);have hy:=hM y (by simp);have e:=Zc3 (k:=4) (by omega) (by omega) h3;have e2:x=y:=(by omega);rw[e2,ih (fun u hu=>hL u (by simp[hu])) (fun u hu=>hM u (by simp[hu])) h4]
theorem Tq {d e:NodeD} {r s:List Nat}(hd:Aq d=true)(he:Aq e=true)(hds:Cb d=true)(hes:Cb e=true)(h:Ci d++r=Ci e++s):d=e∧r=s:=by
 obtain⟨kd,⟨b1,b2,b3,sr,b4,b5⟩,⟨p1,p2,p3⟩⟩:=d;obtain⟨kd',⟨b1',b2',b3',sr',b4',b5'⟩,⟨p1',p2',p3'⟩⟩:=e;have hs1:=of_decide_eq_true hds;have hs2:=of_decide_eq_true hes;simp only at hs1 hs2;have k1:=Ht hd;have k2:=Ht he;have l1:=Eo (Ck hd);have l2:=Eo (Ck he);simp only at k1 k2 l1 l2;have nl:∀ {n1 n2 n3 s n4 n5:Nat},nlB n1 n2 n3 s n4 n5=true→s=0∧n1=0∧n2=0∧n3=0∧n4=0∧n5=0:=by
  intro n1 n2 n3 s n4 n5 h;have:=of_decide_eq_true h;omega
 have np:∀ {n1 n2 n3:Nat},npB n1 n2 n3=true→n1=0∧n2=0∧n3=0:=by
  intro n1 n2 n3 h;have:=of_decide_eq_true h;omega
 have z:∀ {l:List Nat},l.length=0→l=[]:=fun h=>bH h;have zi:∀ {l:List Int},l.length=0→l=[]:=fun h=>bH h;have hk:kd=kd':=by
  have h0:=congrArg fX h;rcases k1 with rfl|rfl|rfl<;>rcases k2 with rfl|rfl|rfl<;>first|rfl|(simp[Ci]at h0)
 subst hk;rcases k1 with rfl|rfl|rfl
 ·simp only[Aq,if_pos,bS]at hd he;obtain⟨rfl,y1,y2,y3,y4,y5⟩:=nl hd.1;obtain⟨rfl,z1,z2,z3,z4,z5⟩:=nl he.1;obtain⟨w1,w2,w3⟩:=np hd.2;obtain⟨v1,v2,v3⟩:=np he.2;have a1:=z y1;have a2:=z y2;have a3:=z y3;have a4:=z y4;have a5:=z y5;have a6:=z w1;have a7:=z w2;have a8:=zi w3;have c1:=z z1;have c2:=z z2;have c3:=z z3;have c4:=z z4;have c5:=z z5;have c6:=z v1;have c7:=z v2;have c8:=zi v3;subst a1 a2 a3 a4 a5 a6 a7 a8 c1 c2 c3 c4 c5 c6 c7 c8;refine⟨rfl,?_⟩;simpa [Ci]using h
 ·simp only[Aq,Nat.one_ne_zero,if_false,if_true,bS]at hd he;obtain⟨w1,w2,w3⟩:=np hd.2;obtain⟨v1,v2,v3⟩:=np he.2;have a6:=z w1;have a7:=z w2;have a8:=zi w3;have c6:=z v1;have c7:=z v2;have c8:=zi v3;subst a6 a7 a8 c6 c7 c8;have r1:=of_decide_eq_true hd.1;have r2:=of_decide_eq_true he.1;have h2:Ca b1++(Ca b2++(Ca b3++(sr::((if sr=3 then Ca b4 else [])++(Ca b5++r)))))=Ca b1'++(Ca b2'++(Ca b3'++(sr'::((if sr'=3 then Ca b4' else [])++(Ca b5'++s))))):=by
   simpa [Ci,Zh2,bN]using h
  obtain⟨rfl,h3⟩:=Du (by omega) (by omega) h2;obtain⟨rfl,h4⟩:=Du (by omega) (by omega) h3;obtain⟨rfl,h5⟩:=Du (by omega) (by omega) h4;obtain⟨rfl,h6⟩:=List.cons.inj h5;have h7:b4=b4'∧Ca b5++r=Ca b5'++s:=by
   by_cases h3:sr=3
   ·rw[if_pos h3,if_pos h3]at h6;exact Du (by omega) (by omega) h6
   ·rw[if_neg h3,if_neg h3]at h6;have q1:b4.length=0:=(by omega);have q2:b4'.length=0:=(by omega);exact⟨by rw[z q1,z q2],h6⟩
  obtain⟨rfl,h8⟩:=h7;obtain⟨rfl,h9⟩:=Du (by omega) (by omega) h8;exact⟨rfl,h9⟩
 ·have e2:¬(2=0):=(by omega);have e21:¬(2=1):=(by omega);simp only[Aq,if_neg e2,if_neg e21,if_true,bS]at hd he;obtain⟨rfl,y1,y2,y3,y4,y5⟩:=nl hd.1;obtain⟨rfl,z1,z2,z3,z4,z5⟩:=nl he.1;have a1:=z y1;have a2:=z y2;have a3:=z y3;have a4:=z y4;have a5:=z y5;have c1:=z z1;have c2:=z z2;have c3:=z z3;have c4:=z z4;have c5:=z z5;subst a1 a2 a3 a4 a5 c1 c2 c3 c4 c5;have h2:Ca p1++(Ca p2++(Ca (Dw p3)++r))=Ca p1'++(Ca p2'++(Ca (Dw p3')++s)):=by
   simpa [Ci,Zha,bN]using h
  obtain⟨rfl,h3⟩:=Du (by omega) (by omega) h2;obtain⟨rfl,h4⟩:=Du (by omega) (by omega) h3;obtain⟨h5,h6⟩:=Du (by rw[Di];omega) (by rw[Di];omega) h4;rw[Zc5 l1 l2 h5];exact⟨rfl,h6⟩
def Zj0 (T U:Nat→NodeD)(n m:Nat):Prop:=∀x y,x<n→y<m→shaF (Jo T (lev x) x)=shaF (Jo U (lev y) y)→Jo T (lev x) x=Jo U (lev y) y
theorem Zky {T U:Nat→NodeD} {n m:Nat}(hT:∀x,x<n→Aq (T x)=true)(hU:∀x,x<m→Aq (U x)=true)(hTs:∀x,Cb (T x)=true)(hUs:∀x,Cb (U x)=true)(hn:n≤40)(hm:m≤40)(hno:Zj0 T U n m):
  ∀k k' x y,IsLev x k→IsLev y k'→x+2^k≤n→y+2^k'≤m→Dz T k x=Dz U k' y→k=k'∧x=y∧∀j,x+1≤j+2^k→j<x+2^k→T j=U j:=by
 intro k
 induction k with
 |zero=>
  intro k' x y hx hy hxn hym h;have hp:(2:Nat)^0=1:=rfl;have hpk:0<2^k':=aN (by simp);have lx:lev x=0:=lev_eq (by omega) hx;have ly:lev y=k':=lev_eq (by omega) hy;have ht:=hno x y (by omega) (by omega) (by rw[lx,ly,←Ff,←Ff];exact h);rw[lx,ly]at ht;cases k' with
  |succ k'=>
   rw[Dn,Do]at ht;have:=congrArg fX ht;simp at this
  |zero=>
   rw[Dn,Dn]at ht;simp only[bN]at ht;have ht2:=(List.cons.inj (show(1:Nat)::(beN 4 (x/2)++Ci (T x))=1::(beN 4 (y/2)++Ci (U y))from ht)).2;obtain⟨h1,h2⟩:=Zc4 (by rw[beN_len,beN_len]) ht2;have e:=Zc3 (k:=4) (by omega) (by omega) h1;have ex:=Gj hx;have ey:=Gj hy;have exy:x=y:=(by omega);subst exy;have hd:=(Tq (r:=[]) (s:=[]) (hT x (by omega)) (hU x (by omega)) (hTs x) (hUs x) (by simpa using h2)).1;exact⟨rfl,rfl,fun j h1 h2=>by
    have:j=x:=(by omega);subst this;exact hd⟩
 |succ k ih=>
  intro k' x y hx hy hxn hym h;have hpw:2^(k+1)=2*2^k:=(by rw[aQ];omega);have hp:0<2^k:=aN (by simp);have hpk:0<2^k':=aN (by simp);have lx:lev x=k+1:=lev_eq (by omega) hx;have ly:lev y=k':=lev_eq (by omega) hy;have ht:=hno x y (by omega) (by omega) (by rw[lx,ly,←Ff,←Ff];exact h);rw[lx,ly]at ht;cases k' with
  |zero=>
   rw[Dn,Do]at ht;have:=congrArg fX ht;simp at this
  |succ k'=>
   have hpw':2^(k'+1)=2*2^k':=(by rw[aQ];omega);have hp':0<2^k':=aN (by simp);rw[Do,Do]at ht;simp only[bN]at ht;have ht2:=(List.cons.inj (show(2:Nat)::(Ci (T x)++(Ca (Dz T k (x-2^k))++Ca (Dz T k (x+2^k))))=2::(Ci (U y)++(Ca (Dz U k' (y-2^k'))++Ca (Dz U k' (y+2^k'))))from ht)).2;obtain⟨hd,h2⟩:=Tq (hT x (by omega)) (hU y (by omega)) (hTs x) (hUs y) ht2;obtain⟨h3,h4⟩:=Du (by rw[Cn];omega) (by rw[Cn];omega) h2;have h5:=(Du (v:=Dz T k (x+2^k)) (v':=Dz U k' (y+2^k')) (r:=[]) (r':=[]) (by rw[Cn];omega) (by rw[Cn];omega) (by simpa using h4)).1;obtain⟨_,_,i1,i2,i3⟩:=kids_lev (by omega) hx;obtain⟨_,_,j1,j2,j3⟩:=kids_lev (by omega) hy;obtain⟨e1,e2,e3⟩:=ih k' _ _ i1 j1 (by omega) (by omega) h3;obtain⟨_,f2,f3⟩:=ih k' _ _ i2 j2 (by omega) (by omega) h5;subst e1;have exy:x=y:=(by omega);subst exy;refine⟨rfl,rfl,fun j g1 g2=> ?_⟩;rcases Nat.lt_trichotomy j x with hj|hj|hj
   ·exact e3 j (by omega) (by omega)
   ·subst hj;exact hd
   ·exact f3 j (by omega) (by omega)
end Go.Proofs.YtfofaiommeckbaaGreat
