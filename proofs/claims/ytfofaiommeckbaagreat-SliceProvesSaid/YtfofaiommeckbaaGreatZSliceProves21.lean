import Derived.Test.YtfofaiommeckbaaGreatZSliceProves20
open Go.Value renaming slice → q9, int → rA, pointer → rB
open Option renaming none → rF
open Go.Proofs.Tryz
set_option linter.unusedVariables false
set_option maxRecDepth 100000
set_option maxHeartbeats 40000000
namespace Go.Proofs.YtfofaiommeckbaaGreat
open Go.RowKit WireM
theorem RS.low {w w':World} {B C:Nat} {L:List Nat} {er:Nat}(h:RS w B L er)(hb:Below C w w')(hC:B<C):RS w' B L er:=by
 obtain⟨v,h1,h2⟩:=h;exact⟨v,h1.below hb hC,h2.keep fun p hp=>hb.cell (Nat.lt_trans hp hC)⟩
theorem RS.only {w w':World} {B C:Nat} {L:List Nat} {er:Nat}(h:RS w B L er)(hb:Only C w w')(hC:B<C)(hs:C≤w.heap.size):RS w' B L er:=
 h.low (hb.below lR hs) hC
theorem Own.only {w w':World} {B C:Nat} {e:TypeId} {v:Value} {xs:List Value}(h:Own w B e v xs)(a:Only C w w')(b:C<B):Own w' B e v xs:=by
 refine World.ownsRow.kept h a ?_;rcases h.form with rfl|⟨g,cap,rfl⟩
 ·exact .inl rfl
 ·right
  have:=(World.ownsRow.lt h) g rfl;simp only[Value.ownBlock,ne_eq,Option.some.injEq];omega
theorem Zd3 (c:Nat)(L:List Nat):Gr (c::L)=c*256^L.length+Gr L:=by
 have b:∀(L:List Nat) (a:Nat),L.foldl (fun a c=>a*256+c) a=a*256^L.length+L.foldl (fun a c=>a*256+c) 0:=by
  intro L
  induction L with
  |nil=>intro a;simp
  |cons x L ih=>
   intro a;simp only[List.foldl_cons,List.length_cons];have e:(a*256+x)*256^L.length=a*(256^L.length*256)+x*256^L.length:=(by rw[Nat.add_mul,Nat.mul_assoc,Nat.mul_comm 256]);rw[ih (a*256+x),ih (0*256+x),Nat.pow_succ,e,Nat.zero_mul,Nat.zero_add];omega
 show(c::L).foldl _ 0=_;rw[List.foldl_cons,b];simp[Gr]
theorem Zh:∀s n,Gr (beN s n)=n%256^s:=by
 intro s
 induction s with
 |zero=>intro n;simp[beN,Gr,Nat.mod_one]
 |succ s ih=>
  intro n;rw[beN,Zd3,beN_len,ih,Nat.mod_pow_succ,Nat.mul_comm];omega
theorem Xe {n:Nat}(a:n<1073741824)(R:List Nat):Do (lenB n++R) 0=(some n,R,0):=by
 by_cases h1:n<64
 ·have e:lenB n++R=n::R:=(by rw[lenB,if_pos h1];rfl);rw[e,Do,if_neg (by simp)];have h0:n/64=0:=(by omega);rw[Zg,h0,if_neg (by omega)];have e2:Gr (n%64::R.take (2^0-1))=n:=(by simp[Gr];omega);rw[e2,if_neg (by simp),if_pos (by rw[lenS1 h1])];simp
 ·by_cases h2:n<16384
  ·have e:lenB n++R=(64+n/256)::(n%256)::R:=(by rw[lenB,if_neg h1,if_pos h2];rfl);rw[e,Do,if_neg (by simp)];have h0:(64+n/256)/64=1:=(by omega);rw[Zg,h0,if_neg (by omega)];have e2:Gr ((64+n/256)%64::(n%256::R).take (2^1-1))=n:=(by simp[Gr];omega);rw[e2,if_neg (by simp),if_pos (by rw[lenS2 (by omega) h2])];simp
  ·have e:lenB n++R=(128+n/16777216)::(n/65536%256)::(n/256%256)::(n%256)::R:=(by rw[lenB,if_neg h1,if_neg h2];rfl);rw[e,Do,if_neg (by simp)];have h0:(128+n/16777216)/64=2:=(by omega);rw[Zg,h0,if_neg (by omega)];have e2:Gr ((128+n/16777216)%64::(n/65536%256::n/256%256::n%256::R).take (2^2-1))=n:=(by simp[Gr];omega);rw[e2,if_neg (by simp),if_pos (by rw[lenS4 (by omega) a])];simp
theorem Uo (v R:List Nat):Dd (v++R) 0 (v.length:Int)=(v,R,0):=by
 rw[Dd,if_neg (by simp),if_neg (by omega),if_neg (by rw[List.length_append];omega),Int.toNat_natCast];simp
theorem Zh8 {v:List Nat}(hv:v.length<1073741824)(R:List Nat):Fc (Bf v++R) 0=(v,R,0):=by
 rw[Fc,Bf,List.append_assoc,Xe hv];simp only;exact Uo v R
theorem Zi (L:List Nat)(er:Nat)(n:Int):(Dd L er n).1.length≤n.toNat:=by
 unfold Dd
 split
 ·simp
 ·split
  ·simp
  ·split
   ·simp
   ·simp;omega
theorem Up (L:List Nat)(er:Nat)(n:Int):∀x∈(Dd L er n).1,x∈L:=by
 intro x hx;unfold Dd at hx
 split at hx
 ·simp at hx
 ·split at hx
  ·simp at hx
  ·split at hx
   ·simp at hx
   ·exact List.mem_of_mem_take hx
def Hf (L:List Nat)(er:Nat)(s:Int):List Nat×List Nat×Nat:=Dd L er (if Zcy s=true then s else-1)
def Zns (B:Nat)(w:World)(r:List Nat×List Nat×Nat)(e:Ending)(w':World):Prop:=e=.returned (rA .u64 (Gr r.1:Nat))∧RS w' B r.2.1 r.2.2∧Only B w w'
theorem Og (B:Nat)(L:List Nat)(er:Nat)(s:Int)(w:World)(h:RS w B L er)(j:∀n∈L,n<256):
  Calls prog 154 #[rB (some ⟨B,0,rF⟩),rA .i64 s] w (Zns B w (Hf L er s)):=by
 have m:=Hd (fun w=>Zcz s w);have d:Zcy s=true→1≤s∧s≤8:=fun h=>(by have:=of_decide_eq_true h;omega);unfold Hf;obtain⟨b,q⟩:=eX (Zcy s);rw[←q]at m d⊢;cases b with
 |true=>
  rw[if_pos rfl];have f:=Hd (Sb B L er s w h);have c:=Zi L er s;have a:=Up L er s;obtain⟨r,g⟩:=eX (Dd L er s);rw[←g]at f c a⊢;have u:=d rfl;have i:=Hd (show r.1.length≤8∧∀n∈r.1,n<256 from⟨by omega,fun n t=>j n (a n t)⟩);clear c a g h j d q u;go_enter func154,ntmps154;go_wp2_with fail;refine(m.out _).mono ?_;rintro e w' ⟨rfl,rfl⟩;go_wp2_with fail;refine f.out.mono ?_;rintro e o ⟨v,b,rfl,h1,h2,h3⟩;have k:=Hd (Lj v r.1 o h1.rd i.out.1 i.out.2);have p:=Hd h2;have l:=Hd h3;clear h1 h2 h3;go_wp2_with fail;refine k.out.mono ?_;rintro e w' ⟨rfl,rfl⟩;go_wp2_with fail;go_ret;exact⟨rfl,p.out,l.out⟩
 |false=>
  rw[if_neg (by simp)];have f:=Hd (Sb B L er (-1) w h);have c:=Zi L er (-1);have a:=Up L er (-1);obtain⟨r,g⟩:=eX (Dd L er (-1));rw[←g]at f c a⊢;have i:=Hd (show r.1.length≤8∧∀n∈r.1,n<256 from⟨by omega,fun n t=>j n (a n t)⟩);clear c a g h j d q;go_enter func154,ntmps154;go_wp2_with fail;refine(m.out _).mono ?_;rintro e w' ⟨rfl,rfl⟩;go_wp2_with fail;refine f.out.mono ?_;rintro e o ⟨v,b,rfl,h1,h2,h3⟩;have k:=Hd (Lj v r.1 o h1.rd i.out.1 i.out.2);have p:=Hd h2;have l:=Hd h3;clear h1 h2 h3;go_wp2_with fail;refine k.out.mono ?_;rintro e w' ⟨rfl,rfl⟩;go_wp2_with fail;go_ret;exact⟨rfl,p.out,l.out⟩
theorem Zh9 {s n:Nat}(hs:Zcy (s:Int)=true)(R:List Nat):Hf (beN s n++R) 0 (s:Int)=(beN s n,R,0):=by
 rw[Hf,if_pos hs];have:=Uo (beN s n) R;rw[beN_len]at this;exact this
theorem Zia (B:Nat)(L:List Nat)(er:Nat)(w:World)(h:RS w B L er):
  Calls prog 255 #[rB (some ⟨B,0,rF⟩)] w fun e w'=>e=.returned (rA .i64 (L.length:Nat))∧w=w':=by
 obtain⟨v,b,d⟩:=h;obtain⟨a,cap,rfl,_⟩:=d;rw[bvs_len]at b;have c:=b.cell 0;simp only[List.getElem?_toArray,List.getElem?_cons_zero]at c;clear b;go_enter func255,ntmps255;go_wp2_with fail;go_ret;exact⟨rfl,rfl⟩
def Pm (L:List Nat)(er:Nat):Bool×List Nat×Nat:=
 if er≠0 then(false,L,er)else match L with
  |[]=>(false,[],4)
  |b::M=>if 1<b then(false,M,3)else(b==1,M,0)
def Zib (B:Nat)(w:World)(r:Bool×List Nat×Nat)(e:Ending)(w':World):Prop:=e=.returned (.bool r.1)∧RS w' B r.2.1 r.2.2∧Only B w w'
theorem Sc (B:Nat)(L:List Nat)(er:Nat)(w:World)(h:RS w B L er)(o:∀n∈L,n<256):
  Calls prog 177 #[rB (some ⟨B,0,rF⟩)] w (Zib B w (Pm L er)):=by
 by_cases he:er=0
 ·subst he;cases L with
  |nil=>
   have g:=Hd (My B [] 1 w h (by simp));clear h o;go_enter func177,ntmps177;go_wp2_with fail;refine g.out.mono ?_;rintro e f ⟨rfl,h1,h2,-⟩;have i:=Hd h1;have l:=Hd h2;clear h1 h2;go_wp2_with fail;go_ret;exact⟨rfl,i.out,l.out⟩
  |cons b M=>
   have y:=o b (by simp);have T:=Rn B (b::M) 1 w h (by simp);simp only[List.take_succ_cons,List.take_zero,List.drop_succ_cons,List.drop_zero]at T;have g:=Hd T;have j:Pm (b::M) 0=if 1<b then(false,M,3)else(b==1,M,0):=(by rw[Pm,if_neg (by simp)]);rw[j];clear T h o j
   by_cases h1b:1<b
   ·rw[if_pos h1b];go_enter func177,ntmps177;go_wp2_with fail;refine g.out.mono ?_;rintro e f ⟨⟨v,rfl,m⟩,h1,h2,-⟩;obtain⟨c,d,cap,rfl,t⟩:∃c d cap,v=q9 (some ⟨c,d,rF⟩) 1 cap∧f.cell? ⟨c,d,rF⟩=some (rA .u8 (b:Nat)):=by
     obtain⟨a,cap,rfl,_,_,h|⟨c,d,rfl,_,q⟩⟩:=m
     ·exact absurd h.1 (by simp[bvs])
     ·exact⟨c,d,cap,rfl,q 0 _ rfl⟩
    have r:=Hd (Gq B M 3 f h1 (by omega));have l:=Hd h2;clear h1 h2 m;go_wp2_with fail;refine r.out.mono ?_;rintro e x ⟨rfl,h1,h2,-⟩;have i:=Hd h1;have s:=Hd (l.out.trans h2);clear h1 h2;go_wp2_with fail;go_ret;exact⟨rfl,i.out,s.out⟩
   ·rw[if_neg h1b];go_enter func177,ntmps177;go_wp2_with fail;refine g.out.mono ?_;rintro e f ⟨⟨v,rfl,m⟩,h1,h2,-⟩;obtain⟨c,d,cap,rfl,t⟩:∃c d cap,v=q9 (some ⟨c,d,rF⟩) 1 cap∧f.cell? ⟨c,d,rF⟩=some (rA .u8 (b:Nat)):=by
     obtain⟨a,cap,rfl,_,_,h|⟨c,d,rfl,_,q⟩⟩:=m
     ·exact absurd h.1 (by simp[bvs])
     ·exact⟨c,d,cap,rfl,q 0 _ rfl⟩
    have i:=Hd h1;have l:=Hd h2;have k:(b==1)=((b:Int)==1):=by
     rw[Bool.eq_iff_iff,beq_iff_eq,beq_iff_eq];omega
    have p:=Hd k;clear h1 h2 m k;go_wp2_with fail;go_ret;exact⟨Ae p.out.symm,i.out,l.out⟩
 ·have j:Pm L er=(false,L,er):=(by unfold Pm;rw[if_pos he]);rw[j];have g:=Hd (Rm B L er 1 w h he);have u:=Hd h;clear h he o j;go_enter func177,ntmps177;go_wp2_with fail;refine g.out.mono ?_;rintro e f ⟨rfl,rfl⟩;go_wp2_with fail;go_ret;exact⟨rfl,u.out,Only.refl _ _⟩
end Go.Proofs.YtfofaiommeckbaaGreat
