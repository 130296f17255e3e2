/- Walks: the law's alive, WireLens. -/
import Derived.Test.YtfofaiommeckbaaGreatZSliceSoundB
import Derived.Test.YtfofaiommeckbaaGreatZSliceSound22
set_option linter.unusedVariables false
set_option maxRecDepth 100000
set_option maxHeartbeats 40000000
namespace Go.Proofs.YtfofaiommeckbaaGreat
open Go.RowKit WireM
theorem RS.low {w w':World} {B C:Nat} {L:List Nat} {er:Nat}(h:RS w B L er)(hb:Below C w w')(hC:B<C):RS w' B L er:=by
 obtain⟨v,h1,h2⟩:=h;exact⟨v,h1.below hb hC,h2.keep fun p hp=>hb.cell (Nat.lt_trans hp hC)⟩
theorem RS.only {w w':World} {B C:Nat} {L:List Nat} {er:Nat}(h:RS w B L er)(hb:Only C w w')(hC:B<C)(hs:C≤w.heap.size):RS w' B L er:=
 h.low (hb.below lR hs) hC
theorem Own.only {w w':World} {B C:Nat} {e:TypeId} {v:Value} {xs:List Value}(h:Own w B e v xs)(a:Only C w w')(b:C<B):Own w' B e v xs:=by
 refine World.ownsRow.kept h a ?_;rcases h.form with rfl|⟨g,cap,rfl⟩
 ·exact .inl rfl
 ·right
  have:=(World.ownsRow.lt h) g rfl;simp only[Value.ownBlock,ne_eq,Option.some.injEq];omega
theorem Zmw:Elem Tryz.prog 64 28 (.slice none 0 0) 24:=⟨Tryz.underlying64,by kernel_rfl,rfl,by omega⟩
def GridB (w:World)(B:Nat)(v:Value)(rows:List (List Nat)):Prop:=Grid w B 28 5 v (rows.map bvs)
theorem GridB.rdl {w:World} {B:Nat} {v:Value} {rows:List (List Nat)}(h:GridB w B v rows):RdL w v rows:=by
 obtain⟨vs,h1,h2,h3⟩:=h;refine⟨vs,h1.rd,by simpa using h2,?_⟩;intro i r hr;obtain⟨u,e1,e2,_⟩:=h3 i (bvs r) (by simp[hr]);exact⟨u,e1,e2.rd⟩
-- numbers
theorem Tq (c:Nat)(L:List Nat):Ds (c::L)=c*256^L.length+Ds L:=by
 have b:∀(L:List Nat) (a:Nat),L.foldl (fun a c=>a*256+c) a=a*256^L.length+L.foldl (fun a c=>a*256+c) 0:=by
  intro L
  induction L with
  |nil=>intro a;simp
  |cons x L ih=>
   intro a;simp only[List.foldl_cons,List.length_cons];have e:(a*256+x)*256^L.length=a*(256^L.length*256)+x*256^L.length:=(by rw[Nat.add_mul,Nat.mul_assoc,Nat.mul_comm 256]);rw[ih (a*256+x),ih (0*256+x),Nat.pow_succ,e,Nat.zero_mul,Nat.zero_add];omega
 show(c::L).foldl _ 0=_;rw[List.foldl_cons,b];simp[Ds]
theorem Yq:∀s n,Ds (beN s n)=n%256^s:=by
 intro s
 induction s with
 |zero=>intro n;simp[beN,Ds,Nat.mod_one]
 |succ s ih=>
  intro n;rw[beN,Tq,beN_len,ih,Nat.mod_pow_succ,Nat.mul_comm];omega
theorem Vz {n:Nat}(b:n<1073741824)(R:List Nat):Br (lenB n++R) 0=(some n,R,0):=by
 by_cases h1:n<64
 ·have e:lenB n++R=n::R:=(by rw[lenB,if_pos h1];rfl);rw[e,Br,if_neg (by simp)];have a:n/64=0:=(by omega);rw[Of,a,if_neg (by omega)];have e2:Ds (n%64::R.take (2^0-1))=n:=(by simp[Ds];omega);rw[e2,if_neg (by simp),if_pos (by rw[lenS1 h1])];simp
 ·by_cases h2:n<16384
  ·have e:lenB n++R=(64+n/256)::(n%256)::R:=(by rw[lenB,if_neg h1,if_pos h2];rfl);rw[e,Br,if_neg (by simp)];have a:(64+n/256)/64=1:=(by omega);rw[Of,a,if_neg (by omega)];have e2:Ds ((64+n/256)%64::(n%256::R).take (2^1-1))=n:=(by simp[Ds];omega);rw[e2,if_neg (by simp),if_pos (by rw[lenS2 (by omega) h2])];simp
  ·have e:lenB n++R=(128+n/16777216)::(n/65536%256)::(n/256%256)::(n%256)::R:=(by rw[lenB,if_neg h1,if_neg h2];rfl);rw[e,Br,if_neg (by simp)];have a:(128+n/16777216)/64=2:=(by omega);rw[Of,a,if_neg (by omega)];have e2:Ds ((128+n/16777216)%64::(n/65536%256::n/256%256::n%256::R).take (2^2-1))=n:=(by simp[Ds];omega);rw[e2,if_neg (by simp),if_pos (by rw[lenS4 (by omega) b])];simp
theorem Zdi (v R:List Nat):Cm (v++R) 0 (v.length:Int)=(v,R,0):=by
 rw[Cm,if_neg (by simp),if_neg (by omega),if_neg (by rw[List.length_append];omega),Int.toNat_natCast];simp
theorem Yr {v:List Nat}(hv:v.length<1073741824)(R:List Nat):By (Av v++R) 0=(v,R,0):=by
 rw[By,Av,List.append_assoc,Vz hv];simp only;exact Zdi v R
theorem Ys (L:List Nat)(er:Nat)(n:Int):(Cm L er n).1.length≤n.toNat:=by
 unfold Cm
 split
 ·simp
 ·split
  ·simp
  ·split
   ·simp
   ·simp;omega
theorem Tr (L:List Nat)(er:Nat)(n:Int):∀x∈(Cm L er n).1,x∈L:=by
 intro x hx;unfold Cm at hx
 split at hx
 ·simp at hx
 ·split at hx
  ·simp at hx
  ·split at hx
   ·simp at hx
   ·exact List.mem_of_mem_take hx
def Fe (L:List Nat)(er:Nat)(s:Int):List Nat×List Nat×Nat:=Cm L er (if Zf8 s=true then s else-1)
def Znf (B:Nat)(w:World)(r:List Nat×List Nat×Nat)(e:Ending)(w':World):Prop:=e=.returned (.int .u64 (Ds r.1:Nat))∧RS w' B r.2.1 r.2.2∧Only B w w'
theorem Ni (B:Nat)(L:List Nat)(er:Nat)(s:Int)(w:World)(h:RS w B L er)(k:∀n∈L,n<256):
  Calls Tryz.prog 154 #[.pointer (some ⟨B,0,none⟩),.int .i64 s] w (Znf B w (Fe L er s)):=by
 have p:=Hd (fun w=>Zcb s w);have d:Zf8 s=true→1≤s∧s≤8:=fun h=>(by have:=of_decide_eq_true h;omega);unfold Fe;obtain⟨b,m⟩:=eX (Zf8 s);rw[←m]at p d⊢;cases b with
 |true=>
  rw[if_pos rfl];have g:=Hd (Ra B L er s w h);have c:=Ys L er s;have a:=Tr L er s;obtain⟨r,f⟩:=eX (Cm L er s);rw[←f]at g c a⊢;have x:=d rfl;have i:=Hd (show r.1.length≤8∧∀n∈r.1,n<256 from⟨by omega,fun n q=>k n (a n q)⟩);clear c a f h k d m x;go_enter Tryz.func154,Tryz.ntmps154;go_wp2_with fail;refine(p.out _).mono ?_;rintro e w' ⟨rfl,rfl⟩;go_wp2_with fail;refine g.out.mono ?_;rintro e l ⟨v,b,rfl,j,h2,h3⟩;have o:=Hd (Kn v r.1 l j.rd i.out.1 i.out.2);have u:=Hd h2;have t:=Hd h3;clear j h2 h3;go_wp2_with fail;refine o.out.mono ?_;rintro e w' ⟨rfl,rfl⟩;go_wp2_with fail;go_ret;exact⟨rfl,u.out,t.out⟩
 |false=>
  rw[if_neg (by simp)];have g:=Hd (Ra B L er (-1) w h);have c:=Ys L er (-1);have a:=Tr L er (-1);obtain⟨r,f⟩:=eX (Cm L er (-1));rw[←f]at g c a⊢;have i:=Hd (show r.1.length≤8∧∀n∈r.1,n<256 from⟨by omega,fun n q=>k n (a n q)⟩);clear c a f h k d m;go_enter Tryz.func154,Tryz.ntmps154;go_wp2_with fail;refine(p.out _).mono ?_;rintro e w' ⟨rfl,rfl⟩;go_wp2_with fail;refine g.out.mono ?_;rintro e l ⟨v,b,rfl,j,h2,h3⟩;have o:=Hd (Kn v r.1 l j.rd i.out.1 i.out.2);have u:=Hd h2;have t:=Hd h3;clear j h2 h3;go_wp2_with fail;refine o.out.mono ?_;rintro e w' ⟨rfl,rfl⟩;go_wp2_with fail;go_ret;exact⟨rfl,u.out,t.out⟩
theorem Zhi (B:Nat)(L:List Nat)(er:Nat)(w:World)(h:RS w B L er):
  Calls Tryz.prog 255 #[.pointer (some ⟨B,0,none⟩)] w fun e w'=>e=.returned (.int .i64 (L.length:Nat))∧w=w':=by
 obtain⟨v,b,c⟩:=h;obtain⟨a,cap,rfl,_⟩:=c;rw[bvs_len]at b;have d:=b.cell 0;simp only[List.getElem?_toArray,List.getElem?_cons_zero]at d;clear b;go_enter Tryz.func255,Tryz.ntmps255;go_wp2_with fail;go_ret;exact⟨rfl,rfl⟩
def Om (L:List Nat)(er:Nat):Bool×List Nat×Nat:=
 if er≠0 then(false,L,er)else match L with
  |[]=>(false,[],4)
  |b::M=>if 1<b then(false,M,3)else(b==1,M,0)
def Zhj (B:Nat)(w:World)(r:Bool×List Nat×Nat)(e:Ending)(w':World):Prop:=e=.returned (.bool r.1)∧RS w' B r.2.1 r.2.2∧Only B w w'
theorem Rb (B:Nat)(L:List Nat)(er:Nat)(w:World)(h:RS w B L er)(p:∀n∈L,n<256):
  Calls Tryz.prog 177 #[.pointer (some ⟨B,0,none⟩)] w (Zhj B w (Om L er)):=by
 by_cases he:er=0
 ·subst he;cases L with
  |nil=>
   have i:=Hd (Lx B [] 1 w h (by simp));clear h p;go_enter Tryz.func177,Tryz.ntmps177;go_wp2_with fail;refine i.out.mono ?_;rintro e g ⟨rfl,d,h2,-⟩;have l:=Hd d;have o:=Hd h2;clear d h2;go_wp2_with fail;go_ret;exact⟨rfl,l.out,o.out⟩
  |cons b M=>
   have y:=p b (by simp);have T:=Qn B (b::M) 1 w h (by simp);simp only[List.take_succ_cons,List.take_zero,List.drop_succ_cons,List.drop_zero]at T;have i:=Hd T;have k:Om (b::M) 0=if 1<b then(false,M,3)else(b==1,M,0):=(by rw[Om,if_neg (by simp)]);rw[k];clear T h p k
   by_cases h1b:1<b
   ·rw[if_pos h1b];go_enter Tryz.func177,Tryz.ntmps177;go_wp2_with fail;refine i.out.mono ?_;rintro e g ⟨⟨v,rfl,j⟩,d,h2,-⟩;obtain⟨f,c,cap,rfl,x⟩:∃f c cap,v=.slice (some ⟨f,c,none⟩) 1 cap∧g.cell? ⟨f,c,none⟩=some (.int .u8 (b:Nat)):=by
     obtain⟨a,cap,rfl,_,_,h|⟨f,c,rfl,_,r⟩⟩:=j
     ·exact absurd h.1 (by simp[bvs])
     ·exact⟨f,c,cap,rfl,r 0 _ rfl⟩
    have t:=Hd (Gk B M 3 g d (by omega));have o:=Hd h2;clear d h2 j;go_wp2_with fail;refine t.out.mono ?_;rintro e z ⟨rfl,d,h2,-⟩;have l:=Hd d;have u:=Hd (o.out.trans h2);clear d h2;go_wp2_with fail;go_ret;exact⟨rfl,l.out,u.out⟩
   ·rw[if_neg h1b];go_enter Tryz.func177,Tryz.ntmps177;go_wp2_with fail;refine i.out.mono ?_;rintro e g ⟨⟨v,rfl,j⟩,d,h2,-⟩;obtain⟨f,c,cap,rfl,x⟩:∃f c cap,v=.slice (some ⟨f,c,none⟩) 1 cap∧g.cell? ⟨f,c,none⟩=some (.int .u8 (b:Nat)):=by
     obtain⟨a,cap,rfl,_,_,h|⟨f,c,rfl,_,r⟩⟩:=j
     ·exact absurd h.1 (by simp[bvs])
     ·exact⟨f,c,cap,rfl,r 0 _ rfl⟩
    have l:=Hd d;have o:=Hd h2;have m:(b==1)=((b:Int)==1):=by
     rw[Bool.eq_iff_iff,beq_iff_eq,beq_iff_eq];omega
    have q:=Hd m;clear d h2 j m;go_wp2_with fail;go_ret;exact⟨Ac q.out.symm,l.out,o.out⟩
 ·have k:Om L er=(false,L,er):=(by unfold Om;rw[if_pos he]);rw[k];have i:=Hd (Qm B L er 1 w h he);have s:=Hd h;clear h he p k;go_enter Tryz.func177,Tryz.ntmps177;go_wp2_with fail;refine i.out.mono ?_;rintro e g ⟨rfl,rfl⟩;go_wp2_with fail;go_ret;exact⟨rfl,s.out,Only.refl _ _⟩
end Go.Proofs.YtfofaiommeckbaaGreat
