/- Walks: the law's alive, WireLens. -/
import Derived.Test.YtfofaiommeckbaaGreatZSliceReadsB
import Derived.Test.YtfofaiommeckbaaGreatZSliceReads25
import Derived.Test.YtfofaiommeckbaaGreatZSliceReads06
set_option linter.unusedVariables false
set_option maxRecDepth 100000
set_option maxHeartbeats 40000000
namespace Go.Proofs.YtfofaiommeckbaaGreat
open Go.RowKit WireM
theorem RS.low {w w':World} {B C:Nat} {L:List Nat} {er:Nat}(h:RS w B L er)(hb:Below C w w')(hC:B<C):RS w' B L er:=by
 obtain⟨v,h1,h2⟩:=h;exact⟨v,h1.below hb hC,h2.keep fun p hp=>hb.cell (Nat.lt_trans hp hC)⟩
theorem RS.only {w w':World} {B C:Nat} {L:List Nat} {er:Nat}(h:RS w B L er)(hb:Only C w w')(hC:B<C)(hs:C≤w.heap.size):RS w' B L er:=
 h.low (hb.below lR hs) hC
theorem Own.only {w w':World} {B C:Nat} {e:TypeId} {v:Value} {xs:List Value}(h:Own w B e v xs)(hb:Only C w w')(hC:C<B):Own w' B e v xs:=by
 refine World.ownsRow.kept h hb ?_;rcases h.form with rfl|⟨g,cap,rfl⟩
 ·exact .inl rfl
 ·right
  have:=(World.ownsRow.lt h) g rfl;simp only[Value.ownBlock,ne_eq,Option.some.injEq];omega
theorem Zkw:Elem Tryz.prog 64 28 (.slice none 0 0) 24:=⟨Tryz.underlying64,by kernel_rfl,rfl,by omega⟩
theorem Zby (c:Nat)(L:List Nat):Ct (c::L)=c*256^L.length+Ct L:=by
 have key:∀(L:List Nat) (a:Nat),L.foldl (fun a c=>a*256+c) a=a*256^L.length+L.foldl (fun a c=>a*256+c) 0:=by
  intro L
  induction L with
  |nil=>intro a;simp
  |cons x L ih=>
   intro a;simp only[List.foldl_cons,List.length_cons];have e:(a*256+x)*256^L.length=a*(256^L.length*256)+x*256^L.length:=(by rw[Nat.add_mul,Nat.mul_assoc,Nat.mul_comm 256]);rw[ih (a*256+x),ih (0*256+x),Nat.pow_succ,e,Nat.zero_mul,Nat.zero_add];omega
 show(c::L).foldl _ 0=_;rw[List.foldl_cons,key];simp[Ct]
theorem Ww:∀s n,Ct (beN s n)=n%256^s:=by
 intro s
 induction s with
 |zero=>intro n;simp[beN,Ct,Nat.mod_one]
 |succ s ih=>
  intro n;rw[beN,Zby,beN_len,ih,Nat.mod_pow_succ,Nat.mul_comm];omega
theorem Uu {n:Nat}(hn:n<1073741824)(R:List Nat):Bh (lenB n++R) 0=(some n,R,0):=by
 by_cases h1:n<64
 ·have e:lenB n++R=n::R:=(by rw[lenB,if_pos h1];rfl);rw[e,Bh,if_neg (by simp)];have h0:n/64=0:=(by omega);rw[Oh,h0,if_neg (by omega)];have e2:Ct (n%64::R.take (2^0-1))=n:=(by simp[Ct];omega);rw[e2,if_neg (by simp),if_pos (by rw[lenS1 h1])];simp
 ·by_cases h2:n<16384
  ·have e:lenB n++R=(64+n/256)::(n%256)::R:=(by rw[lenB,if_neg h1,if_pos h2];rfl);rw[e,Bh,if_neg (by simp)];have h0:(64+n/256)/64=1:=(by omega);rw[Oh,h0,if_neg (by omega)];have e2:Ct ((64+n/256)%64::(n%256::R).take (2^1-1))=n:=(by simp[Ct];omega);rw[e2,if_neg (by simp),if_pos (by rw[lenS2 (by omega) h2])];simp
  ·have e:lenB n++R=(128+n/16777216)::(n/65536%256)::(n/256%256)::(n%256)::R:=(by rw[lenB,if_neg h1,if_neg h2];rfl);rw[e,Bh,if_neg (by simp)];have h0:(128+n/16777216)/64=2:=(by omega);rw[Oh,h0,if_neg (by omega)];have e2:Ct ((128+n/16777216)%64::(n/65536%256::n/256%256::n%256::R).take (2^2-1))=n:=(by simp[Ct];omega);rw[e2,if_neg (by simp),if_pos (by rw[lenS4 (by omega) hn])];simp
theorem Zbz (v R:List Nat):Bw (v++R) 0 (v.length:Int)=(v,R,0):=by
 rw[Bw,if_neg (by simp),if_neg (by omega),if_neg (by rw[List.length_append];omega),Int.toNat_natCast];simp
theorem Wx {v:List Nat}(hv:v.length<1073741824)(R:List Nat):Bf (Ca v++R) 0=(v,R,0):=by
 rw[Bf,Ca,List.append_assoc,Uu hv];simp only;exact Zbz v R
theorem Wy (L:List Nat)(er:Nat)(n:Int):(Bw L er n).1.length≤n.toNat:=by
 unfold Bw
 split
 ·simp
 ·split
  ·simp
  ·split
   ·simp
   ·simp;omega
theorem Sl (L:List Nat)(er:Nat)(n:Int):∀x∈(Bw L er n).1,x∈L:=by
 intro x hx;unfold Bw at hx
 split at hx
 ·simp at hx
 ·split at hx
  ·simp at hx
  ·split at hx
   ·simp at hx
   ·exact List.mem_of_mem_take hx
def Eb (L:List Nat)(er:Nat)(s:Int):List Nat×List Nat×Nat:=Bw L er (if Zej s=true then s else-1)
def Zlb (B:Nat)(w:World)(r:List Nat×List Nat×Nat)(e:Ending)(w':World):Prop:=e=.returned (.int .u64 (Ct r.1:Nat))∧RS w' B r.2.1 r.2.2∧Only B w w'
theorem Mx (B:Nat)(L:List Nat)(er:Nat)(s:Int)(w:World)(h:RS w B L er)(hL:∀n∈L,n<256):
  Calls Tryz.prog 154 #[.pointer (some ⟨B,0,none⟩),.int .i64 s] w (Zlb B w (Eb L er s)):=by
 have HM:=Hd (fun w=>Zas s w);have hm8:Zej s=true→1≤s∧s≤8:=fun h=>(by have:=of_decide_eq_true h;omega);unfold Eb;obtain⟨b,hb⟩:=eX (Zej s);rw[←hb]at HM hm8⊢;cases b with
 |true=>
  rw[if_pos rfl];have HT:=Hd (Ql B L er s w h);have hle:=Wy L er s;have hmem:=Sl L er s;obtain⟨r,hr⟩:=eX (Bw L er s);rw[←hr]at HT hle hmem⊢;have h8:=hm8 rfl;have HR:=Hd (show r.1.length≤8∧∀n∈r.1,n<256 from⟨by omega,fun n hn=>hL n (hmem n hn)⟩);clear hle hmem hr h hL hm8 hb h8;go_enter Tryz.func154,Tryz.ntmps154;go_wp2_with fail;refine(HM.out _).mono ?_;rintro e w' ⟨rfl,rfl⟩;go_wp2_with fail;refine HT.out.mono ?_;rintro e w1 ⟨v,b,rfl,h1,h2,h3⟩;have HN:=Hd (Kf v r.1 w1 h1.rd HR.out.1 HR.out.2);have H2:=Hd h2;have H3:=Hd h3;clear h1 h2 h3;go_wp2_with fail;refine HN.out.mono ?_;rintro e w' ⟨rfl,rfl⟩;go_wp2_with fail;go_ret;exact⟨rfl,H2.out,H3.out⟩
 |false=>
  rw[if_neg (by simp)];have HT:=Hd (Ql B L er (-1) w h);have hle:=Wy L er (-1);have hmem:=Sl L er (-1);obtain⟨r,hr⟩:=eX (Bw L er (-1));rw[←hr]at HT hle hmem⊢;have HR:=Hd (show r.1.length≤8∧∀n∈r.1,n<256 from⟨by omega,fun n hn=>hL n (hmem n hn)⟩);clear hle hmem hr h hL hm8 hb;go_enter Tryz.func154,Tryz.ntmps154;go_wp2_with fail;refine(HM.out _).mono ?_;rintro e w' ⟨rfl,rfl⟩;go_wp2_with fail;refine HT.out.mono ?_;rintro e w1 ⟨v,b,rfl,h1,h2,h3⟩;have HN:=Hd (Kf v r.1 w1 h1.rd HR.out.1 HR.out.2);have H2:=Hd h2;have H3:=Hd h3;clear h1 h2 h3;go_wp2_with fail;refine HN.out.mono ?_;rintro e w' ⟨rfl,rfl⟩;go_wp2_with fail;go_ret;exact⟨rfl,H2.out,H3.out⟩
theorem Zfr (B:Nat)(L:List Nat)(er:Nat)(w:World)(h:RS w B L er):
  Calls Tryz.prog 255 #[.pointer (some ⟨B,0,none⟩)] w fun e w'=>e=.returned (.int .i64 (L.length:Nat))∧w=w':=by
 obtain⟨v,hb,hr⟩:=h;obtain⟨a,cap,rfl,_⟩:=hr;rw[bvs_len]at hb;have k0:=hb.cell 0;simp only[List.getElem?_toArray,List.getElem?_cons_zero]at k0;clear hb;go_enter Tryz.func255,Tryz.ntmps255;go_wp2_with fail;go_ret;exact⟨rfl,rfl⟩
def Oi (L:List Nat)(er:Nat):Bool×List Nat×Nat:=
 if er≠0 then(false,L,er)else match L with
  |[]=>(false,[],4)
  |b::M=>if 1<b then(false,M,3)else(b==1,M,0)
def Zfs (B:Nat)(w:World)(r:Bool×List Nat×Nat)(e:Ending)(w':World):Prop:=e=.returned (.bool r.1)∧RS w' B r.2.1 r.2.2∧Only B w w'
theorem Qm (B:Nat)(L:List Nat)(er:Nat)(w:World)(h:RS w B L er)(hL:∀n∈L,n<256):
  Calls Tryz.prog 177 #[.pointer (some ⟨B,0,none⟩)] w (Zfs B w (Oi L er)):=by
 by_cases he:er=0
 ·subst he;cases L with
  |nil=>
   have HT:=Hd (Lo B [] 1 w h (by simp));clear h hL;go_enter Tryz.func177,Tryz.ntmps177;go_wp2_with fail;refine HT.out.mono ?_;rintro e w1 ⟨rfl,h1,h2,-⟩;have H1:=Hd h1;have H2:=Hd h2;clear h1 h2;go_wp2_with fail;go_ret;exact⟨rfl,H1.out,H2.out⟩
  |cons b M=>
   have hb:=hL b (by simp);have T:=Pv B (b::M) 1 w h (by simp);simp only[List.take_succ_cons,List.take_zero,List.drop_succ_cons,List.drop_zero]at T;have HT:=Hd T;have hF:Oi (b::M) 0=if 1<b then(false,M,3)else(b==1,M,0):=(by rw[Oi,if_neg (by simp)]);rw[hF];clear T h hL hF
   by_cases h1b:1<b
   ·rw[if_pos h1b];go_enter Tryz.func177,Tryz.ntmps177;go_wp2_with fail;refine HT.out.mono ?_;rintro e w1 ⟨⟨v,rfl,hr⟩,h1,h2,-⟩;obtain⟨b1,o1,cap,rfl,c0⟩:∃b1 o1 cap,v=.slice (some ⟨b1,o1,none⟩) 1 cap∧w1.cell? ⟨b1,o1,none⟩=some (.int .u8 (b:Nat)):=by
     obtain⟨a,cap,rfl,_,_,h|⟨b1,o1,rfl,_,hc⟩⟩:=hr
     ·exact absurd h.1 (by simp[bvs])
     ·exact⟨b1,o1,cap,rfl,hc 0 _ rfl⟩
    have HF:=Hd (Fl B M 3 w1 h1 (by omega));have H2:=Hd h2;clear h1 h2 hr;go_wp2_with fail;refine HF.out.mono ?_;rintro e w2 ⟨rfl,h1,h2,-⟩;have H1:=Hd h1;have H3:=Hd (H2.out.trans h2);clear h1 h2;go_wp2_with fail;go_ret;exact⟨rfl,H1.out,H3.out⟩
   ·rw[if_neg h1b];go_enter Tryz.func177,Tryz.ntmps177;go_wp2_with fail;refine HT.out.mono ?_;rintro e w1 ⟨⟨v,rfl,hr⟩,h1,h2,-⟩;obtain⟨b1,o1,cap,rfl,c0⟩:∃b1 o1 cap,v=.slice (some ⟨b1,o1,none⟩) 1 cap∧w1.cell? ⟨b1,o1,none⟩=some (.int .u8 (b:Nat)):=by
     obtain⟨a,cap,rfl,_,_,h|⟨b1,o1,rfl,_,hc⟩⟩:=hr
     ·exact absurd h.1 (by simp[bvs])
     ·exact⟨b1,o1,cap,rfl,hc 0 _ rfl⟩
    have H1:=Hd h1;have H2:=Hd h2;have hbb:(b==1)=((b:Int)==1):=by
     rw[Bool.eq_iff_iff,beq_iff_eq,beq_iff_eq];omega
    have HBB:=Hd hbb;clear h1 h2 hr hbb;go_wp2_with fail;go_ret;exact⟨Ah HBB.out.symm,H1.out,H2.out⟩
 ·have hF:Oi L er=(false,L,er):=(by unfold Oi;rw[if_pos he]);rw[hF];have HT:=Hd (Pu B L er 1 w h he);have HR:=Hd h;clear h he hL hF;go_enter Tryz.func177,Tryz.ntmps177;go_wp2_with fail;refine HT.out.mono ?_;rintro e w1 ⟨rfl,rfl⟩;go_wp2_with fail;go_ret;exact⟨rfl,HR.out,Only.refl _ _⟩
end Go.Proofs.YtfofaiommeckbaaGreat
