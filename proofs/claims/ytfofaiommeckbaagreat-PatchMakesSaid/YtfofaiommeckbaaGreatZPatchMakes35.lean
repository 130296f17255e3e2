/- Plain: the hash of a piece by the level. -/
import Derived.Test.YtfofaiommeckbaaGreatZPatchMakesB
import Derived.Test.YtfofaiommeckbaaGreatZPatchMakes34
open List renaming length_append → aG, length_cons → cR, length_nil → bL, mem_append → eN, mem_cons → aE, not_mem_nil → eQ, mergeSort_perm → dH, getElem?_toArray → bN, getElem?_cons_zero → bO, getElem?_cons_succ → bP, filterMap_cons → cS, filterMap_nil → cT, contains_cons → cU, contains_nil → cV
open Bool renaming and_eq_true → cC, or_false → cW, or_true → cX
open Int renaming natCast_nonneg → gJ, tmod → eV, tmod_eq_emod_of_nonneg → eW
set_option linter.unusedVariables false
set_option maxRecDepth 100000
set_option maxHeartbeats 40000000
namespace Go.Proofs.YtfofaiommeckbaaGreat
open Go.RowKit WalkM ShaM WireM
section
mutual
def Zdi (F:Int→Option NodeD)(H:Int→Option (List Nat)):Nat→Nat→NodeD→List Nat
 |0,x,d=>([1]++beN 4 (x/2))++Bd d
 |k+1,x,d=>([2]++Bd d)++(As (Gl F H k (x-2^k))++As (Gl F H k (x+2^k)))
def Gl (F:Int→Option NodeD)(H:Int→Option (List Nat)):Nat→Nat→List Nat
 |0,x=>match F (x:Int)with
  |none=>Fs H x
  |some d=>shaF (([1]++beN 4 (x/2))++Bd d)
 |k+1,x=>match F (x:Int)with
  |none=>Fs H x
  |some d=>shaF (([2]++Bd d)++(As (Gl F H k (x-2^k))++As (Gl F H k (x+2^k))))
end
section
variable {F:Int→Option NodeD} {H:Int→Option (List Nat)} {k x:Nat} {d:NodeD}
theorem Jq (h:F (x:Int)=none):Gl F H k x=Fs H x:=by cases k<;>simp only[Gl,h]
theorem Jr (h:F (x:Int)=some d):Gl F H k x=shaF (Zdi F H k x d):=by cases k<;>simp only[Gl,Zdi,h]
theorem Mj:Zdi F H 0 x d=([1]++beN 4 (x/2))++Bd d:=by simp only[Zdi]
theorem Mk:Zdi F H (k+1) x d=([2]++Bd d)++(As (Gl F H k (x-2^k))++As (Gl F H k (x+2^k))):=by simp only[Zdi]
theorem Pt (h:PieceOk F H)(x:Nat):∀y∈Fs H x,y<256:=by
 unfold Fs;cases e:H (x:Int)with
 |none=>intro y hy;simp at hy
 |some L=>exact(h.hash _ _ e).2
theorem Wb (h:PieceOk F H):∀y∈Gl F H k x,y<256:=by
 cases e:F (x:Int)with
 |none=>rw[Jq e];exact Pt h x
 |some d=>rw[Jr e];exact Zj _
theorem Hl (h:PieceOk F H):(Gl F H k x).length≤32:=by
 cases e:F (x:Int)with
 |none=>rw[Jq e];exact Gw h x
 |some d=>rw[Jr e,Uz];exact lR
def Zdj (F:Int→Option NodeD)(H:Int→Option (List Nat))(x:Nat):Prop:=(F (x:Int)).isSome=true∨(Fs H x).length=32
theorem Zdk (h:PieceOk F H)(hF:F (x:Int)=some d):(Zdi F H k x d).length≤8000:=by
 have hn:=Cy (h.ok _ _ hF).2.1;cases k with
 |zero=>rw[Mj];simp only[aG,cR,bL,beN_len];omega
 |succ k=>
  rw[Mk];have h1:=Hl (k:=k) (x:=x-2^k) h;have h2:=Hl (k:=k) (x:=x+2^k) h;have v1:=Ax (Gl F H k (x-2^k)) (by omega);have v2:=Ax (Gl F H k (x+2^k)) (by omega);simp only[aG,cR,bL];omega
theorem Zfr (h:PieceOk F H)(hF:F (x:Int)=some d):∀y∈Zdi F H k x d,y<256:=by
 obtain⟨h1,h2,-⟩:=h.ok _ _ hF;have hn:=Kt h1 h2;intro y hy;cases k with
 |zero=>
  rw[Mj]at hy;simp only[eN,aE,eQ,or_false]at hy;rcases hy with(rfl|hy)|hy
  ·omega
  ·exact beN_lt _ _ y hy
  ·exact hn y hy
 |succ k=>
  rw[Mk]at hy;simp only[eN,aE,eQ,or_false]at hy;rcases hy with(rfl|hy)|hy|hy
  ·omega
  ·exact hn y hy
  ·exact Fg (by have:=Hl (k:=k) (x:=x-2^k) h;omega) (Wb h) y hy
  ·exact Fg (by have:=Hl (k:=k) (x:=x+2^k) h;omega) (Wb h) y hy
structure PieceCov (F:Int→Option NodeD) (H:Int→Option (List Nat)):Prop where
 even:∀(x:Nat) d,F (x:Int)=some d→x%2=0→d.kind≠2
 odd:∀(x:Nat) d,F (x:Int)=some d→x%2=1→d.kind≠1
 kids:∀(k x:Nat) d,F (x:Int)=some d→IsLev x (k+1)→x≤131070→Zdj F H (x-2^k)∧Zdj F H (x+2^k)
end
end
open Go.Maps
end Go.Proofs.YtfofaiommeckbaaGreat
namespace Go.Proofs.YtfofaiommeckbaaGreat
open Go.RowKit WalkM WireM
theorem Rs {s:SparseD} {only:Bool}(h:Aj s only=true):PieceCov (Ah s.op) (Ap s.sh):=by
 unfold Aj at h;simp only[cC]at h;obtain⟨⟨⟨⟨hf,ho⟩,hop⟩,hsh⟩,⟨hk,hv1⟩,hv2⟩:=h;have hv1:=of_decide_eq_true hv1;have hv2:=of_decide_eq_true hv2;simp only[Ka]at hv1 hv2;generalize Ac (Ah s.op) (Nat.log2 s.leaves.toNat) s.own.toNat only (Nat.log2 s.leaves.toNat)=out at hv1 hv2;have m1:∀y:Int,y∈out↔(Ah s.op y).isSome=true:=fun y=>by
  rw[←Ky,hv1];exact((dH _ _).mem_iff).symm
 have m2:∀y:Int,y∈Cv out↔(Ap s.sh y).isSome=true:=fun y=>by
  rw[←Fv,hv2];exact((dH _ _).mem_iff).symm
 have key:∀(x y:Nat),(x:Int)∈out→((y:Int)∈Hu out (x:Int)∨(y:Int)∈out)→Zdj (Ah s.op) (Ap s.sh) y:=by
  intro x y hx hy;rcases hy with hy|hy
  ·right
   have hs:(y:Int)∈Cv out:=List.mem_flatMap.2 ⟨_,hx,hy⟩;rw[m2]at hs;obtain⟨L,hL⟩:=Option.isSome_iff_exists.1 hs;have:=of_decide_eq_true (List.all_eq_true.1 hsh _ (Ri hL));unfold Fs;rw[hL];exact this
  ·left
   exact(m1 _).1 hy
 refine⟨fun x d hF he hk2=> ?_,fun x d hF he hk1=> ?_,fun k x d hF hl hx=> ?_⟩
 ·exact(Kc (List.all_eq_true.1 hop _ (Bu hF))).2.2.1 ⟨by show(x:Int)%2=0;omega,hk2⟩
 ·exact(Kc (List.all_eq_true.1 hop _ (Bu hF))).2.2.2.1 ⟨by show(x:Int)%2=1;omega,hk1⟩
 ·obtain⟨kl,kr,lvl,lvr,kx⟩:=kids_lev hx hl;have hxo:(x:Int)∈out:=(m1 _).2 (by rw[hF];rfl);refine⟨key x _ hxo ?_,key x _ hxo ?_⟩
  ·by_cases hm:((x-2^k:Nat):Int)∈out
   ·exact .inr hm
   ·left
    unfold Hu;rw[eN]
    left
    rw[kl,if_pos ⟨gJ _,hm⟩];exact List.mem_singleton.2 rfl
  ·by_cases hm:((x+2^k:Nat):Int)∈out
   ·exact .inr hm
   ·left
    unfold Hu;rw[eN]
    right
    rw[kr,if_pos ⟨gJ _,hm⟩];exact List.mem_singleton.2 rfl
open Go.Maps ShaM
end Go.Proofs.YtfofaiommeckbaaGreat
namespace Go.Proofs.YtfofaiommeckbaaGreat
open Go.RowKit Go.Maps WalkM WireM
section
section
variable {F:Int→Option NodeD} {k x:Nat} {d:NodeD}
end
end
theorem Zfs {x:Nat}(h:x≤131070):x+2^lev x≤131071:=by
 have hx:=lev_is h;have hl:=lev_le h;generalize lev x=l at hx hl;unfold IsLev at hx;have e:2^17=2^(l+1)*2^(16-l):=(by rw[←Nat.pow_add];congr 1;omega);have hdm:=Nat.div_add_mod x (2^(l+1));have e17:(2:Nat)^17=131072:=rfl;have hq:x/2^(l+1)<2^(16-l):=Nat.div_lt_of_lt_mul (by rw[←e];omega);have hm:2^(l+1)*(x/2^(l+1)+1)≤2^(l+1)*2^(16-l):=Nat.mul_le_mul_left _ hq;rw[←e,Nat.mul_add,Nat.mul_one]at hm;have e2:2^(l+1)=2*2^l:=(by rw[Nat.pow_succ];omega);have hp:=Nat.two_pow_pos l;omega
theorem Xp {s:SparseD} {only:Bool}(h:Aj s only=true) {x:Int} {d:NodeD}(hF:Ah s.op x=some d):∃n:Nat,x=(n:Int)∧n≤131070:=by
 unfold Aj at h;simp only[cC]at h;obtain⟨⟨⟨⟨hf,ho⟩,hop⟩,hsh⟩,-⟩:=h;obtain⟨h1,h2⟩:=(Kc (List.all_eq_true.1 hop _ (Bu hF))).1;have h1:0≤x:=h1;have h2:x≤2*s.leaves-2:=h2;obtain⟨d,hd,e⟩:=(fits_iff _).1 hf;have hnd:2^d≤65536:=Nat.le_trans (Nat.pow_le_pow_right (by omega) hd) (by decide);exact⟨x.toNat,by omega,by omega⟩
open ShaM
def Ke (s:SparseD)(x:Int):List Nat:=if(Ah s.op x).isSome=true then Gl (Ah s.op) (Ap s.sh) (lev x.toNat) x.toNat else(Ap s.sh x).getD []
def Fe (s:SparseD)(x:Int):Bool:=(Ah s.op x).isSome||(Ap s.sh x).isSome
end Go.Proofs.YtfofaiommeckbaaGreat
namespace Go.Proofs.YtfofaiommeckbaaGreat
open Go.RowKit WalkM ShaM WireM
def Zbg (l:List (Int×NodeD))(h:List (Int×List Nat))(k:Nat):Prop:=
 ∀(x:Nat) (lv ow:Int) (o v:Value) (w:World),IsLev x k→x+2^k≤131071→SpotsR w o l→StubsR w v h→
  Calls Tryz.prog 105 #[.agg #[.int .i64 lv,.int .i64 ow,o,v],.int .i64 (x:Nat)] w fun e w'=>∃u,e=.returned u∧Rd w' u (bvs (Gl (Ah l) (Ap h) k x))∧Below w.heap.size w w'
def Zee (l:List (Int×NodeD))(h:List (Int×List Nat))(k:Nat):Prop:=
 ∀(x:Nat) (d:NodeD) (lv ow:Int) (o v:Value) (w:World),Ah l (x:Int)=some d→IsLev x k→x+2^k≤131071→SpotsR w o l→StubsR w v h→
  Calls Tryz.prog 87 #[.agg #[.int .i64 lv,.int .i64 ow,o,v],.int .i64 (x:Nat)] w fun e w'=>∃u,e=.returned u∧Rd w' u (bvs (Zdi (Ah l) (Ap h) k x d))∧Below w.heap.size w w'
theorem Rt (l:List (Int×NodeD))(h:List (Int×List Nat))(hP:PieceOk (Ah l) (Ap h))(k:Nat)(TXT:Zee l h k):Zbg l h k:=by
 intro x lv ow o v w hl hx ho hst;have FIND:=fun(W:World) (hw:Below w.heap.size w W)=>Bx o l (x:Int) W (ho.below hw lR);have STUB:=fun(W:World) (hw:Below w.heap.size w W)=>Nv lv ow o v h (x:Int) W (hst.below hw lR);have TX:=fun(d:NodeD) (e:Ah l (x:Int)=some d) (W:World) (hw:Below w.heap.size w W)=>TXT x d lv ow o v W e hl hx (ho.below hw lR) (hst.below hw lR);have PN:=fun(e:Ah l (x:Int)=none)=>Jq (H:=Ap h) (k:=k) e;have PS:=fun(d:NodeD) (e:Ah l (x:Int)=some d)=>Jr (H:=Ap h) (k:=k) e;have TL:=fun(d:NodeD) (e:Ah l (x:Int)=some d)=>Zdk (k:=k) hP e;have TB:=fun(d:NodeD) (e:Ah l (x:Int)=some d)=>Zfr (k:=k) hP e;have SE:Fs (Ap h) x=(Ap h (x:Int)).getD []:=rfl;rw[←SE]at STUB;obtain⟨L,hL⟩:=eX (Fs (Ap h) x);rw[←hL]at STUB PN;obtain⟨R,hR⟩:=eX (Ah l (x:Int));simp only[←hR]at FIND PN PS TL TB TX;have HSTUB:=Hd STUB;have HTX:=Hd TX;have HPN:=Hd PN;have HPS:=Hd PS;have HTL:=Hd TL;have HTB:=Hd TB;obtain⟨p,hp⟩:=eX w.heap.size;have HP:=Hd hp;have HF:=Hd (FIND _ ((Below.refl w.heap.size w).alloc lR (.cells #[.int .i64 lv,.int .i64 ow,o,v] 25)));have HBR:=Hd (show Blk (w.alloc (.cells #[.int .i64 lv,.int .i64 ow,o,v] 25)) w.heap.size 25 #[.int .i64 lv,.int .i64 ow,o,v]from Blk.new _ _ _);have HB1:=Hd ((Below.refl w.heap.size w).alloc lR (.cells #[.int .i64 lv,.int .i64 ow,o,v] 25));have p2:=(HBR.out).cell 2;simp only[bN,bO,bP]at p2;clear FIND hp PN PS TL TB TX STUB SE hL hR hx hl ho hst;go_enter Tryz.func105,Tryz.ntmps105;go_wp2_with fail;refine HF.out.mono ?_;rintro e w2 ⟨c,rfl,hnc,hb2⟩;have HONE:=Hd hnc.oneL;obtain⟨c0,c1,c2,c3,c4,c5,c6,c7,c8,c9,rfl⟩:=hnc.ten;have HNC:=Hd hnc;have HR2:=Hd (HBR.out.below hb2 HBR.out.lt);have HB2:=Hd (HB1.out.trans (hb2.mono HB1.out.size));rw[←HP.out]at HR2⊢;obtain⟨q,hq⟩:=eX w2.heap.size;have HQ:=Hd hq;obtain⟨is,his⟩:=eX R.isSome;rw[←his];have HIS:=Hd his;clear hnc hb2 p2 hq his;go_wp2_with (refine Ab rfl 52 (.tmp 5) (.tmp 12) rfl w2.heap.size #[c0,c1,c2,c3,c4,c5,c6,c7,c8,c9] rfl rfl 52 #[.int .u8 0,.slice none 0 0,.slice none 0 0,.slice none 0 0,.int .u8 0,.slice none 0 0,.slice none 0 0,.slice none 0 0,.slice none 0 0,.slice none 0 0] (Blk.new _ _ _) (by kernel_rfl) rfl HONE.out ?_);rintro w3 hblk hbl hoth hsize;have HB3:=Hd ((HB2.out.alloc HB2.out.size (.cells #[.int .u8 0,.slice none 0 0,.slice none 0 0,.slice none 0 0,.int .u8 0,.slice none 0 0,.slice none 0 0,.slice none 0 0,.slice none 0 0,.slice none 0 0] 52)).trans ((hbl w2.heap.size lR).mono HB2.out.size));have HB23:=Hd (((Below.refl w2.heap.size w2).alloc lR (.cells #[.int .u8 0,.slice none 0 0,.slice none 0 0,.slice none 0 0,.int .u8 0,.slice none 0 0,.slice none 0 0,.slice none 0 0,.slice none 0 0,.slice none 0 0] 52)).trans (hbl w2.heap.size lR));have HR3:=Hd (HR2.out.below HB23.out HR2.out.lt);have HN3:=Hd (HNC.out.below HB23.out lR);rw[←HQ.out]at hblk⊢;have HK3:=Hd hblk;clear hblk hbl hoth hsize;have k0:=HR3.out.cell 0;have k1:=HR3.out.cell 1;have k2:=HR3.out.cell 2;have k3:=HR3.out.cell 3;simp only[bN,bO,bP]at k0 k1 k2 k3;cases is with
 |false=>
  have hN:R=none:=by have:=HIS.out;cases R with
   |none=>rfl
   |some d=>cases this
  have HPQ:=Hd (HPN.out hN);clear hN;go_wp2_with fail;refine(HSTUB.out _ HB3.out).mono ?_;rintro e w4 ⟨u,rfl,hru,hb4⟩;have HRU:=Hd hru;have HB4:=Hd (HB3.out.trans (hb4.mono HB3.out.size));clear hru hb4;go_wp2_with fail;go_ret;exact⟨_,rfl,by rw[HPQ.out];exact HRU.out,HB4.out⟩
 |true=>
  obtain⟨d,rfl⟩:=Option.isSome_iff_exists.1 HIS.out.symm;have HTX2:=Hd (HTX.out d rfl);have HPQ:=Hd (HPS.out d rfl);have HTL2:=Hd (Nat.le_trans (HTL.out d rfl) (show 8000≤1000000 by omega));have HTB2:=Hd (HTB.out d rfl);go_wp2_with fail;refine(HTX2.out _ HB3.out).mono ?_;rintro e w4 ⟨u,rfl,hru,hb4⟩;have HRU:=Hd hru;have HB4:=Hd (HB3.out.trans (hb4.mono HB3.out.size));clear hru hb4 k0 k1 k2 k3;go_wp2_with fail;refine(Ny u _ w4 HRU.out HTB2.out HTL2.out).mono ?_;rintro e w5 ⟨u5,rfl,ho5,hb5⟩;have HO5:=Hd ho5.rd;have HB5:=Hd (HB4.out.trans (hb5.mono HB4.out.size));clear ho5 hb5;go_wp2_with fail;go_ret;exact⟨_,rfl,by rw[HPQ.out];exact HO5.out,HB5.out⟩
theorem Ml (l:List (Int×NodeD))(h:List (Int×List Nat))(hP:PieceOk (Ah l) (Ap h))(k:Nat)(IH:∀j,k=j+1→Zbg l h j):Zee l h k:=by
 intro x d lv ow o v w hF hl hx ho hst;have FIND:=fun(W:World) (hw:Below w.heap.size w W)=>Bx o l (x:Int) W (ho.below hw lR);have KD:=fun(W:World) (hw:Below w.heap.size w W)=>(show SpotsR W o l∧StubsR W v h from⟨ho.below hw lR,hst.below hw lR⟩);obtain⟨hok,hsm,hr⟩:=hP.ok _ _ hF;obtain⟨R,hR⟩:=eX (Ah l (x:Int));rw[←hR]at FIND;have hRd:R=some d:=hR.trans hF;have HRD:=Hd hRd;have HKD:=Hd KD;have HX:=Hd hx;have HLV:=Hd hl;have HOK:=Hd hok;have HSM:=Hd hsm;have HRR:=Hd hr;obtain⟨p,hp⟩:=eX w.heap.size;have HP:=Hd hp;have HF:=Hd (FIND _ ((Below.refl w.heap.size w).alloc lR (.cells #[.int .i64 lv,.int .i64 ow,o,v] 25)));have HBR:=Hd (show Blk (w.alloc (.cells #[.int .i64 lv,.int .i64 ow,o,v] 25)) w.heap.size 25 #[.int .i64 lv,.int .i64 ow,o,v]from Blk.new _ _ _);have HB1:=Hd ((Below.refl w.heap.size w).alloc lR (.cells #[.int .i64 lv,.int .i64 ow,o,v] 25));have p2:=(HBR.out).cell 2;simp only[bN,bO,bP]at p2;clear FIND hp KD hR hRd hF hok hsm hr hx hl ho hst;go_enter Tryz.func87,Tryz.ntmps87;go_wp2_with fail;refine HF.out.mono ?_;rintro e w2 ⟨c,rfl,hnc,hb2⟩;have HONE:=Hd hnc.oneL;obtain⟨c0,c1,c2,c3,c4,c5,c6,c7,c8,c9,rfl⟩:=hnc.ten;have HNC:=Hd hnc;have HR2:=Hd (HBR.out.below hb2 HBR.out.lt);have HB2:=Hd (HB1.out.trans (hb2.mono HB1.out.size));rw[←HP.out]at HR2⊢;obtain⟨q,hq⟩:=eX w2.heap.size;have HQ:=Hd hq;obtain⟨is,his⟩:=eX R.isSome;rw[←his];have HIS:=Hd his;clear hnc hb2 p2 hq his;go_wp2_with (refine Ab rfl 52 (.tmp 5) (.tmp 14) rfl w2.heap.size #[c0,c1,c2,c3,c4,c5,c6,c7,c8,c9] rfl rfl 52 #[.int .u8 0,.slice none 0 0,.slice none 0 0,.slice none 0 0,.int .u8 0,.slice none 0 0,.slice none 0 0,.slice none 0 0,.slice none 0 0,.slice none 0 0] (Blk.new _ _ _) (by kernel_rfl) rfl HONE.out ?_);rintro w3 hblk hbl hoth hsize;have HB3:=Hd ((HB2.out.alloc HB2.out.size (.cells #[.int .u8 0,.slice none 0 0,.slice none 0 0,.slice none 0 0,.int .u8 0,.slice none 0 0,.slice none 0 0,.slice none 0 0,.slice none 0 0,.slice none 0 0] 52)).trans ((hbl w2.heap.size lR).mono HB2.out.size));have HB23:=Hd (((Below.refl w2.heap.size w2).alloc lR (.cells #[.int .u8 0,.slice none 0 0,.slice none 0 0,.slice none 0 0,.int .u8 0,.slice none 0 0,.slice none 0 0,.slice none 0 0,.slice none 0 0,.slice none 0 0] 52)).trans (hbl w2.heap.size lR));have HR3:=Hd (HR2.out.below HB23.out HR2.out.lt);have HN3:=Hd (HNC.out.below HB23.out lR);rw[←HQ.out]at hblk⊢;have HK3:=Hd hblk;clear hblk hbl hoth hsize;have hn3:NodeC w3 d #[c0,c1,c2,c3,c4,c5,c6,c7,c8,c9]:=(by have:=HN3.out;rw[HRD.out]at this;exact this);have HBY:=Hd fun(W:World) (hw:Below w3.heap.size w3 W)=>Fm d _ W (hn3.below hw lR) HOK.out HSM.out fun _ u hu=>Dt (Bn HRR.out) u hu;have HNL:=Hd (Cy HSM.out);obtain⟨NB,hNB⟩:=eX (Bd d);have HNB:=Hd hNB;rw[←hNB]at HBY HNL;clear hn3 hNB;cases k with
 |zero=>
  have heven:x%2=0:=Fb HLV.out;have hmod:eV (x:Int) 2=0:=(by rw[eW (by omega)];omega);have hmodE:(x:Int)%2=0:=(by omega);have hxb:=HX.out;obtain⟨m,hm0⟩:=eX (x/2);have hq:(x:Int)/2=(m:Int):=(by omega);have hq2:Int.tdiv (x:Int) 2=(m:Int):=(by rw[Int.tdiv_eq_ediv_of_nonneg (by omega)];omega);have hmb:m≤65536:=(by omega);have hwm:wrap64 ((m:Nat):Int)=(m:Int):=(by unfold wrap64;omega);have hwi:IntKind.i64.wrap ((m:Nat):Int)=(m:Int):=(by rw[IntKind.wrap_i64];omega);have hwu:IntKind.u64.wrap ((m:Nat):Int)=(m:Int):=(by rw[IntKind.wrap_u64];omega);have TE:=Mj (F:=Ah l) (H:=Ap h) (x:=x) (d:=d);rw[←hm0,←HNB.out]at TE;have HTE:=Hd TE;have HNUM:=Hd (fun(W:World)=>(show Calls Tryz.prog 64 #[.int .i64 4,.int .u64 (m:Nat)] W fun e w'=>∃v,e=.returned v∧Own w' W.heap.size 5 v (bvs (beN 4 m))∧Below W.heap.size W w' from Kn 4 m W (by omega) (by omega)));have HBL:=Hd (beN_len 4 m);clear heven hm0 hxb TE hmb;go_wp2_with fail;refine Dg [fun u w'=>Rd w' u (bvs [1]),eF (.int .i64 (x:Nat)),eF (.int .i64 (m:Nat)),eF (.int .u64 (m:Nat)),fun u w'=>Rd w' u (bvs (beN 4 m)),fun u w'=>Rd w' u (bvs ([1]++beN 4 m)),eF (.agg #[c0,c1,c2,c3,c4,c5,c6,c7,c8,c9]),fun u w'=>Rd w' u (bvs NB),fun u w'=>Rd w' u (bvs (([1]++beN 4 m)++NB)),fun u w'=>Rd w' u (bvs (([1]++beN 4 m)++NB))] (by kernel_rfl) (by kernel_rfl) (by kernel_rfl)
   (bX (fun v x y h hb=>Rd.below h hb lR) (kE (kE (kE (bX (fun v x y h hb=>Rd.below h hb lR) (bX (fun v x y h hb=>Rd.below h hb lR) (kE (bX (fun v x y h hb=>Rd.below h hb lR) (bX (fun v x y h hb=>Rd.below h hb lR) (bX (fun v x y h hb=>Rd.below h hb lR) (Ai))))))))))) ?_ ?_
  ·refine gB ?_ (gQ ?_ (gQ ?_ (gQ ?_ (gB ?_ (gB ?_ (gB ?_ (gB ?_ (gB ?_ (gB ?_ .nil)))))))));all_goals
    intro a wx hbx ha hf;refine⟨rfl,?_⟩;intro K hK;try have Pf1:a.tmps[1]?.getD undef=.int .i64 (x:Nat):=ha 1 (by kernel_rfl)
    try have Pf5:a.tmps[5]?.getD undef=.pointer (some ⟨q,0,none⟩):=ha 5 (by kernel_rfl)
    try have Ef0:=eqn hf.1
    try have Ef1:=eqn hf.2.1
    try(refine Hd ?_;go_simp;exact hK _ rfl)
   ·go_simp;exact hK _ _ (Blk.rdV (cs:=[.int .u8 1]) (Blk.new _ _ _) (by unfold maxLen;simp)) (bR.alloc lR _)
   ·go_simp;refine(HNUM.out wx).mono ?_;rintro e w7 ⟨u,rfl,hu,hb7⟩;exact hK _ _ hu.rd hb7
   ·have o1:Rd wx (a.tmps[19]?.getD undef) (bvs [1]):=hf.1;have o2:Rd wx (a.tmps[23]?.getD undef) (bvs (beN 4 m)):=hf.2.1;obtain⟨v1,hv1⟩:=eX (a.tmps[19]?.getD undef);obtain⟨v2,hv2⟩:=eX (a.tmps[23]?.getD undef);rw[←hv1]at o1;rw[←hv2]at o2;have e1:=hv1.symm;have e2:=hv2.symm;clear hv1 hv2;go_simp;refine(Ft v1 v2 [1] (beN 4 m) wx o1 o2 (by have:=HBL.out;simp only[cR,bL];omega)).mono ?_;rintro e w7 ⟨u,rfl,hu,hb7⟩;exact hK _ _ hu.rd hb7
   ·exact wp_load_row 52 (.tmp 5) rfl _ (evs Pf5) _ _ (0,0) _ (HK3.out.below hbx HK3.out.lt) Tryz.underlying52 rfl (by kernel_rfl) (hK _ _ rfl bR)
   ·go_simp;refine(HBY.out wx hbx).mono ?_;rintro e w7 ⟨u,rfl,hu,hb7⟩;exact hK _ _ hu.rd hb7
   ·have o1:Rd wx (a.tmps[24]?.getD undef) (bvs ([1]++beN 4 m)):=hf.1;have o2:Rd wx (a.tmps[26]?.getD undef) (bvs NB):=hf.2.1;obtain⟨v1,hv1⟩:=eX (a.tmps[24]?.getD undef);obtain⟨v2,hv2⟩:=eX (a.tmps[26]?.getD undef);rw[←hv1]at o1;rw[←hv2]at o2;have e1:=hv1.symm;have e2:=hv2.symm;clear hv1 hv2;go_simp;refine(Ft v1 v2 ([1]++beN 4 m) NB wx o1 o2 (by have:=HBL.out;have:=HNL.out;simp only[aG,cR,bL];omega)).mono ?_;rintro e w7 ⟨u,rfl,hu,hb7⟩;exact hK _ _ hu.rd hb7
   ·have o0:Rd wx (a.tmps[27]?.getD undef) (bvs (([1]++beN 4 m)++NB)):=hf.1;obtain⟨v1,hv1⟩:=eX (a.tmps[27]?.getD undef);rw[←hv1]at o0;have e1:=hv1.symm;clear hv1;go_simp;exact hK _ _ o0 bR
  ·rintro f w9 hb9 hfin;have S4:Rd w9 (f 4) (bvs (([1]++beN 4 m)++NB)):=hfin.2.2.2.2.2.2.2.2.2.1;clear hfin;simp only[Al,Au,En,cS,cT,cU,cV,Nat.reduceBEq,Nat.reduceAdd,cW,cX,cond_true,cond_false];obtain⟨u,hu⟩:=eX (f 4);rw[←hu]at S4⊢;have HS4:=Hd S4;have HB9:=Hd (HB3.out.trans (hb9.mono HB3.out.size));clear S4 hu hb9;go_wp2_with fail;go_ret;exact⟨_,rfl,by rw[HTE.out];exact HS4.out,HB9.out⟩
 |succ j=>
  have hodd:x%2=1:=He HLV.out;have hmod:eV (x:Int) 2=1:=(by rw[eW (by omega)];omega);have hmodE:(x:Int)%2=1:=(by omega);have hjp:=Nat.two_pow_pos j;have ek2:2^(j+1)=2*2^j:=(by rw[Nat.pow_succ];omega);have hX:=HX.out;have hx131:x≤131070:=(by omega);obtain⟨kl,kr,lvl,lvr,kx⟩:=kids_lev hx131 HLV.out;have KI:=fun(W:World)=>Fa (x:Int) W;rw[kl,kr]at KI;have TE:=Mk (F:=Ah l) (H:=Ap h) (k:=j) (x:=x) (d:=d);have I1:=fun(W:World) (hw:Below w.heap.size w W)=>IH j rfl (x-2^j) lv ow o v W lvl (by omega) (HKD.out W hw).1 (HKD.out W hw).2;have I2:=fun(W:World) (hw:Below w.heap.size w W)=>IH j rfl (x+2^j) lv ow o v W lvr (by omega) (HKD.out W hw).1 (HKD.out W hw).2;have l1:=Hl (k:=j) (x:=x-2^j) hP;have l2:=Hl (k:=j) (x:=x+2^j) hP;obtain⟨H1,hH1⟩:=eX (Gl (Ah l) (Ap h) j (x-2^j));obtain⟨H2,hH2⟩:=eX (Gl (Ah l) (Ap h) j (x+2^j));rw[←hH1]at I1 l1 TE;rw[←hH2]at I2 l2 TE;rw[←HNB.out]at TE;have v1l:=Ax H1 (by omega);have v2l:=Ax H2 (by omega);obtain⟨xl,hxl⟩:=eX (x-2^j);obtain⟨xr,hxr⟩:=eX (x+2^j);rw[←hxl]at I1 KI;rw[←hxr]at I2 KI;have HV1:=Hd (fun(u:Value) (W:World) (hr:Rd W u (bvs H1))=>Db u H1 W hr (by omega));have HV2:=Hd (fun(u:Value) (W:World) (hr:Rd W u (bvs H2))=>Db u H2 W hr (by omega));obtain⟨V1,hV1⟩:=eX (As H1);obtain⟨V2,hV2⟩:=eX (As H2);rw[←hV1]at HV1 TE v1l;rw[←hV2]at HV2 TE v2l;have HLL:=Hd (show V1.length≤100∧V2.length≤100 by omega);have HI1:=Hd I1;have HI2:=Hd I2;have HKI:=Hd KI;have HTE:=Hd TE;clear I1 I2 KI TE kl kr lvl lvr kx hH1 hH2 hV1 hV2 hxl hxr hX hx131 hodd ek2 hjp l1 l2 v1l v2l;go_wp2_with fail;refine(HKI.out _).mono ?_;rintro e w6 ⟨rfl,hb6⟩;have HB36:=Hd hb6;have HB6:=Hd (HB3.out.trans (hb6.mono HB3.out.size));have HR6:=Hd (HR3.out.below hb6 HR3.out.lt);have HK6:=Hd (HK3.out.below hb6 HK3.out.lt);clear hb6;go_wp2_with fail;refine Dg [fun u w'=>Rd w' u (bvs [2]),eF (.agg #[c0,c1,c2,c3,c4,c5,c6,c7,c8,c9]),fun u w'=>Rd w' u (bvs NB),fun u w'=>Rd w' u (bvs ([2]++NB)),eF (.agg #[.int .i64 lv,.int .i64 ow,o,v]),eF (.int .i64 (xl:Nat)),fun u w'=>Rd w' u (bvs H1),fun u w'=>Rd w' u (bvs V1),eF (.agg #[.int .i64 lv,.int .i64 ow,o,v]),eF (.int .i64 (xr:Nat)),fun u w'=>Rd w' u (bvs H2),fun u w'=>Rd w' u (bvs V2),fun u w'=>Rd w' u (bvs (V1++V2)),fun u w'=>Rd w' u (bvs (([2]++NB)++(V1++V2))),fun u w'=>Rd w' u (bvs (([2]++NB)++(V1++V2)))] (by kernel_rfl) (by kernel_rfl) (by kernel_rfl)
   (bX (fun v x y h hb=>Rd.below h hb lR) (kE (bX (fun v x y h hb=>Rd.below h hb lR) (bX (fun v x y h hb=>Rd.below h hb lR) (kE (kE (bX (fun v x y h hb=>Rd.below h hb lR) (bX (fun v x y h hb=>Rd.below h hb lR) (kE (kE (bX (fun v x y h hb=>Rd.below h hb lR) (bX (fun v x y h hb=>Rd.below h hb lR) (bX (fun v x y h hb=>Rd.below h hb lR) (bX (fun v x y h hb=>Rd.below h hb lR) (bX (fun v x y h hb=>Rd.below h hb lR) (Ai)))))))))))))))) ?_ ?_
  ·refine gB ?_ (gB ?_ (gB ?_ (gB ?_ (gB ?_ (gQ ?_ (gB ?_ (gB ?_ (gB ?_ (gQ ?_ (gB ?_ (gB ?_ (gB ?_ (gB ?_ (gB ?_ .nil))))))))))))));all_goals
    intro a wx hbx ha hf;refine⟨rfl,?_⟩;intro K hK;try have Pf2:a.tmps[2]?.getD undef=.pointer (some ⟨p,0,none⟩):=ha 2 (by kernel_rfl)
    try have Pf5:a.tmps[5]?.getD undef=.pointer (some ⟨q,0,none⟩):=ha 5 (by kernel_rfl)
    try have Pf7:a.tmps[7]?.getD undef=.int .i64 (xl:Nat):=ha 7 (by kernel_rfl)
    try have Pf8:a.tmps[8]?.getD undef=.int .i64 (xr:Nat):=ha 8 (by kernel_rfl)
    try have Ef0:=eqn hf.1
    try have Ef1:=eqn hf.2.1
    try(refine Hd ?_;go_simp;exact hK _ rfl)
   ·go_simp;exact hK _ _ (Blk.rdV (cs:=[.int .u8 2]) (Blk.new _ _ _) (by unfold maxLen;simp)) (bR.alloc lR _)
   ·exact wp_load_row 52 (.tmp 5) rfl _ (evs Pf5) _ _ (0,0) _ (HK6.out.below hbx HK6.out.lt) Tryz.underlying52 rfl (by kernel_rfl) (hK _ _ rfl bR)
   ·go_simp;refine(HBY.out wx (HB36.out.trans (hbx.mono HB36.out.size))).mono ?_;rintro e w7 ⟨u,rfl,hu,hb7⟩;exact hK _ _ hu.rd hb7
   ·have o1:Rd wx (a.tmps[33]?.getD undef) (bvs [2]):=hf.1;have o2:Rd wx (a.tmps[35]?.getD undef) (bvs NB):=hf.2.1;obtain⟨v1,hv1⟩:=eX (a.tmps[33]?.getD undef);obtain⟨v2,hv2⟩:=eX (a.tmps[35]?.getD undef);rw[←hv1]at o1;rw[←hv2]at o2;have e1:=hv1.symm;have e2:=hv2.symm;clear hv1 hv2;go_simp;refine(Ft v1 v2 [2] NB wx o1 o2 (by have:=HNL.out;simp only[cR,bL];omega)).mono ?_;rintro e w7 ⟨u,rfl,hu,hb7⟩;exact hK _ _ hu.rd hb7
   ·exact wp_load_row 25 (.tmp 2) rfl _ (evs Pf2) _ _ (0,0) _ (HR6.out.below hbx HR6.out.lt) Tryz.underlying25 rfl (by kernel_rfl) (hK _ _ rfl bR)
   ·go_simp;refine(HI1.out wx (HB6.out.trans (hbx.mono HB6.out.size))).mono ?_;rintro e w7 ⟨u,rfl,hu,hb7⟩;exact hK _ _ hu hb7
   ·have o1:Rd wx (a.tmps[39]?.getD undef) (bvs H1):=hf.1;obtain⟨v1,hv1⟩:=eX (a.tmps[39]?.getD undef);rw[←hv1]at o1;have e1:=hv1.symm;clear hv1;go_simp;refine(HV1.out v1 wx o1).mono ?_;rintro e w7 ⟨u,rfl,hu,hb7⟩;exact hK _ _ hu.rd hb7
   ·exact wp_load_row 25 (.tmp 2) rfl _ (evs Pf2) _ _ (0,0) _ (HR6.out.below hbx HR6.out.lt) Tryz.underlying25 rfl (by kernel_rfl) (hK _ _ rfl bR)
   ·go_simp;refine(HI2.out wx (HB6.out.trans (hbx.mono HB6.out.size))).mono ?_;rintro e w7 ⟨u,rfl,hu,hb7⟩;exact hK _ _ hu hb7
   ·have o1:Rd wx (a.tmps[43]?.getD undef) (bvs H2):=hf.1;obtain⟨v1,hv1⟩:=eX (a.tmps[43]?.getD undef);rw[←hv1]at o1;have e1:=hv1.symm;clear hv1;go_simp;refine(HV2.out v1 wx o1).mono ?_;rintro e w7 ⟨u,rfl,hu,hb7⟩;exact hK _ _ hu.rd hb7
   ·have o1:Rd wx (a.tmps[40]?.getD undef) (bvs V1):=hf.1;have o2:Rd wx (a.tmps[44]?.getD undef) (bvs V2):=hf.2.1;obtain⟨v1,hv1⟩:=eX (a.tmps[40]?.getD undef);obtain⟨v2,hv2⟩:=eX (a.tmps[44]?.getD undef);rw[←hv1]at o1;rw[←hv2]at o2;have e1:=hv1.symm;have e2:=hv2.symm;clear hv1 hv2;go_simp;refine(Ft v1 v2 V1 V2 wx o1 o2 (by have:=HLL.out;omega)).mono ?_;rintro e w7 ⟨u,rfl,hu,hb7⟩;exact hK _ _ hu.rd hb7
   ·have o1:Rd wx (a.tmps[36]?.getD undef) (bvs ([2]++NB)):=hf.1;have o2:Rd wx (a.tmps[45]?.getD undef) (bvs (V1++V2)):=hf.2.1;obtain⟨v1,hv1⟩:=eX (a.tmps[36]?.getD undef);obtain⟨v2,hv2⟩:=eX (a.tmps[45]?.getD undef);rw[←hv1]at o1;rw[←hv2]at o2;have e1:=hv1.symm;have e2:=hv2.symm;clear hv1 hv2;go_simp;refine(Ft v1 v2 ([2]++NB) (V1++V2) wx o1 o2 (by have:=HLL.out;have:=HNL.out;simp only[aG,cR,bL];omega)).mono ?_;rintro e w7 ⟨u,rfl,hu,hb7⟩;exact hK _ _ hu.rd hb7
   ·have o0:Rd wx (a.tmps[46]?.getD undef) (bvs (([2]++NB)++(V1++V2))):=hf.1;obtain⟨v1,hv1⟩:=eX (a.tmps[46]?.getD undef);rw[←hv1]at o0;have e1:=hv1.symm;clear hv1;go_simp;exact hK _ _ o0 bR
  ·rintro f w9 hb9 hfin;have S4:Rd w9 (f 4) (bvs (([2]++NB)++(V1++V2))):=hfin.2.2.2.2.2.2.2.2.2.2.2.2.2.2.1;clear hfin;simp only[Al,Au,En,cS,cT,cU,cV,Nat.reduceBEq,Nat.reduceAdd,cW,cX,cond_true,cond_false];obtain⟨u,hu⟩:=eX (f 4);rw[←hu]at S4⊢;have HS4:=Hd S4;have HB9:=Hd (HB6.out.trans (hb9.mono HB6.out.size));clear S4 hu hb9;go_wp2_with fail;go_ret;exact⟨_,rfl,by rw[HTE.out];exact HS4.out,HB9.out⟩
theorem Xq (l:List (Int×NodeD))(h:List (Int×List Nat))(hP:PieceOk (Ah l) (Ap h)):∀k,Zbg l h k:=by
 intro k
 induction k with
 |zero=>exact Rt l h hP 0 (Ml l h hP 0 fun j e=>by cases e)
 |succ k ih=>exact Rt l h hP (k+1) (Ml l h hP (k+1) fun j e=>by cases e;exact ih)
end Go.Proofs.YtfofaiommeckbaaGreat
