/- Walks: slice's put: a node of a piece, and what is beneath it, behind bytes; by the level. -/
import Derived.Test.YtfofaiommeckbaaGreatZPatchMakesB
import Derived.Test.YtfofaiommeckbaaGreatZPatchMakes30
open Bool renaming and_eq_true → cC
open List renaming getElem_of_mem → eB, getElem?_toArray → bN, getElem?_cons_zero → bO, getElem?_cons_succ → bP
set_option linter.unusedVariables false
set_option maxRecDepth 100000
set_option maxHeartbeats 40000000
namespace Go.Proofs.YtfofaiommeckbaaGreat
open Go.RowKit WalkM WireM
theorem Za9 {w:World} {B:Nat} {e:TypeId} {v:Value} {xs:List Value}(h:Own w B e v xs) {g:Nat}(hg:w.heap.size≤g):v.ownBlock≠some g:=fun he=>absurd (Own.blockLt h he).1 (by omega)
theorem Blk.rdV {w:World} {g:Nat} {t:TypeId} {cs:List Value}(h:Blk w g t cs.toArray)(hl:cs.length≤maxLen):Rd w (.slice (some ⟨g,0,none⟩) cs.length cs.length) cs:=
 ⟨_,_,rfl,lR,hl,.inr ⟨g,0,rfl,fun j u hu=>by rw[h.cell,Nat.zero_add];simpa using hu⟩⟩
theorem StepO.trans {V:Value} {B:Nat} {a b c:World}(h:StepO V B a b)(k:StepO V B b c):StepO V B a c:=
 ⟨h.1.trans k.1,fun i hi hne=>(k.2 i (Nat.lt_of_lt_of_le hi h.1.size) hne).trans (h.2 i hi hne)⟩
theorem StepO.keep {V:Value} {B g:Nat} {a b:World} {t:TypeId} {cs:Array Value}(h:StepO V B a b)(k:Blk a g t cs)(hne:V.ownBlock≠some g):Blk b g t cs:=(h.2 g k.lt hne).trans k
theorem StepO.drew (V:Value)(B:Nat)(w:World):StepO V B w w.drew:=⟨⟨rfl,rfl,rfl,lR,fun _ _=>rfl⟩,fun _ _ _=>rfl⟩
open Go.Maps
theorem Ea (v:Value)(s:SparseD)(w:World)(h:SparseR w v s)(hok:SparseOk s)(hs:Bg s=true):
  Calls Tryz.prog 58 #[v] w fun e w'=>e=.returned (.bool (Aj s false))∧Below w.heap.size w w':=by
 have RO:=fun(W:World) (hw:Below w.heap.size w W)=>Tt v s W (h.below hw lR) hok hs;obtain⟨o,g,rfl,-,-⟩:=h;rw[←Zgh];obtain⟨PB,hPB⟩:=eX (Dm s);obtain⟨OK,hOK⟩:=eX (okS s);have HPB:=Hd hPB;have HOK:=Hd hOK;have HRO:Hid (∀W,Below w.heap.size w W→Calls Tryz.prog 88 #[.agg #[.int .i64 s.leaves,.int .i64 s.own,o,g]] W (Vt s W)):=RO;obtain⟨lv,hlv⟩:=eX s.leaves;obtain⟨ow,how⟩:=eX s.own;have HLV:=Hd hlv;have HOW:=Hd how;rw[←hlv,←how]at HRO⊢;rw[←hOK];have HBA:=Hd ((Below.refl w.heap.size w).alloc lR (.cells #[.int .i64 lv,.int .i64 ow,o,g] 25));clear RO hok hs hPB hOK hlv how;go_enter Tryz.func58,Tryz.ntmps58;go_wp2_with fail;refine(HRO.out _ HBA.out).mono ?_;rintro e w3 ⟨hb3,hp3⟩;have HB3:=Hd (HBA.out.trans (hb3.mono HBA.out.size));rw[←HPB.out,←HLV.out,←HOW.out,←HOK.out]at hp3;clear hb3;cases PB with
 |false=>
  rw[if_neg (by simp)]at hp3;obtain rfl:=hp3;go_wp2_with fail;go_ret;exact⟨rfl,HB3.out.alloc HB3.out.size _⟩
 |true=>
  rw[if_pos rfl]at hp3;obtain⟨ob,sb,rfl,-⟩:=hp3;go_wp2_with fail;go_ret;exact⟨rfl,HB3.out.alloc HB3.out.size _⟩
theorem Zba {d:Nat}(hd:d≤16):Oh ((2^d:Nat):Int)=((2^d-1:Nat):Int):=by
 have hf:fits (((2^d:Nat):Int)).toNat=true:=(by rw[Int.toNat_natCast];exact(fits_iff _).2 ⟨d,hd,rfl⟩);have:=Nat.two_pow_pos d;rw[Oh,if_pos hf];omega
theorem Gh {s:SparseD} {only:Bool}(h:Aj s only=true)(hok:SparseOk s)(hs:Bg s=true):
  PieceOk (Ah s.op) (Ap s.sh)∧∃d i:Nat,d≤16∧s.leaves=((2^d:Nat):Int)∧s.own=(i:Int)∧i<2^d∧Nat.log2 s.leaves.toNat=d∧s.own.toNat=i:=by
 unfold Aj at h;simp only[cC]at h;obtain⟨⟨⟨⟨hf,ho⟩,hop⟩,hsh⟩,-⟩:=h;have ho:=of_decide_eq_true ho;simp only[Bg,cC]at hs;refine⟨⟨fun x d hF=> ?_,fun x L hF=> ?_⟩,?_⟩
 ·have hm:=Bu hF;exact⟨(hok.op _ hm).2,List.all_eq_true.1 hs.1.2 _ hm,(Kc (List.all_eq_true.1 hop _ hm)).2.1⟩
 ·have hm:=Ri hF;exact⟨Nat.le_of_eq (of_decide_eq_true (List.all_eq_true.1 hsh _ hm)),(hok.sh _ hm).2⟩
 ·obtain⟨d,hd,e⟩:=(fits_iff _).1 hf;have hlv:s.leaves=((2^d:Nat):Int):=(by omega);exact⟨d,s.own.toNat,hd,hlv,by omega,by omega,by rw[hlv,Int.toNat_natCast,Nat.log2_two_pow],rfl⟩
end Go.Proofs.YtfofaiommeckbaaGreat
namespace Go.Proofs.YtfofaiommeckbaaGreat
open Go.RowKit WalkM WireM
def exS (s:SparseD):Bool:=decide (s.op.length≤60)&&decide (s.sh.length≤60)&&s.op.all (fun p=>exB p.2)&&s.sh.all fun p=>decide (p.2.length≤100)
theorem Rr {s:SparseD}(h:exS s=true):Bg s=true:=by
 rw[exS,cC,cC,cC]at h;obtain⟨⟨⟨h1,h2⟩,h3⟩,h4⟩:=h;have h1:=of_decide_eq_true h1;have h2:=of_decide_eq_true h2;rw[Bg,decide_eq_true (by omega:s.op.length≤5000),decide_eq_true (by omega:s.sh.length≤5000),h4,List.all_eq_true.2 fun p hp=>Qc (List.all_eq_true.1 h3 p hp)];rfl
theorem Zgz {s:SparseD}(h:¬s.op.length≤60):exS s=false:=by rw[exS,decide_eq_false h];rfl
theorem Zg0 {s:SparseD}(h:¬s.sh.length≤60):exS s=false:=by rw[exS,decide_eq_false h];simp
theorem Zgl {s:SparseD} {i:Nat}(hi:i<s.op.length)(h:exB (spt s.op i).2=false):exS s=false:=by
 have:(s.op.all fun p=>exB p.2)=false:=List.all_eq_false.2 ⟨_,Dy hi,by rw[h];simp⟩;rw[exS,this];simp
theorem Zgm {s:SparseD} {i:Nat}(hi:i<s.sh.length)(h:¬(stb s.sh i).2.length≤100):exS s=false:=by
 have:(s.sh.all fun p=>decide (p.2.length≤100))=false:=List.all_eq_false.2 ⟨_,Gs hi,by simpa using h⟩;rw[exS,this];simp
theorem Zfn {s:SparseD}(h1:s.op.length≤60)(h2:s.sh.length≤60)(h3:∀i,i<s.op.length→exB (spt s.op i).2=true)(h4:∀i,i<s.sh.length→(stb s.sh i).2.length≤100):exS s=true:=by
 have e3:(s.op.all fun p=>exB p.2)=true:=List.all_eq_true.2 fun p hp=>by
  obtain⟨i,hi,rfl⟩:=eB hp;have:=h3 i hi
  rwa [Hs hi]at this
 have e4:(s.sh.all fun p=>decide (p.2.length≤100))=true:=List.all_eq_true.2 fun p hp=>by
  obtain⟨i,hi,rfl⟩:=eB hp;have:=h4 i hi;rw[Ht hi]at this;exact decide_eq_true this
 rw[exS,decide_eq_true h1,decide_eq_true h2,e3,e4];rfl
theorem Mi (v:Value)(s:SparseD)(w:World)(h:SparseR w v s)(hok:SparseOk s):
  Calls Tryz.prog 16 #[v] w fun e w'=>e=.returned (.bool (exS s))∧Below w.heap.size w w':=by
 obtain⟨o,g,rfl,ho,hg⟩:=h;obtain⟨oa,oc,rfl,hoc,hoc2⟩:=ho.sl;obtain⟨ga,gc,rfl,hgc,hgc2⟩:=hg.sl;have HG1:=Hd fun(i:Nat) (hi:i<s.op.length)=>ho.at hi;have HG2:=Hd fun(i:Nat) (hi:i<s.sh.length)=>hg.at hi;have HNK:=Hd fun(i:Nat) (hi:i<s.op.length)=>(hok.op _ (Dy hi)).2;have H1:=Hd (Zgz (s:=s));have H2:=Hd (Zg0 (s:=s));have H3:=Hd fun i=>Zgl (s:=s) (i:=i);have H4:=Hd fun i=>Zgm (s:=s) (i:=i);have H5:=Hd (Zfn (s:=s));obtain⟨RES,hRES⟩:=eX (exS s);rw[←hRES]at H1 H2 H3 H4 H5⊢;obtain⟨lv,hlv⟩:=eX s.leaves;obtain⟨ow,how⟩:=eX s.own;obtain⟨n,hn⟩:=eX s.op.length;obtain⟨m,hm⟩:=eX s.sh.length;rw[←hlv,←how];rw[←hn]at H1 H3 H5 HG1 HNK hoc⊢;rw[←hm]at H2 H4 H5 HG2 hgc⊢;clear hRES hlv how hn hm ho hg hok;obtain⟨h,hh⟩:=eX w.heap.size;have HH:=Hd hh;obtain⟨w1,hw1⟩:=eX (w.alloc (.cells #[.int .i64 lv,.int .i64 ow,.slice oa n oc,.slice ga m gc] 25));have HWE:=Hd hw1;have HB1:=Hd (show Below w.heap.size w w1 by rw[hw1];exact bR.alloc lR _);have HBK:=Hd (show Blk w1 h 25 #[.int .i64 lv,.int .i64 ow,.slice oa n oc,.slice ga m gc] by rw[hw1,hh];exact Blk.new _ _ _);have c2:=HBK.out.cell 2;have c3:=HBK.out.cell 3;simp only[bN,bO,bP]at c2 c3;clear hw1
 by_cases hn60:n≤60
 ·have hn1:decide ((n:Int)>60)=false:=decide_eq_false (by omega)
  by_cases hm60:m≤60
  ·have hm1:decide ((m:Int)>60)=false:=decide_eq_false (by omega);go_enter Tryz.func16,Tryz.ntmps16;go_wp2_with fail;rw[←HWE.out,←hh];clear hh;go_wp2_with fail
   go_loopg [3] n (fun q iv wr=>∃r:Nat,r+q=n∧iv=.int .i64 (r:Nat)∧(∀i,i<r→exB (spt s.op i).2=true)∧Below w1.heap.size w1 wr)
   case atStart=>exact⟨0,by omega,rfl,fun i hi=>by omega,bR⟩
   case round=>
    obtain⟨r,hr,rfl,hall,hb⟩:=hrel;have HR:=Hd hr;have HALL:=Hd hall;have HB:=Hd hb;have HBK1:=Hd (HBK.out.below hb HBK.out.lt);have HW:=Hd (HB1.out.trans (hb.mono HB1.out.size));have d2:=HBK1.out.cell 2;have d3:=HBK1.out.cell 3;simp only[bN,bO,bP]at d2 d3;clear hr hall hb c2 c3
    by_cases hlt:r<n
    ·have hlt':decide (r<n)=true:=decide_eq_true hlt;have hltI:(r:Int)<(n:Int):=(by omega);obtain⟨b,off,c,rfl,hbl,hnc,hra⟩:=HG1.out r hlt;have HRA:=Hd (Af (Bv hra) HW.out hbl);have HSM:=Hd fun(W:World) (hw:Below w.heap.size w W)=>St (spt s.op r).2 c W (hnc.below hw lR);obtain⟨z0,z1,z2,z3,z4,z5,z6,z7,z8,z9,rfl⟩:=hnc.ten;have HBAD:=Hd (fun hp=>H3.out r hlt hp);obtain⟨sb,hsb⟩:=eX (exB (spt s.op r).2);rw[←hsb]at HSM HBAD;have HSB:=Hd hsb;clear hra hnc hsb;cases sb with
     |true=>
      go_wp2_with (refine wpList_load_mid rfl 52 (.tmp 26) rfl b (off+r*11+1) rfl [z0,z1,z2,z3,z4,z5,z6,z7,z8,z9] _ HRA.out Tryz.underlying52 rfl Ba ?_);refine(HSM.out _ HW.out).mono ?_;rintro e w2 ⟨rfl,hb2⟩;have HB2:=Hd (HB.out.trans (hb2.mono HB.out.size));clear hb2;go_wp2_with fail;go_roundg (gk-1);case measure=>have:=HR.out;omega
      case rel=>
       refine⟨r+1,by have:=HR.out;omega,by go_num,fun i hi=> ?_,HB2.out⟩
       by_cases e:i=r
       ·rw[e];exact HSB.out.symm
       ·exact HALL.out i (by omega)
     |false=>
      have HE:=Hd (HBAD.out rfl);go_wp2_with (refine wpList_load_mid rfl 52 (.tmp 26) rfl b (off+r*11+1) rfl [z0,z1,z2,z3,z4,z5,z6,z7,z8,z9] _ HRA.out Tryz.underlying52 rfl Ba ?_);refine(HSM.out _ HW.out).mono ?_;rintro e w2 ⟨rfl,hb2⟩;have HB2:=Hd (HW.out.trans (hb2.mono HW.out.size));clear hb2;go_wp2_with fail;go_ret;exact⟨Ek HE.out,HB2.out⟩
    ·obtain rfl:r=n:=(by have:=HR.out;omega);have hlt':decide (r<r)=false:=decide_eq_false hlt;obtain⟨wo,rfl⟩:∃wo:World,wo=wr:=⟨_,rfl⟩;clear hlt;go_wp2_with fail
     go_loopg [4] m (fun q iv W=>∃k:Nat,k+q=m∧iv=.int .i64 (k:Nat)∧(∀i,i<k→(stb s.sh i).2.length≤100)∧W=wo)
     case atStart=>exact⟨0,by omega,rfl,fun i hi=>by omega,rfl⟩
     case round=>
      obtain⟨k,hk,rfl,hst,rfl⟩:=hrel;have HK:=Hd hk;have HST:=Hd hst;clear hk hst
      by_cases hkm:k<m
      ·have hkm':decide (k<m)=true:=decide_eq_true hkm;have hkmI:(k:Int)<(m:Int):=(by omega);obtain⟨b,off,u,rfl,hbl,hru,hra⟩:=HG2.out k hkm;have cu:=(HW.out.cell (p:=⟨b,off+k*2+1,none⟩) hbl).trans (Bf (Bv hra));obtain⟨ua,uc,rfl⟩:∃a c,u=.slice a (stb s.sh k).2.length c:=(by obtain⟨a,c,e,_⟩:=hru;exact⟨a,c,by rw[e,bvs_len]⟩);have HSK:=Hd (H4.out k hkm);obtain⟨ul,hul⟩:=eX ((stb s.sh k).2.length);rw[←hul]at cu HSK;have HUL:=Hd hul;clear hul hru hra
       by_cases h100:ul≤100
       ·have h100':decide ((ul:Int)>100)=false:=decide_eq_false (by omega);have H100:=Hd h100;clear h100;go_wp2_with fail;go_roundg (gk-1);case measure=>have:=HK.out;omega
        case rel=>
         refine⟨k+1,by have:=HK.out;omega,by go_num,fun i hi=> ?_,rfl⟩
         by_cases e:i=k
         ·rw[e,←HUL.out];exact H100.out
         ·exact HST.out i (by omega)
       ·have h100':decide ((ul:Int)>100)=true:=decide_eq_true (by omega);have HE:=Hd (HSK.out h100);clear h100;go_wp2_with fail;go_ret;exact⟨Ek HE.out,HW.out⟩
      ·obtain rfl:k=m:=(by have:=HK.out;omega);have hkm':decide (k<k)=false:=decide_eq_false hkm;have HE:=Hd (H5.out hn60 hm60 HALL.out HST.out);clear hkm;go_wp2_with fail;go_ret;exact⟨Ek HE.out,HW.out⟩
  ·have hm1:decide ((m:Int)>60)=true:=decide_eq_true (by omega);have HE:=Hd (H2.out hm60);go_enter Tryz.func16,Tryz.ntmps16;go_wp2_with fail;rw[←HWE.out,←hh];go_wp2_with fail;go_ret;exact⟨Ek HE.out,by rw[HH.out];exact HB1.out⟩
 ·have hn1:decide ((n:Int)>60)=true:=decide_eq_true (by omega);have HE:=Hd (H1.out hn60);go_enter Tryz.func16,Tryz.ntmps16;go_wp2_with fail;rw[←HWE.out,←hh];go_wp2_with fail;go_ret;exact⟨Ek HE.out,by rw[HH.out];exact HB1.out⟩
end Go.Proofs.YtfofaiommeckbaaGreat
