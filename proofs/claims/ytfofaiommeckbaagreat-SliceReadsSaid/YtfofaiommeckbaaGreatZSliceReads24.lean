/- Walks: tree.late. -/
import Derived.Test.YtfofaiommeckbaaGreatZSliceReadsB
import Derived.Test.YtfofaiommeckbaaGreatZSliceReads22
import Derived.Test.YtfofaiommeckbaaGreatZSliceReads16
import Derived.Test.YtfofaiommeckbaaGreatZSliceReads23
open Nat renaming pow_succ → aQ, pos_of_ne_zero → aN, mul_left_comm → dU, mul_assoc → bB, mul_add_mod → dV, mod_eq_of_lt → aP
open List renaming getD_eq_getElem?_getD → aH, getElem?_eq_getElem → aI, range → aF, length_drop → dE, mem_map → dW, mem_filter → bP, mem_range → dX
open Bool renaming true_and → dS, false_and → cP, and_false → dY
set_option linter.unusedVariables false
set_option maxRecDepth 100000
set_option maxHeartbeats 40000000
namespace Go.Proofs.YtfofaiommeckbaaGreat
open Go.RowKit WalkM
theorem Zjq (x:Nat):∀k j i,i<k→(ups x j k)[i]? =some (anc x (j+i+1)):=by
 intro k
 induction k with
 |zero=>intro j i h;omega
 |succ k ih=>
  intro j i h;rw[ups];cases i with
  |zero=>simp
  |succ i=>rw[List.getElem?_cons_succ,ih (j+1) i (by omega)];congr 2;omega
theorem TreeR.at {w:World} {a:Option Addr} {n c:Nat} {t:List NodeD}(h:TreeR w (.slice a n c) t) {i:Nat}(hi:i<n):∃b off l e,a=some ⟨b,off,none⟩∧b<w.heap.size∧w.cell? ⟨b,off+i*10,none⟩=some (.int .u8 ((nd t i).kind:Nat))∧w.cell? ⟨b,off+i*10+9,none⟩=some (.slice l (nd t i).par.late.length e)∧Rd w (.slice l (nd t i).par.late.length e) (ivs .i64 (nd t i).par.late):=by
 obtain⟨b,off,cs,e1,e2,hn,hr⟩:=h.node hi;obtain⟨l,e,e3,e4⟩:=hn.late;exact⟨b,off,l,e,e1,e2,hr 0 _ hn.kind,hr 9 _ e3,e4⟩
theorem Zfo (v:Value)(t:List NodeD)(x d:Nat)(w:World)(h:TreeR w v t)(hs:Za5 t=true)(hp:Ch t=true)(hd:d≤16)(hl:t.length+1=2*2^d)(hx:x<t.length):
  Calls Tryz.prog 228 #[v,.int .i64 (x:Nat)] w fun e w'=>e=.returned (.bool (Eh t x))∧Below w.heap.size w w':=by
 obtain⟨a,c,rfl,hc,hc2⟩:=h.sl;have hlen:=Qg hs;have h17:=At (show d+1≤17 by omega);have e2d:2^(d+1)=2*2^d:=(by rw[aQ];omega);obtain⟨L,hL⟩:=eX ((nd t x).par.late);have LV:=fun(W:World)=>Io a t.length c W (by omega);rw[Mo hd hl]at LV;have GA:=fun(W:World) (hw:Below w.heap.size w W) (i:Nat) (hi:i<t.length)=>(h.below hw lR).at hi;have UN:=fun(q:Nat) (W:World)=>Cm (q:Int) (x:Int) W;have PA:=fun(q:Nat) (hq:q+1<2^(d+1)) (he:q%2=0) (W:World)=>(show Calls Tryz.prog 269 #[.int .i64 (q:Nat),.int .i64 ((2^d:Nat):Int)] W fun e w'=>∃v,e=.returned v∧Own w' W.heap.size 3 v (nvs (ups q 0 d))∧Below W.heap.size W w' from by
  have:=Zez q d hd hq W;rw[Hu he (by omega)]at this;exact this)
 have BS:=fun(i:Nat) (hi:i<t.length) (u:Int) (lv:Value) (W:World) (hr:Rd W lv (ivs .i64 (nd t i).par.late))=>Uh lv (nd t i).par.late u W hr (Zd (Ck (Fq hp hi).2)) (by
  have:=of_decide_eq_true (Ug hs i)
  omega)
 have YES:=fun(hh:∀r,r<L.length→Lj t x (L.getD r 0))=>Zc (t:=t) (x:=x) (fun u hu=>by
  rw[←hL]at hu;obtain⟨r,hr,rfl⟩:=List.getElem_of_mem hu;have:=hh r hr
  rwa [aH,aI hr]at this)
 have MEM:=fun(r:Nat) (hr:r<L.length)=>(show L.getD r 0∈(nd t x).par.late by rw[aH,aI hr,←hL];exact List.getElem_mem hr);have NO:=fun(r:Nat) (hr:r<L.length) (hh:¬Lj t x (L.getD r 0))=>Zbr (MEM r hr) hh;have NAT:=fun(r:Nat) (hr:r<L.length)=>Mu hp hx (MEM r hr);have LP:=fun(m:Nat)=>Zbt (m:=m) (x:=x) hd hl;have WAY:=fun(m:Nat) (hm:2*m<t.length) (hu:(m:Int)∈(nd t x).par.late) (hund:Bt ((2*m:Nat):Int) (x:Int)=true)=>Zia hd hl hp hx hm hu hund;have UL:=fun(q:Nat) (hq:q+1<2^(d+1)) (he:q%2=0)=>Jm hd hq (show x+1<2^(d+1) by omega) he;have LX:=(lev_root (show x+1<2^(d+1) by omega) (lev_is (x:=x) (by omega))).1;have LXP:=fun(hk:(nd t x).kind=2)=>Zbs (Ow hp hx hk) (by omega);have ANC:=fun(q j:Nat) (hq:q<2^(d+1)) (hj:j≤d)=>anc_le hq hj;obtain⟨N,hN⟩:=eX (2^d);rw[←hN]at LV PA LP hl e2d;obtain⟨n,hn⟩:=eX t.length;rw[←hn]at LV GA BS WAY hl hx hc hlen⊢;rw[←hn]at LP;rw[e2d]at PA UL ANC;have hk60:L.length≤60:=(by have:=of_decide_eq_true (Ug hs x);rw[hL];omega);obtain⟨k0,hk0⟩:=eX L.length;rw[←hk0]at hk60;rw[←hk0]at YES MEM NO NAT;have GX:=fun(W:World) (hw:Below w.heap.size w W)=>GA W hw x hx;rw[←hL,←hk0]at GX;obtain⟨R,hR⟩:=eX (Eh t x);rw[←hR]at YES NO⊢;have HLV:=Hd LV;have HGA:=Hd GA;have HGX:=Hd GX;have HUN:=Hd UN;have HPA:=Hd PA;have HBS:=Hd BS;have HYES:=Hd YES;have HMEM:=Hd MEM;have HNO:=Hd NO;have HNAT:=Hd NAT;have HLP:=Hd LP;have HWAY:=Hd WAY;have HUL:=Hd UL;have HLX:=Hd LX;have HLXP:=Hd LXP;have HANC:=Hd ANC;have HD:=Hd hd;have HLL:=Hd hL;have HLN:=Hd hl;have HK0:=Hd hk0;have hNn:2*N=n+1:=(by omega);clear LV GA GX UN PA BS YES MEM NO NAT LP WAY UL LX LXP ANC hL hl hn hR h hs hp hd h17 e2d hN hk0;obtain⟨b,off,l,e,rfl,hbl,ck,cl,hrl⟩:=HGX.out w bR;have AT:=fun(r:Nat) (hr:r<k0)=>hrl.at3 (u:=.int .i64 (L.getD r 0)) (r:=r) (by have:=HK0.out;simp[ivs,aH,show r<L.length by omega]);have HAT:=Hd AT;clear AT hrl;go_enter Tryz.func228,Tryz.ntmps228;go_wp2_with fail;refine(HLV.out w).mono ?_;rintro e' w' ⟨rfl,rfl⟩;go_wp2_with fail
 go_loopg [21] k0 (fun q iv wr=>∃r:Nat,r+q=k0∧iv=.int .i64 (r:Nat)∧(∀i,i<r→Lj t x (L.getD i 0))∧Below w'.heap.size w' wr)
 case atStart=>exact⟨0,by omega,rfl,fun i hi=>by omega,bR⟩
 case round=>
  obtain⟨r,hr,rfl,hall,hb⟩:=hrel;have HR:=Hd hr;have HALL:=Hd hall;have HB:=Hd hb;clear hr hall hb
  by_cases hlt:r<k0
  ·have hlt':decide (r<k0)=true:=decide_eq_true hlt;obtain⟨bl,ol,e1,hbl2,cu⟩:=HAT.out r hlt;subst e1;obtain⟨hk2,m,hm,hm16⟩:=HNAT.out r hlt;rw[hm]at cu;have cu1:=(HB.out.cell (p:=⟨bl,ol+r,none⟩) hbl2).trans cu;have HM:=Hd hm;have HK2:=Hd hk2;clear cu hm hk2;have NOM:=Hd (fun(hh:¬Lj t x (m:Int))=>HNO.out r hlt (by rw[HM.out];exact hh));obtain⟨q,hq⟩:=eX (2*m);have hqI:2*(m:Int)=(q:Int):=(by omega);have HQ:=Hd hq;clear hq
   by_cases c1:N≤m
   ·have g1:decide (N≤m)=true:=decide_eq_true c1;have HF:=Hd (NOM.out (fun hh=>by have:=((HLP.out m).1 hh).1;omega));go_wp2_with fail;go_ret;exact⟨Dg HF.out,HB.out⟩
   ·have g1:decide (N≤m)=false:=decide_eq_false c1;have hqn:q<n:=(by have:=HQ.out;omega);cases hun:Bt (q:Int) (x:Int)with
    |false=>
     have HF:=Hd (NOM.out (fun hh=>by
      have:=((HLP.out m).1 hh).2.1;rw[←HQ.out,hun]at this;cases this))
     have U1:=HUN.out q wr;rw[hun]at U1;have HU1:=Hd U1;clear U1 hun;go_wp2_with fail;refine(HU1.out).mono ?_;rintro e' w2 ⟨rfl,rfl⟩;go_wp2_with fail;go_ret;exact⟨Dg HF.out,HB.out⟩
    |true=>
     have U1:=HUN.out q wr;rw[hun]at U1;have HU1:=Hd U1;have HUND:=Hd hun;clear U1 hun;obtain⟨b',off',l2,e2,eb,_,ckq,_,_⟩:=HGA.out wr HB.out q hqn;simp only[Option.some.injEq,Addr.mk.injEq,and_true]at eb;obtain⟨rfl,rfl⟩:=eb
     by_cases c3:(nd t q).kind=0
     ·have HF:=Hd (NOM.out (fun hh=>by
       have:=((HLP.out m).1 hh).2.2.1;rw[←HQ.out]at this;exact this c3))
      rw[c3]at ckq;have ckq':wr.cell? ⟨b,off+q*10,none⟩=some (.int .u8 0):=ckq;clear c3 ckq;go_wp2_with fail;refine(HU1.out).mono ?_;rintro e' w2 ⟨rfl,rfl⟩;go_wp2_with fail;go_ret;exact⟨Dg HF.out,HB.out⟩
     ·obtain⟨kq,hkq⟩:=eX ((nd t q).kind);rw[←hkq]at ckq c3;have g3:((kq:Int)==0)=false:=(by rw[beq_eq_false_iff_ne];omega);have HKQ:=Hd hkq;have hq1:q+1<2*N:=(by omega);have PA1:=Hd (HPA.out q hq1 (by have:=HQ.out;omega) wr);clear hkq;go_wp2_with fail;refine(HU1.out).mono ?_;rintro e' w2 ⟨rfl,rfl⟩;go_wp2_with fail;refine(PA1.out).mono ?_;rintro e' w2 ⟨pv,rfl,hown,hb2⟩;have HB2:=Hd (HB.out.trans (hb2.mono HB.out.size));have hpd:(nvs (ups q 0 d)).length=d:=(by rw[Kd,Qe]);obtain⟨pa,pc,epv⟩:∃a c,pv=.slice a d c:=(by obtain⟨a,c,e,_⟩:=hown.rd;exact⟨a,c,by rw[e,hpd]⟩);subst epv;have PT:=fun(k:Nat) (hk:k<d)=>hown.rd.at3 (u:=.int .i64 (anc q (k+1):Nat)) (r:=k) (by simp[nvs,ivs,Zjq q d 0 k hk]);have HPT:=Hd PT;have HXE:=Hd (show x=anc q (lev x) by
       have:=HUL.out q hq1 (by have:=HQ.out;omega);rw[HUND.out]at this;exact of_decide_eq_true this.symm)
      have HLV1:=Hd (HLXP.out HK2.out);have HMEM1:=Hd (show(m:Int)∈(nd t x).par.late by rw[←HM.out];exact HMEM.out r hlt);have hdn:=HD.out;clear hown hb2 PT hpd;go_wp2_with fail;obtain⟨g1,rfl⟩:=eX gk;obtain⟨w1,rfl⟩:=eX wr
      go_loopg [49] d (fun q2 iv wv=>∃k:Nat,k+q2=d∧iv=.int .i64 (k:Nat)∧(∀i,1≤i→i≤k→anc q i≠x∧((nd t (anc q i)).kind≠0→(m:Int)∈(nd t (anc q i)).par.late))∧wv=w2)
      case atStart=>exact⟨0,by omega,rfl,fun i h1 h2=>by omega,rfl⟩
      case round=>
       obtain⟨k,hk,rfl,hway,rfl⟩:=hrel;have HK:=Hd hk;have HWY:=Hd hway;clear hk hway
       by_cases hkd:k<d
       ·have hkd':decide (k<d)=true:=decide_eq_true hkd;obtain⟨bp,op,e1,hbp,cp⟩:=HPT.out k hkd;subst e1;obtain⟨p,hp⟩:=eX (anc q (k+1));rw[←hp]at cp;have HP:=Hd hp;clear hp
        by_cases hpx:p=x
        ·have g4:((p:Int)==(x:Int))=true:=(by rw[beq_iff_eq];omega);have HPX:=Hd hpx;have HFIN:=Hd (show Lj t x (m:Int)from(HLP.out m).2 ⟨by omega,by rw[←HQ.out];exact HUND.out,by rw[←HQ.out,←HKQ.out];exact c3,by
          have hw:=HWAY.out m (by have:=HQ.out;omega) HMEM1.out (by rw[←HQ.out];exact HUND.out);rw[←HQ.out]at hw;have hlx:lev x=k+1:=by
           have h1:=HXE.out;have h2:=HP.out;rw[HPX.out]at h2;have a1:=anc_lev q (k+1);rw[←h2]at a1;have a2:=anc_lev q (lev x);rw[←h1]at a2;exact lev_unique a2 a1
          rw[←HQ.out];refine hw.1 fun i h1 h2=> ?_;exact(HWY.out i h1 (by omega)).2⟩)
         clear hpx;go_wp2_with fail;go_roundg (g1-1);case measure=>have:=HR.out;omega
         case rel=>
          refine⟨r+1,by have:=HR.out;omega,by go_num,fun i hi=> ?_,HB2.out⟩
          by_cases e:i=r
          ·rw[e,HM.out];exact HFIN.out
          ·exact HALL.out i (by omega)
        ·have g4:((p:Int)==(x:Int))=false:=(by rw[beq_eq_false_iff_ne];omega);have HPX:=Hd hpx;have hpn:p<n:=by
          have:=HANC.out q (k+1) (by omega) (by omega);rw[←HP.out]at this;omega
         obtain⟨b',off',l3,e3,eb,_,ckp,clp,hrp⟩:=HGA.out wr (HB2.out) p hpn;simp only[Option.some.injEq,Addr.mk.injEq,and_true]at eb;obtain⟨rfl,rfl⟩:=eb;have B1:=HBS.out p hpn (m:Int) _ wr hrp;obtain⟨kp,hkp⟩:=eX ((nd t p).kind);rw[←hkp]at ckp;have HKP:=Hd hkp;obtain⟨lp,hlp⟩:=eX ((nd t p).par.late.length);rw[←hlp]at clp hrp B1;obtain⟨is,his⟩:=eX (decide ((m:Int)∈(nd t p).par.late));rw[←his]at B1;have HIS:=Hd his;have HB1:=Hd B1;clear hkp hlp his B1 hrp hpx
         by_cases k0':kp=0
         ·have HKK:=Hd k0';have ckp':wr.cell? ⟨b,off+p*10,none⟩=some (.int .u8 0):=(by rw[ckp,k0'];rfl);clear k0' ckp;go_wp2_with fail;refine(HB1.out).mono ?_;rintro e' w3 ⟨pos,rfl,_,_,_,rfl⟩;go_wp2_with fail;go_roundg (gk-1);case measure=>have:=HK.out;omega
          case rel=>
           refine⟨k+1,by have:=HK.out;omega,by go_num,fun i h1 h2=> ?_,rfl⟩
           by_cases e:i=k+1
           ·rw[e,←HP.out];exact⟨HPX.out,fun hne=>absurd (HKP.out.symm.trans HKK.out) hne⟩
           ·exact HWY.out i h1 (by omega)
         ·have HKK:=Hd k0';have g5:((kp:Int) !=0)=true:=by
           have:((kp:Int)==0)=false:=(by rw[beq_eq_false_iff_ne];omega);rw[bne,this];rfl
          have g6:((kp:Int)==0)=false:=(by rw[beq_eq_false_iff_ne];omega);cases is with
          |true=>
           clear k0';go_wp2_with fail;refine(HB1.out).mono ?_;rintro e' w3 ⟨pos,rfl,_,_,_,rfl⟩;go_wp2_with fail;go_roundg (gk-1);case measure=>have:=HK.out;omega
           case rel=>
            refine⟨k+1,by have:=HK.out;omega,by go_num,fun i h1 h2=> ?_,rfl⟩
            by_cases e:i=k+1
            ·rw[e,←HP.out];exact⟨HPX.out,fun _=>of_decide_eq_true HIS.out.symm⟩
            ·exact HWY.out i h1 (by omega)
          |false=>
           have HF:=Hd (NOM.out (fun hh=>by
            have hw:=HWAY.out m (by have:=HQ.out;omega) HMEM1.out (by rw[←HQ.out];exact HUND.out);rw[←HQ.out]at hw;have hh2:=((HLP.out m).1 hh).2.2.2;rw[←HQ.out]at hh2;have hlt2:k+1<lev x:=by
             have h1:=HXE.out;have h3:=HLV1.out;rcases Nat.lt_or_ge (k+1) (lev x)with h|h
             ·exact h
             ·exfalso
              by_cases e:lev x=k+1
              ·rw[e,←HP.out]at h1;exact HPX.out h1.symm
              ·exact(HWY.out (lev x) h3 (by omega)).1 h1.symm
            have hin:=hw.2 hh2 (k+1) (by omega) hlt2 (by rw[←HP.out,←HKP.out];exact HKK.out);rw[←HP.out]at hin;exact absurd hin (of_decide_eq_false HIS.out.symm)))
           clear k0';go_wp2_with fail;refine(HB1.out).mono ?_;rintro e' w3 ⟨pos,rfl,_,_,_,rfl⟩;go_wp2_with fail;go_ret;exact⟨Dg HF.out,HB2.out⟩
       ·exfalso;have h1:=HXE.out;have h2:=HLX.out;have h3:=HLV1.out;exact(HWY.out (lev x) h3 (by have:=HK.out;omega)).1 h1.symm
  ·obtain rfl:r=k0:=(by have:=HR.out;omega);have hlt':decide (r<r)=false:=decide_eq_false hlt;go_wp2_with fail;go_ret;exact⟨Dg (HYES.out HALL.out),HB.out⟩
def Zfp (t:List NodeD):Bool:=if Bg t.length=1 then Gg t else Gg (t.drop (Bg t.length))
def Mw (t:List NodeD):Bool:=(aF t.length).all (Eh t)
def Fr (t:List NodeD):Bool:=decide (Bg t.length≠0)&&(Ch t&&(Zfp t&&Mw t))
theorem Zf {t:List NodeD}(h:∀x,x<t.length→Eh t x=true):Mw t=true:=List.all_eq_true.2 fun x hx=>h x (List.mem_range.1 hx)
theorem Ox {t:List NodeD}(h:Mw t=true):∀x,x<t.length→Eh t x=true:=fun x hx=>List.all_eq_true.1 h x (List.mem_range.2 hx)
theorem Zbv {t:List NodeD} {x:Nat}(hx:x<t.length)(h:Eh t x=false):Mw t=false:=by
 cases hb:Mw t with
 |false=>rfl
 |true=>rw[Ox hb x hx]at h;cases h
theorem Zic (t:List NodeD)(k i:Nat):nd (t.drop k) i=nd t (k+i):=by
 unfold nd;rw[aH,List.getElem?_drop,aH]
theorem TreeR.drop {w:World} {b off n c:Nat} {t:List NodeD}(h:TreeR w (.slice (some ⟨b,off,none⟩) n c) t)(k:Nat)(hk:k≤n) {o' n' c':Nat}(ho:o'=off+k*10)(hn:n'=n-k)(hc:c'=c-k):TreeR w (.slice (some ⟨b,o',none⟩) n' c') (t.drop k):=by
 obtain⟨a',cap,e,h1,h2,h3⟩:=h;simp only[Value.slice.injEq]at e;obtain⟨rfl,rfl,rfl⟩:=e;subst ho hn hc;refine⟨_,_,by rw[dE],by rw[dE];omega,by omega,fun i hi=> ?_⟩;rw[dE]at hi;obtain⟨b',off',cs,e,hl,hn,hr⟩:=h3 (k+i) (by omega);simp only[Option.some.injEq,Addr.mk.injEq,and_true]at e;obtain⟨rfl,rfl⟩:=e;refine⟨b,off+k*10,cs,rfl,hl,by rw[Zic];exact hn,?_⟩;rw[show off+k*10+i*10=off+(k+i)*10 by omega];exact hr
theorem Oy (v:Value)(t:List NodeD)(w:World)(h:TreeR w v t)(hs:Za5 t=true)(hok:TreeOk t):
  Calls Tryz.prog 188 #[v] w fun e w'=>e=.returned (.bool (Fr t))∧Below w.heap.size w w':=by
 obtain⟨a,c,rfl,hc,hc2⟩:=h.sl;have hlen:=Qg hs;have LV:=fun(W:World)=>Io a t.length c W (by omega);have PL:=fun(W:World) (hw:Below w.heap.size w W)=>Yw (.slice a t.length c) t W (h.below hw lR) hs hok;have SM:=fun(W:World) (hw:Below w.heap.size w W)=>Sg (.slice a t.length c) t W (h.below hw lR) hok;obtain⟨R,hR⟩:=eX (Fr t);have hRe:R=(decide (Bg t.length≠0)&&(Ch t&&(Zfp t&&Mw t))):=(by rw[hR,Fr]);rw[←hR]
 by_cases h0:Bg t.length=0
 ·rw[h0]at LV;have HF:=Hd (show R=false by rw[hRe,h0];rfl);obtain⟨n,hn⟩:=eX t.length;rw[←hn]at LV⊢;have HLV:=Hd LV;clear LV PL SM hRe hR h0 h hs hok hn hc hlen;go_enter Tryz.func188,Tryz.ntmps188;go_wp2_with fail;refine(HLV.out w).mono ?_;rintro e w' ⟨rfl,rfl⟩;go_wp2_with fail;go_ret;exact⟨Dg HF.out,bR⟩
 ·obtain⟨d,hd,hN,hl⟩:=In h0;rw[decide_eq_true h0,dS]at hRe;cases hp:Ch t with
  |false=>
   rw[hp]at PL hRe;have HF:=Hd (show R=false by rw[hRe,cP]);obtain⟨N,hNN⟩:=eX (Bg t.length);rw[←hNN]at LV h0;obtain⟨n,hn⟩:=eX t.length;rw[←hn]at LV PL⊢;have hq:((N:Int)==0)=false:=(by rw[beq_eq_false_iff_ne];omega);have HLV:=Hd LV;have HPL:=Hd (PL w bR);clear LV PL SM hRe hR h0 h hs hok hn hc hlen hl hN hNN;go_enter Tryz.func188,Tryz.ntmps188;go_wp2_with fail;refine(HLV.out w).mono ?_;rintro e w' ⟨rfl,rfl⟩;go_wp2_with fail;refine(HPL.out).mono ?_;rintro e w2 ⟨rfl,hb⟩;have HB:=Hd hb;clear hb;go_wp2_with fail;go_ret;exact⟨Dg HF.out,HB.out⟩
  |true=>
   rw[hp]at PL hRe;rw[dS]at hRe;have LT:=fun(x:Nat) (hx:x<t.length) (W:World) (hw:Below w.heap.size w W)=>Zfo (.slice a t.length c) t x d W (h.below hw lR) hs hp hd hl hx;have L1:=fun(hh:∀x,x<t.length→Eh t x=true)=>Zf hh;have L2:=fun(x:Nat) (hx:x<t.length) (hh:Eh t x=false)=>Zbv hx hh;have hn1:t.length≠0:=(by have:=pow_pos' d;omega);obtain⟨b,off,cs0,rfl,_,_,_⟩:=h.node (i:=0) (by omega);have hN2:Bg t.length≤t.length:=(by rw[hN];have:=pow_pos' d;omega);have SD:=fun(W:World) (hw:Below w.heap.size w W)=>Sg (.slice (some ⟨b,off+Bg t.length*10,none⟩) (t.length-Bg t.length) (c-Bg t.length)) (t.drop (Bg t.length)) W ((h.below hw lR).drop _ hN2 rfl rfl rfl) (fun d hd=>hok d (List.mem_of_mem_drop hd));have hsb:Zfp t=if Bg t.length=1 then Gg t else Gg (t.drop (Bg t.length)):=rfl;have hNl:2*Bg t.length=t.length+1:=(by rw[hN];omega);obtain⟨N,hNN⟩:=eX (Bg t.length);rw[←hNN]at LV h0 SD hsb hNl;obtain⟨n,hn⟩:=eX t.length;rw[←hn]at LV PL SM LT L1 L2 SD hNl hc hlen⊢;obtain⟨sb,hsb'⟩:∃b,b=Zfp t:=⟨_,rfl⟩;rw[←hsb']at hRe hsb;obtain⟨lb,hlb⟩:=eX (Mw t);rw[←hlb]at hRe L1 L2;have hq:((N:Int)==0)=false:=(by rw[beq_eq_false_iff_ne];omega);have HLV:=Hd LV;have HPL:=Hd (PL w bR);have HSM:=Hd SM;have HSD:=Hd SD;have HLT:=Hd LT;have HL1:=Hd L1;have HL2:=Hd L2;have HRE:=Hd hRe;have HSB:=Hd hsb;have hnc:n≤c:=hc;clear LV PL SM SD LT L1 L2 hRe hsb hR h hs hok hn hl hN hNN hsb' hlb hp hd hN2 hc
   by_cases hN1:N=1
   ·have HSE:=Hd (show sb=Gg t by rw[HSB.out,if_pos hN1]);subst hN1;cases hsm:Gg t with
    |false=>
     have HSF:=Hd hsm;have HF:=Hd (show R=false by rw[HRE.out,HSE.out,hsm,cP]);clear hsm;go_enter Tryz.func188,Tryz.ntmps188;go_wp2_with fail;refine(HLV.out w).mono ?_;rintro e w' ⟨rfl,rfl⟩;go_wp2_with fail;refine(HPL.out).mono ?_;rintro e w2 ⟨rfl,hb⟩;have HB:=Hd hb;have C1:=HSM.out w2 hb;rw[HSF.out]at C1;have HC1:=Hd C1;clear hb C1;go_wp2_with fail;refine(HC1.out).mono ?_;rintro e w4 ⟨rfl,hb⟩;have HB4:=Hd (HB.out.trans (hb.mono HB.out.size));clear hb;go_wp2_with fail;go_ret;exact⟨Dg HF.out,HB4.out⟩
    |true=>
     have HSF:=Hd hsm;have HST:=Hd (show sb=true by rw[HSE.out,hsm]);clear hsm;go_enter Tryz.func188,Tryz.ntmps188;go_wp2_with fail;refine(HLV.out w).mono ?_;rintro e w' ⟨rfl,rfl⟩;go_wp2_with fail;refine(HPL.out).mono ?_;rintro e w2 ⟨rfl,hb⟩;have HB:=Hd hb;have C1:=HSM.out w2 hb;rw[HSF.out]at C1;have HC1:=Hd C1;clear hb C1;go_wp2_with fail;refine(HC1.out).mono ?_;rintro e w4 ⟨rfl,hb⟩;have HB4:=Hd (HB.out.trans (hb.mono HB.out.size));clear hb;go_wp2_with fail
     go_loopg [36] n (fun q iv wr=>∃r:Nat,r+q=n∧iv=.int .i64 (r:Nat)∧(∀i,i<r→Eh t i=true)∧Below w'.heap.size w' wr)
     case atStart=>exact⟨0,by omega,rfl,fun i hi=>by omega,HB4.out⟩
     case round=>
      obtain⟨r,hr,rfl,hall,hb⟩:=hrel;have HR:=Hd hr;have HALL:=Hd hall;have HB:=Hd hb;clear hr hall hb
      by_cases hlt:r<n
      ·have hlt':decide (r<n)=true:=decide_eq_true hlt;have CC:=HLT.out r hlt wr HB.out;cases hk:Eh t r with
       |true=>
        rw[hk]at CC;have HCC:=Hd CC;have HF:=Hd hk;clear CC hk;go_wp2_with fail;refine(HCC.out).mono ?_;rintro e w2 ⟨rfl,hb2⟩;have HB2:=Hd (HB.out.trans (hb2.mono HB.out.size));clear hb2;go_wp2_with fail;go_roundg (gk-1);case measure=>have:=HR.out;omega
        case rel=>
         refine⟨r+1,by have:=HR.out;omega,by go_num,fun i hi=> ?_,HB2.out⟩
         by_cases e:i=r
         ·rw[e];exact HF.out
         ·exact HALL.out i (by omega)
       |false=>
        rw[hk]at CC;have HCC:=Hd CC;have HF:=Hd (show R=false by rw[HRE.out,HL2.out r hlt hk,dY]);clear CC hk;go_wp2_with fail;refine(HCC.out).mono ?_;rintro e w2 ⟨rfl,hb2⟩;have HB2:=Hd (HB.out.trans (hb2.mono HB.out.size));clear hb2;go_wp2_with fail;go_ret;exact⟨Dg HF.out,HB2.out⟩
      ·obtain rfl:r=n:=(by have:=HR.out;omega);have hlt':decide (r<r)=false:=decide_eq_false hlt;have HF:=Hd (show R=true by rw[HRE.out,HL1.out HALL.out,HST.out];rfl);go_wp2_with fail;go_ret;exact⟨Dg HF.out,HB.out⟩
   ·have HSE:=Hd (show sb=Gg (t.drop N) by rw[HSB.out,if_neg hN1]);have hq1:((N:Int)==1)=false:=(by rw[beq_eq_false_iff_ne];omega);have hg1:decide ((N:Int)>1)=true:=(by rw[decide_eq_true_iff];omega);have hg2:decide ((1:Int)<(N:Int))=true:=(by rw[decide_eq_true_iff];omega);have hNlt:N≤n:=(by omega);have hcN:c≠N:=(by omega);cases hsm:Gg (t.drop N)with
    |false=>
     have HSF:=Hd hsm;have HF:=Hd (show R=false by rw[HRE.out,HSE.out,hsm,cP]);clear hsm;go_enter Tryz.func188,Tryz.ntmps188;go_wp2_with fail;refine(HLV.out w).mono ?_;rintro e w' ⟨rfl,rfl⟩;go_wp2_with fail;refine(HPL.out).mono ?_;rintro e w2 ⟨rfl,hb⟩;have HB:=Hd hb;have C1:=HSD.out w2 hb;rw[HSF.out]at C1;have HC1:=Hd C1;clear hb C1;go_wp2_with fail;refine(HC1.out).mono ?_;rintro e w4 ⟨rfl,hb⟩;have HB4:=Hd (HB.out.trans (hb.mono HB.out.size));clear hb;go_wp2_with fail;go_ret;exact⟨Dg HF.out,HB4.out⟩
    |true=>
     have HSF:=Hd hsm;have HST:=Hd (show sb=true by rw[HSE.out,hsm]);clear hsm;go_enter Tryz.func188,Tryz.ntmps188;go_wp2_with fail;refine(HLV.out w).mono ?_;rintro e w' ⟨rfl,rfl⟩;go_wp2_with fail;refine(HPL.out).mono ?_;rintro e w2 ⟨rfl,hb⟩;have HB:=Hd hb;have C1:=HSD.out w2 hb;rw[HSF.out]at C1;have HC1:=Hd C1;clear hb C1;go_wp2_with fail;refine(HC1.out).mono ?_;rintro e w4 ⟨rfl,hb⟩;have HB4:=Hd (HB.out.trans (hb.mono HB.out.size));clear hb;go_wp2_with fail
     go_loopg [36] n (fun q iv wr=>∃r:Nat,r+q=n∧iv=.int .i64 (r:Nat)∧(∀i,i<r→Eh t i=true)∧Below w'.heap.size w' wr)
     case atStart=>exact⟨0,by omega,rfl,fun i hi=>by omega,HB4.out⟩
     case round=>
      obtain⟨r,hr,rfl,hall,hb⟩:=hrel;have HR:=Hd hr;have HALL:=Hd hall;have HB:=Hd hb;clear hr hall hb
      by_cases hlt:r<n
      ·have hlt':decide (r<n)=true:=decide_eq_true hlt;have CC:=HLT.out r hlt wr HB.out;cases hk:Eh t r with
       |true=>
        rw[hk]at CC;have HCC:=Hd CC;have HF:=Hd hk;clear CC hk;go_wp2_with fail;refine(HCC.out).mono ?_;rintro e w2 ⟨rfl,hb2⟩;have HB2:=Hd (HB.out.trans (hb2.mono HB.out.size));clear hb2;go_wp2_with fail;go_roundg (gk-1);case measure=>have:=HR.out;omega
        case rel=>
         refine⟨r+1,by have:=HR.out;omega,by go_num,fun i hi=> ?_,HB2.out⟩
         by_cases e:i=r
         ·rw[e];exact HF.out
         ·exact HALL.out i (by omega)
       |false=>
        rw[hk]at CC;have HCC:=Hd CC;have HF:=Hd (show R=false by rw[HRE.out,HL2.out r hlt hk,dY]);clear CC hk;go_wp2_with fail;refine(HCC.out).mono ?_;rintro e w2 ⟨rfl,hb2⟩;have HB2:=Hd (HB.out.trans (hb2.mono HB.out.size));clear hb2;go_wp2_with fail;go_ret;exact⟨Dg HF.out,HB2.out⟩
      ·obtain rfl:r=n:=(by have:=HR.out;omega);have hlt':decide (r<r)=false:=decide_eq_false hlt;have HF:=Hd (show R=true by rw[HRE.out,HL1.out HALL.out,HST.out];rfl);go_wp2_with fail;go_ret;exact⟨Dg HF.out,HB.out⟩
theorem Zg (v:Value)(t:List NodeD)(w:World)(h:TreeR w v t)(hs:Eg t=true)(hok:TreeOk t):
  Calls Tryz.prog 188 #[v] w fun e w'=>e=.returned (.bool (Fr t))∧Below w.heap.size w w':=
 Oy v t w h (Op hs) hok
theorem kids_lev {x k:Nat}(hx:x≤131070)(h:IsLev x (k+1)):Dk (x:Int)=((x-2^k:Nat):Int)∧Bz (x:Int)=((x+2^k:Nat):Int)∧IsLev (x-2^k) k∧IsLev (x+2^k) k∧2^k≤x:=by
 have hl:=lev_eq hx h;have hz:Lh (x:Int)=((k+1:Nat):Int):=by
  rw[Lh,if_pos (by unfold Bk;rw[decide_eq_true_iff];omega),Int.toNat_natCast,hl]
 have hp:0<2^k:=aN (by simp);have hh:Dm (x:Int)=((2^k:Nat):Int):=by
  rw[Dm,hz,if_pos (by omega),show(((k+1:Nat):Int)-1).toNat=k by omega,Int.natCast_pow];rfl
 unfold IsLev at h⊢;have e1:2^(k+1)=2*2^k:=(by rw[aQ];omega);have e2:2^(k+1+1)=4*2^k:=(by rw[aQ,e1];omega);rw[e2,e1]at h;rw[e1];have hd:=Nat.div_add_mod x (4*2^k);rw[h]at hd;have hpx:2^k≤x:=(by omega);refine⟨?_,?_,?_,?_,hpx⟩
 ·rw[Dk,hh,if_neg (by omega)];omega
 ·rw[Bz,hh,if_neg (by omega)];omega
 ·have e:x-2^k=2*2^k*(2*(x/(4*2^k)))+(2^k-1):=by
   have:2*2^k*(2*(x/(4*2^k)))=4*2^k*(x/(4*2^k)):=(by rw[dU,←bB,←bB]);omega
  rw[e,dV];exact aP (by omega)
 ·have e:x+2^k=2*2^k*(2*(x/(4*2^k))+1)+(2^k-1):=by
   have:2*2^k*(2*(x/(4*2^k))+1)=4*2^k*(x/(4*2^k))+2*2^k:=(by rw[Nat.mul_add,Nat.mul_one,dU,←bB,←bB]);omega
  rw[e,dV];exact aP (by omega)
theorem Gj {x:Nat}(h:IsLev x 0):x%2=0:=by unfold IsLev at h;simpa using h
theorem Jn {x k:Nat}(h:IsLev x (k+1)):x%2=1:=by
 unfold IsLev at h;have e2:2^(k+1+1)=2*2^(k+1):=(by rw[aQ];omega);have e1:2^(k+1)=2*2^k:=(by rw[aQ];omega);have hp:0<2^k:=aN (by simp);have:=Nat.mod_mod_of_dvd x (show 2∣2^(k+1+1)from⟨2^(k+1),e2⟩);rw[h]at this;omega
theorem Wv {x d:Nat}(hx:x+1<2^(d+1))(hd:d≤16):x+2^lev x+1≤2^(d+1):=by
 have h17:2^(d+1)≤2^17:=Nat.pow_le_pow_right (by omega) (by omega);have hxl:x≤131070:=(by have:(2:Nat)^17=131072:=rfl;omega);have hl:=lev_is hxl;have hld:=(lev_root hx hl).1;have hph:=phi_le (x:=x) (d:=d) (by omega) hld;have ha:=anc_self hl;rw[anc_plo]at ha;have e:phi x (lev x)=plo x (lev x)+(2^(lev x+1)-2):=rfl;have e1:2^(lev x+1)=2*2^lev x:=(by rw[aQ];omega);have hp:0<2^lev x:=aN (by simp);omega
open WireM
def Og (t:List NodeD)(m:Nat):List Int:=((aF m).filter fun i=>(nd t (2*i)).kind==1).map fun i=>((i:Nat):Int)
theorem mem_iff (t:List NodeD)(m:Nat)(i:Nat):((i:Nat):Int)∈Og t m↔i<m∧(nd t (2*i)).kind=1:=by
 unfold Og;simp only[dW,bP,dX,beq_iff_eq];constructor
 ·rintro⟨j,⟨h1,h2⟩,e⟩;have:j=i:=(by omega);subst this;exact⟨h1,h2⟩
 ·rintro⟨h1,h2⟩;exact⟨i,⟨h1,h2⟩,rfl⟩
theorem Zid (t:List NodeD)(m:Nat) {i:Int}(h:i<0):i∉Og t m:=by
 unfold Og;simp only[dW,bP,dX];rintro⟨j,_,e⟩;omega
def inR (k x y:Nat):Prop:=x+1≤y+2^k∧y<x+2^k
instance decInR (k x y:Nat):Decidable (inR k x y):=inferInstanceAs (Decidable (_∧_))
theorem Uq {x y k:Nat}(hx:x≤131070)(hy:y≤131070)(hl:IsLev x k):Bt (y:Int) (x:Int)=true↔inR k x y:=by
 have hlx:=lev_eq hx hl;rw[Um hy hx,hlx,decide_eq_true_iff];have hs:=anc_self hl;rw[anc_plo]at hs;have e:phi x k=plo x k+(2^(k+1)-2):=rfl;have e1:2^(k+1)=2*2^k:=(by rw[aQ];omega);have hp:0<2^k:=aN (by simp);unfold inR;omega
theorem Zk3 (m x:Nat):Bt (2*(m:Int)) (x:Int)=Bt ((2*m:Nat):Int) (x:Int):=by rw[Int.natCast_mul];rfl
end Go.Proofs.YtfofaiommeckbaaGreat
namespace Go.Proofs.YtfofaiommeckbaaGreat
open Go.RowKit WalkM
end Go.Proofs.YtfofaiommeckbaaGreat
