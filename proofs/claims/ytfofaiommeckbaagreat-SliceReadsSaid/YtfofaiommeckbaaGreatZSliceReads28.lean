/- Walks: slices.Grow of nil, slices.Concat of one part, sha.Of. -/
import Derived.Test.YtfofaiommeckbaaGreatZSliceReadsB
import Derived.Test.YtfofaiommeckbaaGreatZSliceReads19
import Derived.Test.YtfofaiommeckbaaGreatZSliceReads27
set_option linter.unusedVariables false
set_option maxRecDepth 100000
set_option maxHeartbeats 40000000
namespace Go.Proofs.YtfofaiommeckbaaGreat
open Go.RowKit ShaM WireM
theorem Lx (L:List Nat):(shaF L).length=32:=by
 unfold shaF;rw[←Qi (blocksN_ok _ HL0_len HL0_lt _).1,Hp]
theorem zcN (n:Nat):(Builtin.zeroCells (Value.int .u8 0).cells n).toList=bvs (List.replicate n 0):=by
 refine List.ext_getElem (by simp[Builtin.zeroCells,Value.cells]) fun i h1 h2=> ?_;simp[Builtin.zeroCells,Value.cells,Nat.mod_one,bvs]
theorem Own.take0 {w:World} {B:Nat} {e:TypeId} {a:Option Addr} {n c:Nat} {xs:List Value}(h:Own w B e (.slice a n c) xs):Own w B e (.slice a 0 c) []:=by
 obtain⟨h1,h2⟩:=h;refine⟨by simp,?_⟩;rcases h2 with⟨h2,h3⟩|⟨g,cp,cur,e',hb,hg,hn,hm,hs,ht⟩
 ·simp only[Value.slice.injEq]at h2;obtain⟨rfl,rfl,rfl⟩:=h2;exact .inl ⟨rfl,rfl⟩
 ·simp only[Value.slice.injEq]at e';obtain⟨rfl,rfl,rfl⟩:=e';exact .inr ⟨g,c,cur,rfl,hb,hg,by simp,hm,hs,by simp⟩
theorem Zft (n:Nat)(w:World)(hn:n<1000000000):
  Calls Tryz.prog 234 #[.slice none 0 0,.int .i64 (n:Nat)] w fun e w'=>∃v',e=.returned v'∧Own w' w.heap.size 5 v' []∧Below w.heap.size w w':=by
 have h0:decide ((n:Int)<0)=false:=(by simp);rcases Nat.eq_zero_or_pos n with rfl|hp
 ·go_enter Tryz.func234,Tryz.ntmps234;go_wp2_with fail;go_ret;exact⟨_,rfl,Own.nil _ _ _,bR⟩
 ·have h1:decide ((n:Int)>0)=true:=(by simp;omega);obtain⟨v6,w4,hrun,hown4,hg4⟩:=Qn (P:=Tryz.prog) (w:=w) 28 3 28 5 (.int .u8 0) 1 Fk .i64 rfl (.slice none 0 0) [] (Own.nil w w.heap.size _) n hp rfl (by rw[zcN];exact Fz _) (by simp;omega) lR;rw[zcN]at hown4;have hb4:Below w.heap.size w w4:=(Below.refl w.heap.size w).grown hg4 lR (fun k hk=>by simp[Value.ownBlock]at hk);obtain⟨z1,z2,z3,rfl⟩:=Dl hown4;have HO4:=Hd hown4.take0;have HB4:=Hd hb4;have HRUN:=Hd hrun;clear hown4 hg4 hb4 hrun;go_enter Tryz.func234,Tryz.ntmps234;go_wp2_with (at_builtin;refine Lib.wpList_append_run _ rfl _ _ _ _ rfl _ _ rfl rfl _ _ HRUN.out ?_);go_ret;exact⟨_,rfl,HO4.out,HB4.out⟩
theorem Zi (g:Nat)(v:Value)(L:List Nat)(w:World)(hg:w.cell? ⟨g,0,none⟩=some v)(hgl:g<w.heap.size)(h:Rd w v (bvs L))(hl:L.length<1000000000):
  Calls Tryz.prog 199 #[.slice (some ⟨g,0,none⟩) 1 1] w fun e w'=>∃v',e=.returned v'∧Own w' w.heap.size 5 v' (bvs L)∧Below w.heap.size w w':=by
 obtain⟨a0,c0,rfl⟩:∃a c,v=.slice a L.length c:=(by obtain⟨a,c,e,_⟩:=h;exact⟨a,c,by rw[e,bvs_len]⟩);obtain⟨n,hn⟩:=eX L.length;rw[←hn]at hg h hl;have GR:=Hd (Zft n w hl);have HN:=Hd hn;have H:=Hd h;have HC:=Hd hg;have hn0:decide ((n:Int)<0)=false:=(by simp);clear hn h;go_enter Tryz.func199,Tryz.ntmps199;go_wp2_with fail
 go_loopg [11,3] 1 (fun q iv sv wr=>∃i:Nat,i+q=1∧iv=.int .i64 (i:Nat)∧sv=.int .i64 ((i*n:Nat):Int)∧wr=w)
 case atStart=>exact⟨0,rfl,rfl,by simp,rfl⟩
 case round=>
  obtain⟨i,hi,rfl,rfl,rfl⟩:=hrel
  by_cases h1:i=0
  ·subst h1;have hgk:gk=1:=(by omega);have q0:(((0*n:Nat):Int))=0:=(by simp);rw[q0];subst hgk;go_wp2_with fail;go_roundg 0;case measure=>omega
   case rel=>exact⟨1,rfl,rfl,by simp,rfl⟩
  ·obtain rfl:i=1:=(by omega);have q0:(((1*n:Nat):Int))=n:=(by simp);rw[q0];clear h1 hi;go_wp2_with fail;refine(GR.out).mono ?_;rintro e w1 ⟨v1,rfl,hown,hb⟩;have HO1:=Hd hown;have HB1:=Hd hb;obtain⟨z1,z2,z3,rfl⟩:=Dl hown;clear hown hb;go_wp2_with fail;obtain⟨wo,rfl⟩:∃wo:World,wo=wr:=⟨_,rfl⟩
   go_loopg [27,6] 1 (fun q iv sv wr=>∃i:Nat,i+q=1∧iv=.int .i64 (i:Nat)∧Own wr wo.heap.size 5 sv (if i=0 then []else bvs L)∧Below wo.heap.size wo wr)
   case atStart=>exact⟨0,rfl,rfl,HO1.out,HB1.out⟩
   case round=>
    obtain⟨i,hi,rfl,hown,hb⟩:=hrel;have HO2:=Hd hown;have HB2:=Hd hb;obtain⟨t1,t2,t3,rfl⟩:=Dl hown;clear hown hb
    by_cases h1:i=0
    ·subst h1;obtain rfl:gk=1:=(by omega);clear hi;have HO2':Hid (Own wr wo.heap.size 5 (.slice t1 t2 t3) []):=HO2;have hcell:wr.cell? ⟨g,0,none⟩=some (.slice a0 n c0):=(HB2.out.cell (p:=⟨g,0,none⟩) hgl).trans HC.out;clear HO2;go_wp2_with (at_builtin;refine Bd rfl (.tmp 31) (.tmp 32) 28 rfl wo.heap.size 5 _ 1 Fk _ [] rfl HO2'.out _ (bvs L) rfl (H.out.below HB2.out lR) (Fz _) ?c2 ?c3 ?_);case c2=>rw[bvs_len,←HN.out];simp;omega
     case c3=>exact HB2.out.size
     rintro v3 w3 hown-hb3;have HO3:=Hd hown;have HB3:=Hd (HB2.out.trans hb3);obtain⟨y1,y2,y3,rfl⟩:=Dl hown;clear hown hb3;go_wp2_with fail;go_roundg 0;case measure=>omega
     case rel=>exact⟨1,rfl,rfl,HO3.out,HB3.out⟩
    ·obtain rfl:i=1:=(by omega);have HO2':Hid (Own wr wo.heap.size 5 (.slice t1 t2 t3) (bvs L)):=HO2;clear h1 hi HO2;go_wp2_with fail;go_ret;exact⟨_,rfl,HO2'.out,HB2.out⟩
theorem Sm (g:Nat)(v:Value)(L:List Nat)(w:World)(hg:w.cell? ⟨g,0,none⟩=some v)(hgl:g<w.heap.size)(h:Rd w v (bvs L))(hL:∀x∈L,x<256)(hl:L.length≤1000000):
  Calls Tryz.prog 151 #[.slice (some ⟨g,0,none⟩) 1 1] w fun e w'=>∃b,e=.returned (.slice (some ⟨b,0,none⟩) 32 32)∧w.heap.size≤b∧b<w'.heap.size∧Rd w' (.slice (some ⟨b,0,none⟩) 32 32) (bvs (shaF L))∧Below w.heap.size w w':=by
 have hz:∀w,(zeroValue 224).run Tryz.prog w=.ok (.agg Z32a) w:=fun _=>(by kernel_rfl);have HCC:=Hd (Zi g v L w hg hgl h (by omega));have HSS:=Hd (fun(x:Value) (w1:World) (hr:Rd w1 x (bvs L))=>Zfg x L w1 hr hL hl);have hsl:=Lx L;obtain⟨SA,hSA⟩:=eX ((bvs (shaF L)).toArray);rw[←hSA]at HSS;have hs:SA.size=32:=(by rw[hSA,List.size_toArray,bvs_len,hsl]);have SI:=Hd (show(Tryz.prog.info? 224).map (·.size)=some SA.size by rw[hs];kernel_rfl);have SO:=Hd (show SA.all (·.oneCell')=true by rw[hSA];simp[bvs,Value.oneCell']);have SZ:=Hd (show Z32a.size=SA.size by rw[hs];kernel_rfl);have HSA:=Hd hSA;have HS32:=Hd hs;clear hsl hSA hs h hL hl hg;go_enter Tryz.func151,Tryz.ntmps151;go_wp2_with fail;refine(HCC.out).mono ?_;rintro e w1 ⟨v1,rfl,hown,hb⟩;have HR:=Hd hown.rd;have HB:=Hd hb;obtain⟨z1,z2,z3,rfl⟩:=Dl hown;clear hown hb;go_wp2_with fail;refine(HSS.out _ w1 HR.out).mono ?_;rintro e w2 ⟨rfl,hb2⟩;have HB2:=Hd (HB.out.trans (hb2.mono HB.out.size));have N2:=Hd (Blk.new w2 224 Z32a);clear hb2;go_wp2_with (refine Aa rfl 224 (.tmp 3) (.tmp 6) rfl w2.heap.size SA rfl rfl 224 Z32a N2.out SI.out SZ.out (by have:=SO.out;rw[←Array.all_toList]at this;exact this) ?_);intro w3 m0 mb mo msz;have M0:=Hd m0;have HB3:=Hd ((HB2.out.alloc HB2.out.size (.cells Z32a 224)).trans ((mb w2.heap.size lR).mono HB2.out.size));have hs3:Hid (w.heap.size≤w2.heap.size):=Hd HB2.out.size;clear m0 mb mo msz;go_wp2_with fail;go_ret;refine⟨_,rfl,hs3.out,M0.out.lt,?_,HB3.out⟩;refine⟨_,32,by rw[bvs_len,Lx],by rw[bvs_len,Lx];omega,by unfold maxLen;omega,.inr ⟨_,0,rfl,fun j u hu=> ?_⟩⟩;rw[Nat.zero_add,M0.out.cell j,HSA.out,List.getElem?_toArray];exact hu
end Go.Proofs.YtfofaiommeckbaaGreat
