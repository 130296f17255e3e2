/- Arguments as they come in, in the vocabulary of Mem: lists of numbers. -/
import Derived.Test.YtfofaiommeckbaaGreatZPatchMakesB
import Derived.Test.YtfofaiommeckbaaGreatZPatchMakes00
import Derived.ProofKit
import Derived.OpenShut
import Derived.ShutString
import Derived.ChangeOld
import Derived.Test.YtfofaiommeckbaaGreatZPatchMakes02
import Derived.Deep.QuietTactic
import Derived.BigQuiet
open List renaming getD_eq_getElem?_getD → aH, getElem?_eq_getElem → aI, take_succ_eq_append_getElem → bJ, eq_nil_of_length_eq_zero → bK, length_nil → bL, take_of_length_le → bM
set_option linter.unusedVariables false
set_option maxRecDepth 100000
set_option maxHeartbeats 40000000
namespace Go.Proofs.YtfofaiommeckbaaGreat
open Go.ChangeShapes Go.WideShapes Go.ChangeAt Go.RowKit
section
def bvs (L:List Nat):List Value:=L.map fun n:Nat=> .int .u8 (n:Int)
def ivs (k:IntKind)(L:List Int):List Value:=L.map fun n=> .int k n
theorem Ui {a:Int}(h:(Lit.int .u8 a).wf=true):∃n:Nat,n<256∧a=(n:Int):=by
 have:=bounds_u8 h;exact⟨a.toNat,by omega,by omega⟩
theorem Zf0 {a:Int}(h:(Lit.int .i64 a).wf=true): -9223372036854775808≤a∧a≤9223372036854775807:=by
 have:=bounds_i64 h;omega
section
variable {H:Type} {enc:TypeId×Value→H} {P:Program}
end
end
end Go.Proofs.YtfofaiommeckbaaGreat
namespace Go.Proofs.YtfofaiommeckbaaGreat
open Go.RowKit
@[simp] theorem bvs_len (L:List Nat):(bvs L).length=L.length:=by simp[bvs]
theorem Zeh {L:List Nat} {i:Nat}(h:i<L.length):(bvs L)[i]? =some (.int .u8 ((L[i]:Nat):Int)):=by simp[bvs,h]
theorem Uj {L:List Nat} {i:Nat}(h:i<L.length):(bvs L)[i]? =some (.int .u8 ((L.getD i 0:Nat):Int)):=by simp[bvs,h]
theorem Cg (L M:List Nat):bvs (L++M)=bvs L++bvs M:=by simp[bvs]
theorem Ck (L:List Nat):∀u∈bvs L,u.oneCell'=true:=by
 intro u hu;obtain⟨n,_,rfl⟩:=List.mem_map.1 hu
 rfl
theorem Oi {L:List Nat} {m:Nat}(h:∀n∈L,n<m)(h0:0<m)(i:Nat):L.getD i 0<m:=by
 rcases Nat.lt_or_ge i L.length with hi|hi
 ·rw[aH,aI hi];exact h _ (List.getElem_mem hi)
 ·rw[aH,List.getElem?_eq_none hi];exact h0
theorem Rd.cases {w:World} {v:Value} {L:List Nat}(h:Rd w v (bvs L)):
  (∃a cap,v=.slice a 0 cap∧L=[])∨∃b off cap,0<L.length∧L.length≤cap∧cap≤maxLen∧v=.slice (some ⟨b,off,none⟩) L.length cap∧b<w.heap.size∧
   ∀i,i<L.length→w.cell? ⟨b,off+i,none⟩=some (.int .u8 ((L.getD i 0:Nat):Int)):=by
 have hlt:=h.lt;obtain⟨a,cap,rfl,h1,h2,h3⟩:=h
 by_cases hL:L=[]
 ·subst hL;exact .inl ⟨a,cap,rfl,rfl⟩
 ·right
  have hpos:0<L.length:=List.length_pos_iff.2 hL;have hne:bvs L≠[]:=(by intro h;apply hL;simpa [bvs]using h);rcases h3 with h|⟨b,off,rfl,hc⟩
  ·exact absurd h.1 hne
  ·rcases hlt with h|⟨b',off',cap',he,hb⟩
   ·exact absurd h hne
   ·simp only[Value.slice.injEq,Option.some.injEq,Addr.mk.injEq]at he;refine⟨b,off,cap,hpos,by simpa using h1,h2,by simp,by omega,?_⟩;intro i hi;exact hc i _ (Uj hi)
theorem Zbv {L M:List Nat} {i:Nat}(hi:i<L.length)(hm:i<M.length)(h:L.take i=M.take i)(he:L.getD i 0=M.getD i 0):L.take (i+1)=M.take (i+1):=by
 rw[bJ hi,bJ hm,h];simp only[aH,aI hi,aI hm,Option.getD_some]at he;rw[he]
theorem Zei {L M:List Nat} {i:Nat}(he:L.getD i 0≠M.getD i 0):L≠M:=by
 intro h;subst h;exact he rfl
theorem Kl (v v':Value)(L M:List Nat)(w:World)(h:Rd w v (bvs L))(h':Rd w v' (bvs M))(hL:∀n∈L,n<256)(hM:∀n∈M,n<256):
  Calls Tryz.prog 19 #[v,v'] w fun e w'=>e=.returned (.bool (decide (L=M)))∧∃n,w'=w.drewN n:=by
 by_cases hlen:L.length=M.length
 ·rcases h.cases with⟨a,cap,rfl,rfl⟩|⟨b,off,cap,hpos,hc1,hc2,rfl,hb,hcell⟩
  ·have:M=[]:=bK hlen.symm;subst this;rcases h'.cases with⟨a',cap',rfl,_⟩|⟨b',off',cap',hpos',_⟩
   ·clear h h' hL hM hlen;go_enter Tryz.func19,Tryz.ntmps19;go_wp2;refine wp_loop_rounds 1 ?_;rw[rounds_succ];go_wp2;go_ret;exact⟨rfl,0,rfl⟩
   ·simp at hpos'
  ·rcases h'.cases with⟨a',cap',rfl,rfl⟩|⟨b',off',cap',hpos',hc1',hc2',rfl,hb',hcell'⟩
   ·simp only[bL]at hlen;omega
   ·obtain⟨k,hk⟩:=eX L.length;rw[←hlen,←hk]at hpos' hc1' hcell'⊢;rw[←hk]at hpos hc1 hcell;have HK:=Hd hk;have HM:Hid (M.length=k):=Hd (by omega);have HC:=Hd hcell;have HC':=Hd hcell';have hkm:k≤9223372036854775807:=(by unfold maxLen at hc2;omega);clear hlen hk h h' hcell hcell';go_enter Tryz.func19,Tryz.ntmps19;go_wp2
    go_loopw [5] (fun i wr=>∃i' n:Nat,i'≤k∧L.take i'=M.take i'∧i=.int .i64 i'∧wr=w.drewN n) (fun i _=>k-(intOf i).toNat)
    case atStart=>exact⟨0,0,by omega,rfl,rfl,rfl⟩
    case round=>
     obtain⟨i,n,hi,he,rfl,rfl⟩:=hrel;have H:=Hd he;clear he
     by_cases hlt:i<k
     ·have g1:=HC.out i hlt;have g2:=HC'.out i hlt;have x1:=Oi hL (by omega) i;have x2:=Oi hM (by omega) i;obtain⟨x,hx⟩:∃x,L.getD i 0=x:=⟨_,rfl⟩;obtain⟨y,hy⟩:∃y,M.getD i 0=y:=⟨_,rfl⟩;rw[hx]at g1 x1;rw[hy]at g2 x2;have HX:=Hd hx;have HY:=Hd hy;clear hx hy
      by_cases hxy:x=y
      ·subst hxy;go_wp2
       go_quiet (fail)
       go_wp2
       go_roundw
       case rel=>exact⟨i+1,_,by omega,Zbv (by have:=HK.out;omega) (by have:=HM.out;omega) H.out (HX.out.trans HY.out.symm),by go_num,rfl⟩
       case measure=>simp[intOf];omega
      ·have hxy':((x:Int) !=(y:Int))=true:=(by simp;omega);go_wp2
       go_quiet (fail)
       go_wp2;go_ret;exact⟨Ad (by rw[decide_eq_false];exact Zei (by rw[HX.out,HY.out];exact hxy)),_,World.drewN_drewN _ _ _⟩
     ·obtain rfl:i=k:=(by omega);go_wp2;go_ret;have e:=H.out;rw[bM (by have:=HK.out;omega),bM (by have:=HM.out;omega)]at e;exact⟨Ad (by rw[decide_eq_true];exact e),_,rfl⟩
 ·have hne:((L.length:Int) !=(M.length:Int))=true:=(by simp;omega);obtain⟨a,cap,rfl,_⟩:=h;obtain⟨a',cap',rfl,_⟩:=h';rw[bvs_len,bvs_len];go_enter Tryz.func19,Tryz.ntmps19;go_wp2;go_ret;exact⟨Ad (by rw[decide_eq_false];intro h;apply hlen;rw[h]),0,rfl⟩
theorem Km (k:IntKind)(L:List Int):(ivs k L).length=L.length:=by simp[ivs]
theorem Rd.icases {w:World} {v:Value} {kd:IntKind} {L:List Int}(h:Rd w v (ivs kd L)):
  (∃a cap,v=.slice a 0 cap∧L=[])∨∃b off cap,0<L.length∧L.length≤cap∧cap≤maxLen∧v=.slice (some ⟨b,off,none⟩) L.length cap∧b<w.heap.size∧
   ∀i,i<L.length→w.cell? ⟨b,off+i,none⟩=some (.int kd (L.getD i 0)):=by
 have hlt:=h.lt;obtain⟨a,cap,rfl,h1,h2,h3⟩:=h
 by_cases hL:L=[]
 ·subst hL;exact .inl ⟨a,cap,rfl,rfl⟩
 ·right
  have hpos:0<L.length:=List.length_pos_iff.2 hL;have hne:ivs kd L≠[]:=(by intro h;apply hL;simpa [ivs]using h);rcases h3 with h|⟨b,off,rfl,hc⟩
  ·exact absurd h.1 hne
  ·rcases hlt with h|⟨b',off',cap',he,hb⟩
   ·exact absurd h hne
   ·simp only[Value.slice.injEq,Option.some.injEq,Addr.mk.injEq]at he;refine⟨b,off,cap,hpos,by simpa [ivs]using h1,h2,by simp[ivs],by omega,?_⟩;intro i hi;refine hc i _ ?_;simp[ivs,hi]
theorem Ya {L M:List Int} {i:Nat}(hi:i<L.length)(hm:i<M.length)(h:L.take i=M.take i)(he:L.getD i 0=M.getD i 0):L.take (i+1)=M.take (i+1):=by
 rw[bJ hi,bJ hm,h];simp only[aH,aI hi,aI hm,Option.getD_some]at he;rw[he]
theorem Zbw {L M:List Int} {i:Nat}(he:L.getD i 0≠M.getD i 0):L≠M:=by
 intro h;subst h;exact he rfl
theorem Ld (v v':Value)(L M:List Int)(w:World)(h:Rd w v (ivs .i64 L))(h':Rd w v' (ivs .i64 M)):
  Calls Tryz.prog 49 #[v,v'] w fun e w'=>e=.returned (.bool (decide (L=M)))∧∃n,w'=w.drewN n:=by
 by_cases hlen:L.length=M.length
 ·rcases h.icases with⟨a,cap,rfl,rfl⟩|⟨b,off,cap,hpos,hc1,hc2,rfl,hb,hcell⟩
  ·have:M=[]:=bK hlen.symm;subst this;rcases h'.icases with⟨a',cap',rfl,_⟩|⟨b',off',cap',hpos',_⟩
   ·clear h h' hlen;go_enter Tryz.func49,Tryz.ntmps49;go_wp2;refine wp_loop_rounds 1 ?_;rw[rounds_succ];go_wp2;go_ret;exact⟨rfl,0,rfl⟩
   ·simp at hpos'
  ·rcases h'.icases with⟨a',cap',rfl,rfl⟩|⟨b',off',cap',hpos',hc1',hc2',rfl,hb',hcell'⟩
   ·simp only[bL]at hlen;omega
   ·obtain⟨k,hk⟩:=eX L.length;rw[←hlen,←hk]at hpos' hc1' hcell'⊢;rw[←hk]at hpos hc1 hcell;have HK:=Hd hk;have HM:Hid (M.length=k):=Hd (by omega);have HC:=Hd hcell;have HC':=Hd hcell';have hkm:k≤9223372036854775807:=(by unfold maxLen at hc2;omega);clear hlen hk h h' hcell hcell';go_enter Tryz.func49,Tryz.ntmps49;go_wp2
    go_loopw [5] (fun i wr=>∃i' n:Nat,i'≤k∧L.take i'=M.take i'∧i=.int .i64 i'∧wr=w.drewN n) (fun i _=>k-(intOf i).toNat)
    case atStart=>exact⟨0,0,by omega,rfl,rfl,rfl⟩
    case round=>
     obtain⟨i,n,hi,he,rfl,rfl⟩:=hrel;have H:=Hd he;clear he
     by_cases hlt:i<k
     ·have g1:=HC.out i hlt;have g2:=HC'.out i hlt;obtain⟨x,hx⟩:∃x,L.getD i 0=x:=⟨_,rfl⟩;obtain⟨y,hy⟩:∃y,M.getD i 0=y:=⟨_,rfl⟩;rw[hx]at g1;rw[hy]at g2;have HX:=Hd hx;have HY:=Hd hy;clear hx hy
      by_cases hxy:x=y
      ·subst hxy;go_wp2
       go_quiet (fail)
       go_wp2
       go_roundw
       case rel=>exact⟨i+1,_,by omega,Ya (by have:=HK.out;omega) (by have:=HM.out;omega) H.out (HX.out.trans HY.out.symm),by go_num,rfl⟩
       case measure=>simp[intOf];omega
      ·have hxy':(x !=y)=true:=(by simp[hxy]);go_wp2
       go_quiet (fail)
       go_wp2;go_ret;exact⟨Ad (by rw[decide_eq_false];exact Zbw (by rw[HX.out,HY.out];exact hxy)),_,World.drewN_drewN _ _ _⟩
     ·obtain rfl:i=k:=(by omega);go_wp2;go_ret;have e:=H.out;rw[bM (by have:=HK.out;omega),bM (by have:=HM.out;omega)]at e;exact⟨Ad (by rw[decide_eq_true];exact e),_,rfl⟩
 ·have hne:((L.length:Int) !=(M.length:Int))=true:=(by simp;omega);obtain⟨a,cap,rfl,_⟩:=h;obtain⟨a',cap',rfl,_⟩:=h';rw[Km,Km];go_enter Tryz.func49,Tryz.ntmps49;go_wp2;go_ret;exact⟨Ad (by rw[decide_eq_false];intro h;apply hlen;rw[h]),0,rfl⟩
theorem Rd.get {w:World} {a:Option Addr} {n cap r:Nat} {xs:List Value} {u:Value}(h:Rd w (.slice a n cap) xs)(hu:xs[r]? =some u):∃b off,a=some ⟨b,off,none⟩∧b<w.heap.size∧w.cell? ⟨b,off+r,none⟩=some u:=by
 have hlt:=h.lt;obtain⟨a',cap',he,h1,h2,⟨h0,_⟩|⟨b,off,rfl,hc⟩⟩:=h
 ·rw[h0]at hu;simp at hu
 ·simp only[Value.slice.injEq]at he;obtain⟨rfl,_,_⟩:=he;have:=hc r u hu;exact⟨b,off,rfl,World.block_lt_of_cell? w _ this,this⟩
end Go.Proofs.YtfofaiommeckbaaGreat
