/- Walks: bits.RotateLeft32, sha.right. -/
import Derived.Test.YtfofaiommeckbaaGreatZSliceReadsB
import Derived.Test.YtfofaiommeckbaaGreatZSliceReads05
open Nat renaming mod_eq_of_lt → aP, lt_of_le_of_lt → cR
open List renaming getD_eq_getElem?_getD → aH, getElem?_toArray → bK, getElem?_cons_zero → bL, getElem?_cons_succ → bM
set_option linter.unusedVariables false
set_option maxRecDepth 100000
set_option maxHeartbeats 40000000
namespace Go.Proofs.YtfofaiommeckbaaGreat
open Go.RowKit ShaM
theorem Zkp (n:Nat)(h1:1≤n)(h2:n≤31):bits .and .u64 ((18446744073709551616-n:Nat):Int) 31=((32-n:Nat):Int):=by
 show IntKind.u64.wrap ((BitVec.ofInt 64 ((18446744073709551616-n:Nat):Int)&&&BitVec.ofInt 64 ((31:Nat):Int)).toNat:Int)=_;rw[BitVec.toNat_and,BitVec.ofInt_natCast,BitVec.ofInt_natCast,BitVec.toNat_ofNat,BitVec.toNat_ofNat,aP (show 18446744073709551616-n<2^64 by omega),aP (show 31<2^64 by decide),IntKind.wrap_u64];have:=Nat.and_two_pow_sub_one_eq_mod (18446744073709551616-n) 5;simp only[Nat.reducePow,Nat.reduceSub]at this;rw[this];omega
theorem Zki (a b:Nat)(ha:a<4294967296)(hb:b<4294967296):bits .or .u32 (a:Int) (b:Int)=((a|||b:Nat):Int):=by
 have h2:a|||b<2^32:=Nat.or_lt_two_pow (by omega) (by omega)
 show IntKind.u32.wrap ((BitVec.ofInt 32 (a:Int)|||BitVec.ofInt 32 (b:Int)).toNat:Int)=_;rw[BitVec.toNat_or,BitVec.ofInt_natCast,BitVec.ofInt_natCast,BitVec.toNat_ofNat,BitVec.toNat_ofNat,aP (show a<2^32 by omega),aP (show b<2^32 by omega),IntKind.wrap_u32];omega
theorem Li (a b:Nat)(ha:a<4294967296)(hb:b<4294967296):bits .xor .u32 (a:Int) (b:Int)=((a^^^b:Nat):Int):=by
 have h2:a^^^b<2^32:=Nat.xor_lt_two_pow (by omega) (by omega);show IntKind.u32.wrap ((BitVec.ofInt 32 (a:Int)^^^BitVec.ofInt 32 (b:Int)).toNat:Int)=_;rw[BitVec.toNat_xor,BitVec.ofInt_natCast,BitVec.ofInt_natCast,BitVec.toNat_ofNat,BitVec.toNat_ofNat,aP (show a<2^32 by omega),aP (show b<2^32 by omega),IntKind.wrap_u32];omega
theorem Zbe (a b:Nat)(ha:a<4294967296)(hb:b<4294967296):bits .and .u32 (a:Int) (b:Int)=((a&&&b:Nat):Int):=by
 have h2:a&&&b<2^32:=cR Nat.and_le_left ha;show IntKind.u32.wrap ((BitVec.ofInt 32 (a:Int)&&&BitVec.ofInt 32 (b:Int)).toNat:Int)=_;rw[BitVec.toNat_and,BitVec.ofInt_natCast,BitVec.ofInt_natCast,BitVec.toNat_ofNat,BitVec.toNat_ofNat,aP (show a<2^32 by omega),aP (show b<2^32 by omega),IntKind.wrap_u32];omega
theorem Ze7 (x n:Nat)(hx:x<4294967296)(h1:1≤n)(h2:n≤31)(w:World):
  Calls Tryz.prog 290 #[.int .u32 (x:Nat),.int .i64 (-(n:Int))] w fun e w'=>e=.returned (.int .u32 (rot x n:Nat))∧w'=w:=by
 obtain⟨m,hm⟩:=eX (18446744073709551616-n);obtain⟨s,hs⟩:=eX (32-n);have e1:IntKind.u64.wrap (-(n:Int))=(m:Int):=(by rw[IntKind.wrap_u64];omega);have e2:=Zkp n h1 h2;rw[←hm,←hs]at e2;have e3:(32:Int)-(s:Int)=(n:Int):=(by omega);have hs32:s<32:=(by omega);have HS:=Hd hs;clear hm hs;go_enter Tryz.func290,Tryz.ntmps290;go_wp2_with fail;go_ret;refine⟨?_,rfl⟩;have c1:(x:Int)*2^s%4294967296=((x*2^s%4294967296:Nat):Int):=(by rw[Int.natCast_emod,Int.natCast_mul,Int.natCast_pow];rfl);have c2:(x:Int)/2^n=((x/2^n:Nat):Int):=(by rw[Int.natCast_ediv,Int.natCast_pow];rfl);have c3:x/2^n<4294967296:=cR (Nat.div_le_self _ _) hx;show Ending.returned (.int .u32 (bits BinOp.or IntKind.u32 ((x:Int)*2^s%4294967296) ((x:Int)/2^n)))=_;rw[c1,c2,Zki _ _ (Nat.mod_lt _ (by omega)) c3,HS.out,rot_or hx (by omega)]
theorem Fp (x n:Nat)(hx:x<4294967296)(h1:1≤n)(h2:n≤31)(w:World):
  Calls Tryz.prog 273 #[.int .u32 (x:Nat),.int .i64 (n:Nat)] w fun e w'=>e=.returned (.int .u32 (rot x n:Nat))∧w'=w:=by
 have R:=Hd (Ze7 x n hx h1 h2 w);go_enter Tryz.func273,Tryz.ntmps273;go_wp2_with fail;refine(R.out).mono ?_;rintro e w' ⟨rfl,rfl⟩;go_wp2_with fail;go_ret;exact⟨rfl,rfl⟩
end Go.Proofs.YtfofaiommeckbaaGreat
namespace Go.Proofs.YtfofaiommeckbaaGreat
open Go.RowKit WireM
def Ct (L:List Nat):Nat:=L.foldl (fun a c=>a*256+c) 0
theorem Mq (L:List Nat)(c:Nat):Ct (L++[c])=Ct L*256+c:=by simp[Ct]
theorem Mr:∀(k:Nat) (L:List Nat),L.length=k→(∀n∈L,n<256)→Ct L<256^k:=by
 intro k
 induction k with
 |zero=>intro L h _;rw[List.eq_nil_of_length_eq_zero h];decide
 |succ k ih=>
  intro L h hL;have hne:L≠[]:=(by intro e;subst e;simp at h);rw[←List.dropLast_concat_getLast hne,Mq];have h1:=ih L.dropLast (by simp[h]) (fun n hn=>hL n (List.dropLast_subset _ hn));have h2:=hL _ (List.getLast_mem hne);rw[Nat.pow_succ];omega
theorem Zkq (a c:Nat)(hc:c<256):a*256|||c=a*256+c:=by
 have:=Nat.two_pow_add_eq_or_of_lt (i:=8) (b:=c) hc a;rw[Nat.mul_comm]at this;exact this.symm
theorem Yy {L:List Nat} {r:Nat}(h:r<L.length):L.take (r+1)=L.take r++[L.getD r 0]:=by
 rw[List.take_succ_eq_append_getElem h,aH,List.getElem?_eq_getElem h];rfl
theorem Zjm {r:Nat}(h:r≤7):256^r≤72057594037927936:=by
 have:=Nat.pow_le_pow_right (show 0<256 by omega) h;exact this
theorem Kf (v:Value)(L:List Nat)(w:World)(h:Rd w v (bvs L))(hl:L.length≤8)(hL:∀n∈L,n<256):
  Calls Tryz.prog 201 #[v] w fun e w'=>e=.returned (.int .u64 (Ct L:Nat))∧w=w':=by
 have hcell:=h.cases;obtain⟨a,cap,rfl,hc1,hc2,hc3⟩:=h;rw[bvs_len]at hc1 hcell⊢;obtain⟨k,hk⟩:=eX L.length;rw[←hk]at hc1 hl hcell⊢;have HC:=Hd hcell;have HK:=Hd hk;have HL:=Hd hL;clear hcell hc3 hk hL;go_enter Tryz.func201,Tryz.ntmps201;go_wp2_with fail
 go_loopg [3,8] k (fun q m i wr=>∃r:Nat,r+q=k∧i=.int .i64 (r:Int)∧m=.int .u64 (Ct (L.take r):Nat)∧wr=w)
 case atStart=>exact⟨0,by omega,rfl,rfl,rfl⟩
 case round=>
  obtain⟨r,hr,rfl,rfl,rfl⟩:=hrel
  by_cases hrk:r<k
  ·have hrL:r<L.length:=(by have:=HK.out;omega);have hlt:=Mr r (L.take r) (by rw[List.length_take];omega) (fun n hn=>HL.out n (List.mem_of_mem_take hn));have hp:=Zjm (show r≤7 by omega);have hs:=Yy hrL;have hc:=Il HL.out (by omega) r;obtain⟨b,off,rfl,c0⟩:∃b off,a=some ⟨b,off,none⟩∧wr.cell? ⟨b,off+r,none⟩=some (.int .u8 ((L.getD r 0:Nat):Int)):=by
    rcases HC.out with⟨_,_,he,h0⟩|⟨b,off,cap',_,_,_,he,_,hc⟩
    ·rw[h0]at hrL;simp at hrL
    ·simp only[Value.slice.injEq]at he;exact⟨b,off,he.1,hc r hrk⟩
   obtain⟨c,hcc⟩:=eX (L.getD r 0);obtain⟨x,hx⟩:=eX (Ct (L.take r));rw[←hcc]at hs c0 hc;rw[←hx]at hlt⊢;have hx2:x<72057594037927936:=(by omega);have ho:=u64_or_nat (x*256) c (by omega) (by omega);rw[Zkq x c hc]at ho;have hn:((x*256:Nat):Int)=(x:Int)*256:=(by omega);rw[hn]at ho;have HX:=Hd hx;have HS:=Hd hs;clear hcc hx hs hlt hp hn;go_wp2_with fail;go_roundg (gk-1);case measure=>omega
   case rel=>
    refine⟨r+1,by omega,by go_num,?_,rfl⟩;rw[HS.out,Mq,←HX.out];exact Gw (by omega)
  ·obtain rfl:r=k:=(by omega);go_wp2_with fail;go_ret;refine⟨Zao ?_,rfl⟩;rw[HK.out,List.take_length]
theorem Ji (v:Value)(L:List Nat)(w:World)(h:Rd w v (bvs L)):
  Calls Tryz.prog 101 #[v] w fun e w'=>e=.returned (.pointer (some ⟨w.heap.size,0,none⟩))∧RS w' w.heap.size L 0∧Below w.heap.size w w':=by
 have hl:=bvs_len L;obtain⟨a,cap,rfl,_⟩:=id h;rw[hl]at h⊢;have HR:=Hd h;clear h hl;go_enter Tryz.func101,Tryz.ntmps101;go_wp2_with fail;go_ret;exact⟨rfl,⟨_,Blk.new _ _ _,(HR.out.k lR).keep fun p hp=>World.cell?_alloc_lt w _ p hp⟩,bR.alloc lR _⟩
theorem Gh (B:Nat)(L:List Nat)(er:Nat)(w:World)(h:RS w B L er):
  Calls Tryz.prog 155 #[.pointer (some ⟨B,0,none⟩)] w fun e w'=>e=.returned (.int .u8 (er:Nat))∧w=w':=by
 obtain⟨v,hb,hr⟩:=h;have k1:=hb.cell 1;simp only[bK,bL,bM]at k1;clear hb hr;go_enter Tryz.func155,Tryz.ntmps155;go_wp2_with fail;go_ret;exact⟨rfl,rfl⟩
def Ze8 (L:List Nat)(er:Nat):Nat:=if er≠0 then er else if L=[]then 0 else 5
theorem Zh4 (B:Nat)(L:List Nat)(er:Nat)(w:World)(h:RS w B L er):
  Calls Tryz.prog 122 #[.pointer (some ⟨B,0,none⟩)] w fun e w'=>e=.returned (.int .u8 (Ze8 L er:Nat))∧w=w':=by
 have HE:=Hd (Gh B L er w h);obtain⟨v,hb,hr⟩:=h;obtain⟨a,cap,rfl,_⟩:=hr;rw[bvs_len]at hb;have k0:=hb.cell 0;have k1:=hb.cell 1;simp only[bK,bL,bM]at k0 k1;clear hb;unfold Ze8
 by_cases he:er=0
 ·subst he
  by_cases hl:L=[]
  ·subst hl;rw[if_neg (by simp),if_pos rfl];simp only[List.length_nil]at k0;go_enter Tryz.func122,Tryz.ntmps122;go_wp2_with fail;refine HE.out.mono ?_;rintro e w' ⟨rfl,rfl⟩;go_wp2_with fail;go_ret;exact⟨rfl,rfl⟩
  ·rw[if_neg (by simp),if_neg hl];have hpos:0<L.length:=List.length_pos_iff.2 hl;clear hl;go_enter Tryz.func122,Tryz.ntmps122;go_wp2_with fail;refine HE.out.mono ?_;rintro e w' ⟨rfl,rfl⟩;go_wp2_with fail;go_ret;exact⟨rfl,rfl⟩
 ·rw[if_pos he];have hc:((er:Int) !=0)=true:=(by simp;omega);clear he;go_enter Tryz.func122,Tryz.ntmps122;go_wp2_with fail;refine HE.out.mono ?_;rintro e w' ⟨rfl,rfl⟩;go_wp2_with fail;go_ret;exact⟨rfl,rfl⟩
open ShaM
def qvs (L:List Nat):List Value:=L.map fun n:Nat=> .int .u64 (n:Int)
@[simp] theorem qvs_len (L:List Nat):(qvs L).length=L.length:=by simp[qvs]
theorem Zkr {L:List Nat} {i:Nat}(h:i<L.length):(qvs L)[i]? =some (.int .u64 ((L.getD i 0:Nat):Int)):=by simp[qvs,aH,h]
end Go.Proofs.YtfofaiommeckbaaGreat
