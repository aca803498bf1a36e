/- Part 5 of the proof: an abstract machine over the model, contracts of the functions, the mathematics of the simplex. -/
import Derived.Test.YtphliffdmedfbaaGreatDoorPd
set_option maxRecDepth 100000
set_option maxHeartbeats 8000000
set_option linter.all false
set_option exponentiation.threshold 5000
namespace Go.AX.Run
open Go.RowKit Go.Proofs Go.AX Go.Num Tryz
section
attribute [local simp] Qq Qh Qk Qr QR QU QO Q4 QX QP QK Zd alen
theorem QF.hv{P:Program}{f:FuncId}{args:List AV}{st:St}{K:Cls→AV→Qf→Nat→Prop}{u:AV}(h:Qc P f args st.H st.N fun r H' N'=>r=u∧H'=st.H∧N'=st.N)(hk:K (.hvy (some [])) u st.H st.N):QF P f args st K :=
 ⟨.hvy (some []),u,st.H,st.N,hk,h,Nat.le_refl _,fun id _ _=>rfl⟩
section
variable{n:Nat}{F:List Fct}{H:Qf}{N:Nat}{loc:Loc→Nat}{T:Tb}{I:Tb→Prop}
def tbox(q:Nat)(tab:Nat)(H:Qf):Prop:=H.b q=some ⟨89,1,[[.ptr tab 7 0 0]],false,some 1⟩
theorem qiJ(hR:Rep n F H N loc T)(hF:Fit n F T){q:Nat}(hq:tbox q (loc .tab) H):Kind H N 126 [] [.ptr q 1 0 0] (fun v=>!QY n F v):=fun v hv=>by refine Qc.body func126 ntmps126 ?_;unfold tbox at hq;simp[hq];refine(qbo hR.tab (hR.lt .tab trivial) (by have:=hF.n;omega) (by have:=hF.f;omega) v (by omega)).mono ?_;rintro r H' N' ⟨rfl,rfl,rfl⟩;simp
def EqA(n:Nat)(F:List Fct)(R:Nat)(G:Qf)(N':Nat)(T':Tb)(q i:Nat)(st:St):Prop:=∃env w,st=⟨100,env,G,N'⟩∧env 1=.ptr q 1 0 0∧env 3=.v (.int .i64 (i:Nat))∧env 4=.v (.int .i64 w)∧env 9=.v (.int .i64 (R:Nat))∧env 10=.v (.int .i64 (i:Nat)) ∧
 (((w<0∨w=T'.cols.length)∧LP.Wh (Zt n) (QY n F) T'.lp i=LP.We (fun v=>!QY n F v) T'.lp i)∨∃k:Nat,w=k∧k<T'.cols.length∧LP.Wh (Zt n) (QY n F) T'.lp i=some k)
def EqI(n:Nat)(F:List Fct)(H:Qf)(N:Nat)(loc:Loc→Nat)(T:Tb)(I:Tb→Prop)(i:Nat)(st:St):Prop:=i≤T.rows.length∧∃env G N' loc' T',st=⟨100,env,G,N'⟩∧env 1=.ptr N 1 0 0∧env 9=.v (.int .i64 (T.rows.length:Nat))∧env 10=.v (.int .i64 (i:Nat)) ∧
 Mv n F H N loc T G N' loc' T'∧tbox N (loc .tab) G∧N<N'∧(∀L,T'.valid L→loc' L≠N)∧I T'∧T'.rows.length=T.rows.length∧T'.goals.length=T.goals.length∧LP.qak (Zt n) (QY n F) (T.rows.length-i) i T'.lp=LP.qak (Zt n) (QY n F) T.rows.length 0 T.lp
def p0(n:Nat)(F:List Fct)(T:Tb)(i k0:Nat)(k:Nat):Bool:=decide (k0≤k)&&(!QY n F (T.cols.getD k 0)&&decide ((LP.rowAt T.lp i).co k≠0))
theorem qbm(T:Tb)(i:Nat):LP.Wh (Zt n) (QY n F) T.lp i=match (List.range T.cols.length).find? (kdP (Zt n) T.cols)with
  | none=>LP.We (fun v=>!QY n F v) T.lp i
  | some k0=>match (List.range T.cols.length).find? (p0 n F T i k0)with
   | some k=>some k
   | none=>LP.We (fun v=>!QY n F v) T.lp i:=rfl
def EqW(n:Nat)(F:List Fct)(R:Nat)(G:Qf)(N':Nat)(T':Tb)(q i:Nat)(k0:Option Nat)(j:Nat)(st:St):Prop:=∃env w,st=⟨100,env,G,N'⟩∧env 1=.ptr q 1 0 0∧env 3=.v (.int .i64 (i:Nat))∧env 4=.v (.int .i64 w)∧env 9=.v (.int .i64 (R:Nat))∧env 10=.v (.int .i64 (i:Nat)) ∧
 match k0 with|none=>w = -1|some k=>w=(j:Int)∧k≤j∧j≤T'.cols.length∧Kh (p0 n F T' i k) j
theorem qcy(hI:qkq n F I)(hR:Rep n F H N loc T)(hT:I T) :
  Qc prog 92 [.ptr (loc .tab) 7 0 0] H N fun r H' N'=>∃loc' T' o,r=.v (.int .i64 (oI o))∧Mv n F H N loc T H' N' loc' T'∧I T'∧T'.rows.length=T.rows.length∧T'.goals.length=T.goals.length∧LP.qak (Zt n) (QY n F) T.rows.length 0 T.lp=(T'.lp,o):=by
 refine Qc.body func92 ntmps92 ?_;have htab:=hR.tab;unfold tref Z5 at htab;have hr1:=(hI.fit _ hT).r;have lt0:=hR.lt .tab trivial;simp[htab,show ¬loc .tab=N by omega];have hE:Ext H N (H.set N ⟨89,1,[[.ptr (loc .tab) 7 0 0]],false,some 1⟩) (N+1):=⟨by omega,rfl,fun j hj=>by simp[show ¬j=N by omega]⟩;refine Qp.of (EqI n F H N loc T I) (fun j=>T.rows.length-j) 0 ⟨by omega,_,_,_,loc,T,rfl,by simp,by simp,by simp,Mv.ext hR hE,by simp[tbox],by omega,fun L v=>by have:=hR.lt L v;omega,hT,rfl,rfl,rfl⟩ ?_;rintro i _ ⟨hi,env,G,N',loc',T',rfl,g1,g9,g10,hM,hq,hqN,hqL,hT',hl,hgl,hu⟩;have hR':=hM.rep;have htl:=hM.tab;have hF':=hI.fit _ hT';have htab':=hR'.tab;have htab0:=hR'.tab;rw[htl]at htab' htab0;unfold tref Z5 at htab';have hq':=hq;unfold tbox at hq';by_cases hiN:i<T.rows.length
 ·have hi':i<T'.rows.length:=by omega
  have hib:i<T'.basis.length:=by rw[hR'.hbl];exact hi'
  obtain⟨cb,tb,hbas⟩:=hR'.basis;have hv:=hF'.vb i hib;have e1:=ZK hib;rw[e1]at hv;have hn1:=hF'.n;have hf1:=hF'.f;have ltab:=hR'.lt .tab trivial;rw[htl]at ltab;have lbas:=hR'.lt .basis trivial;have lcol:=hR'.lt .cols trivial;have hfix:=fun v (hv:v≤10000000) H1 N1 (e:H1.b (loc .tab)=G.b (loc .tab)) hN=>qbo (H:=H1) (N:=N1) (e.trans htab0) hN (by omega) (by omega) v hv;simp[g9,g10,hiN];refine Qm.walk (fun _=>false) mixed ?_;simp[Q0,g1,hiN,hq',htab',hbas,hl,hR'.hbl,Zq,hqN,ltab,lbas];refine QF.qbx (loc .tab) (sz:=7) (i:=0) (off:=0) (u:=.v (.bool (QY n F T'.basis[i]))) ?_ ?_ (fun H1 N1 e hN1=>hfix _ (by omega) H1 N1 (e.trans ?_) hN1) ?_
  ·simp
  ·exact ltab
  ·rfl
  simp;refine⟨Zg.ofM (by kernel_rfl),?_⟩;have eu:LP.qak (Zt n) (QY n F) (T.rows.length-i) i T'.lp=if QY n F T'.basis[i]=true then(match LP.Wh (Zt n) (QY n F) T'.lp i with|some k=>LP.qak (Zt n) (QY n F) (T.rows.length-(i+1)) (i+1) (LP.pivot T'.lp i k)|none=>if(T'.row i).1≠0 then(T'.lp,some i)else LP.qak (Zt n) (QY n F) (T.rows.length-(i+1)) (i+1) T'.lp)else LP.qak (Zt n) (QY n F) (T.rows.length-(i+1)) (i+1) T'.lp:=by rw[show T.rows.length-i=(T.rows.length-(i+1))+1 by omega,LP.qak,show T'.lp.basis.getD i 0=T'.basis[i] from e1,qby]<;>rfl
  cases hb:QY n F T'.basis[i]with
  | false =>rw[hb,if_neg (by simp)]at eu;simp[g10,QH (show i+1<9223372036854775808 by omega)];exact⟨i+1,⟨by omega,_,_,_,loc',T',rfl,by simp[g1],by simp[g9],by simp,hM,hq,hqN,hqL,hT',hl,hgl,eu.symm.trans hu⟩,by omega⟩
  | true =>
   rw[hb,if_pos rfl]at eu;simp[g10];refine Qm.walk (fun _=>false) mixed ?_;simp[Q0,g1,hq',htab',hqN,ltab];refine QF.hv (u:=.v (.int .i64 (oI ((List.range T'.cols.length).find? (kdP (Zt n) T'.cols))))) ?_ ?_
   ·rw[←htl];exact qcH hR' hF' (qcK hR')
   simp;refine⟨Zg.ofM (by kernel_rfl),?_⟩;refine Qp.cut 2 (EqA n F T.rows.length G N' T' N i) ?_ ?_
   ·cases hk0:(List.range T'.cols.length).find? (kdP (Zt n) T'.cols)with
    | none =>refine Qp.of (EqW n F T.rows.length G N' T' N i none) (fun _=>0) 0 ⟨_,-1,rfl,by simp[g1],by simp,by simp[oI],by simp[g9],by simp[g10],rfl⟩ ?_;rintro j _ ⟨env2,w,rfl,f1,f3,f4,f9,f10,rfl⟩;simp;refine Qm.walk (fun _=>false) mixed ?_;simp[-Qa,-Qb,undef,f4];refine⟨Zg.ofM (by kernel_rfl),?_⟩;refine⟨_,-1,rfl,by simp[f1],by simp[f3],by simp[f4],by simp[f9],by simp[f10],.inl ⟨.inl (by omega),?_⟩⟩;rw[qbm,hk0]
    | some k0 =>
     have hk1:=List.mem_range.1 (List.mem_of_find?_eq_some hk0);obtain⟨ccl,tcl,hcols⟩:=hR'.cols;obtain⟨cr,tr,hrows⟩:=hR'.rows;obtain⟨crc,trc,hrc⟩:=hR'.rc i hi';have hrl:=hR'.hrl i hi';have lrow:=hR'.lt .rows trivial;have lrc:=hR'.lt (.rc i) hi';have hcl:=hF'.c;have hrg:=ZF T' loc' tr i hi';unfold Yb at hrg;refine Qp.of (EqW n F T.rows.length G N' T' N i (some k0)) (fun j=>T'.cols.length-j) k0 ⟨_,(k0:Int),rfl,by simp[g1],by simp,by simp[oI],by simp[g9],by simp[g10],rfl,Nat.le_refl _,by omega,fun j hj=>by unfold p0;rw[decide_eq_false (by omega)];rfl⟩ ?_;rintro j _ ⟨env2,w,rfl,f1,f3,f4,f9,f10,rfl,j1,j2,j3⟩;by_cases hjN:j<T'.cols.length
     ·have hvc:=hF'.vc j hjN;have e2:=ZK hjN;have hjr:j<(T'.row i).2.length:=by omega
      have e3:=Jk hjr;rw[e2]at hvc;simp;refine Qm.walk (fun _=>false) mixed ?_;simp[Q0,-Qa,-Qb,f1,f4,hq',htab',hqN,ltab,lcol,hjN,hcols,Zq,show(0:Int)≤(j:Int) by omega];refine QF.qbx (loc .tab) (sz:=7) (i:=0) (off:=0) (u:=.v (.bool (QY n F T'.cols[j]))) ?_ ?_ (fun H1 N1 e hN1=>hfix _ (by omega) H1 N1 (e.trans ?_) hN1) ?_
      ·simp
      ·exact ltab
      ·rfl
      cases hfx:QY n F T'.cols[j]with
      | true =>simp[-Qa,-Qb,undef,f4,QH (show j+1<9223372036854775808 by omega)];exact⟨Zg.ofM (by kernel_rfl),j+1,⟨_,((j+1:Nat):Int),rfl,by simp[f1],by simp[f3],by simp,by simp[f9],by simp[f10],rfl,by omega,by omega,j3.succ (by unfold p0;rw[e2,hfx];simp)⟩,by omega⟩
      | false =>
       by_cases h0:(T'.row i).2[j]=0
       ·simp[Q0,-Qa,-Qb,f1,f3,f4,hq',htab',hqN,ltab,lrow,lrc,hl,hiN,hrows,hrg,hrc,hjr,hjN,ZI,qif,h0,QH (show j+1<9223372036854775808 by omega)];exact⟨Zg.ofM (by kernel_rfl),j+1,⟨_,((j+1:Nat):Int),rfl,by simp[f1],by simp[f3],by simp,by simp[f9],by simp[f10],rfl,by omega,by omega,j3.succ (by unfold p0;rw[qam,e3,h0];simp)⟩,by omega⟩
       ·simp[Q0,-Qa,-Qb,f1,f3,f4,hq',htab',hqN,ltab,lrow,lrc,hl,hiN,hrows,hrg,hrc,hjr,hjN,ZI,qif,h0];refine⟨Zg.ofM (by kernel_rfl),⟨_,(j:Int),rfl,by simp[f1],by simp[f3],by simp[f4],by simp[f9],by simp[f10],.inr ⟨j,rfl,hjN,?_⟩⟩⟩;rw[qbm,hk0];simp only[];rw[JI (k:=j) hjN (by unfold p0;rw[e2,hfx,qam,e3];simp[h0,j1]) fun j' h'=>j3 j' h']
     ·have hjE:j=T'.cols.length:=by omega
      simp;refine Qm.walk (fun _=>false) mixed ?_;simp[Q0,-Qa,-Qb,undef,f1,f4,hq',htab',hqN,ltab,show ¬(j:Int)<(T'.cols.length:Int) by omega,show(0:Int)≤(j:Int) by omega];refine⟨Zg.ofM (by kernel_rfl),⟨_,(j:Int),rfl,by simp[f1],by simp[f3],by simp[f4],by simp[f9],by simp[f10],.inl ⟨.inr (by omega),?_⟩⟩⟩;rw[qbm,hk0];simp only[];rw[JH fun j' h'=>j3 j' (by omega)]
   ·rintro st ⟨env2,w,rfl,f1,f3,f4,f9,f10,hw⟩;have hkn:Kind G N' 126 [] [.ptr N 1 0 0] (fun v=>!QY n F v):=qiJ hR' hF' (by rw[htl];exact hq);have hcolk:=qcm hR' hF' i hi' hkn;rw[htl]at hcolk;have hpiv:∀(k:Nat) (env3:Nat→AV),k<T'.cols.length→(T'.row i).2.getD k 0≠0→LP.Wh (Zt n) (QY n F) T'.lp i=some k→env3 1=.ptr N 1 0 0→env3 9=.v (.int .i64 (T.rows.length:Nat))→env3 10=.v (.int .i64 (i:Nat)) →
      ∀N2 H2 loc2,Mv n F G N' loc' T' H2 N2 loc2 (T'.pivot i k)→I (T'.pivot i k)→EqI n F H N loc T I (i+1) ⟨100,upd env3 10 (.v (.int .i64 ((i:Int)+1))),H2,N2⟩:=fun k env3 hk hne he h1 h9 h10 N2 H2 loc2 hM2 hI2=>by
     obtain⟨p1,p2,p3,p4⟩:=Y3 T' i k;obtain⟨q1,q2⟩:=hM2.keep hqN hqL;refine⟨by omega,_,H2,N2,loc2,T'.pivot i k,rfl,by simp[h1],by simp[h9],by simp,hM.trans hM2 (fun j h1 h2=>by omega),?_,by have:=hM2.le;omega,q2,hI2,by omega,by omega,?_⟩
     ·unfold tbox;rw[q1];exact hq
     ·rw[KU hR'.hrl hR'.hgl hi'];rw[he]at eu;exact eu.symm.trans hu
    have hfin:∀(k:Nat) (env3:Nat→AV),LP.Wh (Zt n) (QY n F) T'.lp i=some k→env3 1=.ptr N 1 0 0→env3 9=.v (.int .i64 (T.rows.length:Nat))→env3 10=.v (.int .i64 (i:Nat)) →
      k<T'.cols.length∧(T'.row i).2.getD k 0≠0:=fun k env3 he _ _ _=>by
     obtain⟨k1,k2,k3⟩:=LP.qaD he;rw[qam]at k3;exact⟨k1,k3⟩
    obtain⟨cr,tr,hrows⟩:=hR'.rows;have hrg:=ZF T' loc' tr i hi';unfold Yb at hrg;rcases hw with⟨hw,he⟩|⟨k,rfl,hk,he⟩
    ·have hw0:w<0∨(¬w<0∧w=(T'.cols.length:Int)):=by omega
     rcases hw0 with hw3|⟨hw3,hw4⟩
     ·simp[-Qa,-Qb,undef,f1,f3,f4,hw3,hq'];refine hcolk.mono ?_;rintro r H' N2 ⟨rfl,rfl,rfl⟩;rw[←he];cases hc:LP.Wh (Zt n) (QY n F) T'.lp i with
      | none =>
       rw[hc]at eu;simp[oI,f1,f3,f10,hq',htab',hl,hiN,hrows,hrg,Kz];by_cases h0:(T'.row i).1=0
       ·simp[h0,QH (show i+1<9223372036854775808 by omega)];refine⟨i+1,⟨by omega,_,_,_,loc',T',rfl,by simp[f1],by simp[f9],by simp,hM,hq,hqN,hqL,hT',hl,hgl,?_⟩,by omega⟩;rw[←hu,eu];simp[h0]
       ·simp[h0];refine⟨loc',T',some i,rfl,hM,hT',hl,hgl,?_⟩;rw[←hu,eu];simp[h0]
      | some k =>obtain⟨k1,k2⟩:=hfin k env2 hc f1 f9 f10;simp[oI,f1,f3,hq',show(0:Int)≤(k:Int) by omega];rw[←htl];refine(KW hI hR' hT' i k hi' k1 k2).mono ?_;rintro r H2 N2 ⟨loc2,hM2,hI2⟩;simp[f10,QH (show i+1<9223372036854775808 by omega)];exact⟨i+1,hpiv k _ k1 k2 hc (by simp[f1]) (by simp[f9]) (by simp[f10]) _ _ loc2 hM2 hI2,by omega⟩
     ·simp[-Qa,-Qb,f1,f3,f4,hw4,hq',htab',show ¬(T'.cols.length:Int)<0 by omega];refine hcolk.mono ?_;rintro r H' N2 ⟨rfl,rfl,rfl⟩;rw[←he];cases hc:LP.Wh (Zt n) (QY n F) T'.lp i with
      | none =>
       rw[hc]at eu;simp[oI,f1,f3,f10,hq',htab',hl,hiN,hrows,hrg,Kz];by_cases h0:(T'.row i).1=0
       ·simp[h0,QH (show i+1<9223372036854775808 by omega)];refine⟨i+1,⟨by omega,_,_,_,loc',T',rfl,by simp[f1],by simp[f9],by simp,hM,hq,hqN,hqL,hT',hl,hgl,?_⟩,by omega⟩;rw[←hu,eu];simp[h0]
       ·simp[h0];refine⟨loc',T',some i,rfl,hM,hT',hl,hgl,?_⟩;rw[←hu,eu];simp[h0]
      | some k =>obtain⟨k1,k2⟩:=hfin k env2 hc f1 f9 f10;simp[oI,f1,f3,hq',show(0:Int)≤(k:Int) by omega];rw[←htl];refine(KW hI hR' hT' i k hi' k1 k2).mono ?_;rintro r H2 N2 ⟨loc2,hM2,hI2⟩;simp[f10,QH (show i+1<9223372036854775808 by omega)];exact⟨i+1,hpiv k _ k1 k2 hc (by simp[f1]) (by simp[f9]) (by simp[f10]) _ _ loc2 hM2 hI2,by omega⟩
    ·obtain⟨k1,k2⟩:=hfin k env2 he f1 f9 f10;have hc:=he;simp[-Qa,-Qb,f1,f3,f4,hq',htab',show ¬(k:Int)<0 by omega,show ¬(k:Int)=(T'.cols.length:Int) by omega,show(0:Int)≤(k:Int) by omega];rw[←htl];refine(KW hI hR' hT' i k hi' k1 k2).mono ?_;rintro r H2 N2 ⟨loc2,hM2,hI2⟩;simp[f10,QH (show i+1<9223372036854775808 by omega)];exact⟨i+1,hpiv k _ k1 k2 hc (by simp[f1]) (by simp[f9]) (by simp[f10]) _ _ loc2 hM2 hI2,by omega⟩
 ·have hiE:i=T.rows.length:=by omega
  subst hiE;simp[g9,g10];refine⟨loc',T',none,rfl,hM,hT',hl,hgl,?_⟩;rw[←hu,Nat.sub_self];rfl
end
end
section
attribute [local simp] Qq Qh Qk Qr QR QU QO Q4 QX QP QK Zd alen
def gbox(q:Nat)(gp:Nat)(H:Qf):Prop:=H.b q=some ⟨122,1,[[.ptr gp 2 0 0]],false,some 1⟩
theorem qmk(tab gp:Nat)(H:Qf)(N:Nat) :
  Qc prog 136 [.ptr tab 7 0 0,.ptr gp 2 0 0] H N fun r H' N'=>r=.fn (.func 167) [] [.ptr N 1 0 0,.ptr (N+1) 1 0 0] ∧
   H'=(H.set N ⟨89,1,[[.ptr tab 7 0 0]],false,some 1⟩).set (N+1) ⟨122,1,[[.ptr gp 2 0 0]],false,some 1⟩∧N'=N+2:=by
 refine Qc.body func136 ntmps136 ?_;simp
section
variable{n:Nat}{F:List Fct}{T:Tb}{g:Nat}
theorem qgX(a b tab gp:Nat)(id:Nat)(r:Zw)(hp:r.pend=none)(hb:r.busy=false)(hs:r.ps.size=2)(hps:∀p∈r.ps.toList,p<r.n)(J:Nat→Tb→(Loc→Nat)→Qf→Nat→Prop)(K:Code→Qf→Nat→Prop)
  (hJ:∀f T loc H N,J f T loc H N→Rep n F H N loc T∧Fit n F T∧loc .tab=tab∧loc (.gp g)=gp∧g<T.goals.length∧tbox a tab H∧gbox b gp H)
  (step:∀f T loc H N k,J f T loc H N→H.L id=some r→LP.YL (Qi n F) T.lp g=some k→Round prog id r [.v (.int .i64 (oI (LP.YO (Qi n F) (n+F.length) T.lp k))),.v (.int .i64 (k:Int))] H N fun j H' N'=>match j with|none=>∃f' T' loc',f'<f∧J f' T' loc' H' N'|some c=>K c H' N')
  {f:Nat} {loc:Loc→Nat} {H:Qf} {N:Nat} (h0:J f T loc H N) (hL:H.L id=some r) :
  Qc prog 167 [.yl id,.ptr a 1 0 0,.ptr b 1 0 0] H N fun _ H' N'=>(H'.L id=some r∧∃f T loc,J f T loc H' N'∧LP.YL (Qi n F) T.lp g=none)∨∃c,K c H' N'∧H'.L id=some { r with pend:=some c }:=by
 refine Qc.bd func167 ntmps167 ?_;refine Qe.block (Qe.loop (fun(f:Nat) st=>∃env H N T loc,st=⟨25,env,H,N⟩∧env 0=.yl id∧env 1=.ptr a 1 0 0∧env 2=.ptr b 1 0 0∧J f T loc H N∧H.L id=some r) (fun f=>f) f ⟨_,_,_,T,loc,rfl,rfl,rfl,rfl,h0,hL⟩ ?_);rintro f _ ⟨env,H,N,T,loc,rfl,g0,g1,g2,hj,hL⟩;obtain⟨hR,hF,ht,hg,hgl,ha,hgb⟩:=hJ f T loc H N hj;have htab:=hR.tab;rw[ht]at htab;unfold tref Z5 at htab;unfold tbox at ha;unfold gbox at hgb;refine Qe.seq (Qd _ _ _ ?_);simp[g1,ha,htab];refine Qe.block (Qe.seq (Qd _ _ _ ?_));simp[g1,g2,ha,hgb];rw[←ht,←hg];refine(qd4 hR hF g hgl).mono ?_;rintro v H' N' ⟨rfl,rfl,rfl⟩;cases he:LP.YL (Qi n F) T.lp g with
 | none =>simp[oI];refine Qd _ _ _ ?_;simp[-Qa,-Qb,undef];exact .inl ⟨hL,f,T,⟨loc,hj⟩,he⟩
 | some k =>
  have hk:k<T.cols.length:=by have:=(LP.ZJ he).1;exact this
  have hst:=step f T loc H' N' k hj hL he;unfold Round at hst;simp[oI];refine Qe.seq (Qe.QW (K:=fun st=>∃env,st=⟨25,env,H',N'⟩∧env 0=.yl id∧env 1=.ptr a 1 0 0∧env 2=.ptr b 1 0 0∧env 16=.v (.bool false)∧env 17=.yl id∧env 20=.v (.int .i64 (oI (LP.YO (Qi n F) (n+F.length) T.lp k)))∧env 21=.v (.int .i64 (k:Int))) 8 ?_ ?_)
  ·simp[-Qa,-Qb,g0,g1,ha];rw[←ht];refine(qgv hR hF k hk).mono ?_;rintro v H2 N2 ⟨rfl,rfl,rfl⟩;simp[-Qa,-Qb,g0,g1,g2]
  ·rintro _ ⟨env,rfl,g0,g1,g2,g16,g17,g20,g21⟩;simp;refine Qx.yield (id:=id) (r:=r) ?_ rfl rfl g17 hL hp hb (by simp[hs]) hps ?_
   ·simp[wanted,g16]
   simp[g20,g21];refine hst.mono fun e s1 ⟨a1,a2,a3⟩=>⟨a1,a2,a3.mono fun e2 s2 ⟨b1,j,b2,b3⟩=>⟨b1,j,b2,?_⟩⟩;refine⟨_,rfl,Z0 _ _ _ ?_⟩;cases j with
   | none =>
    obtain⟨f',T',loc',c1,c2⟩:=b3;have hr:({ r with pend:=none }:Zw)=r:=by cases r;simp at hp;subst hp;rfl
    simp[-Qa,-Qb,g16];refine Qd _ _ _ ?_;simp;exact⟨f',⟨_,_,_,⟨rfl,rfl,rfl⟩,by simpa using g0,by simpa using g1,by simpa using g2,⟨T',loc',c2⟩,by simpa[Qf.Je]using hr⟩,c1⟩
   | some c =>simp[-Qa,-Qb,g16];refine Qd _ _ _ ?_;simp;exact .inr ⟨c,b3,by simp[Qf.Je]⟩
end
theorem Rep.b{n:Nat}{F:List Fct}{H H':Qf}{N:Nat}{loc:Loc→Nat}{T:Tb}(h:Rep n F H N loc T)(e:H'.b=H.b):Rep n F H' N loc T:=by refine⟨h.hbl,h.hrl,h.hgl,h.lt,h.inj,by rw[e];exact h.tab,by rw[e];exact h.basis,by rw[e];exact h.rows,by rw[e];exact h.cols,by rw[e];exact h.goals,fun i hi=>by unfold JA;rw[e];exact h.rc i hi,fun i hi=>by rw[e];exact h.gp i hi,fun i hi=>by unfold JA;rw[e];exact h.gc i hi⟩
def Qf.wL(H:Qf)(L:Nat→Option Zw):Qf:=⟨H.b,L⟩
theorem Mv.onb{n:Nat}{F:List Fct}{H1 H2:Qf}{N1 N2:Nat}{loc1 loc2:Loc→Nat}{T1 T2:Tb}(h:Mv n F H1 N1 loc1 T1 H2 N2 loc2 T2)(L:Nat→Option Zw):Mv n F (Qf.wL H1 L) N1 loc1 T1 (Qf.wL H2 L) N2 loc2 T2 :=
 ⟨h.rep.b rfl,h.le,rfl,h.fr,h.lo,h.tab,h.gp⟩
theorem Rep.other{n:Nat}{F:List Fct}{H:Qf}{N:Nat}{loc:Loc→Nat}{T:Tb}(h:Rep n F H N loc T){q:Nat}(hq:∀L,T.valid L→loc L≠q)(x:Blk):Rep n F (H.set q x) N loc T:=by
 have hb:∀L,T.valid L→(H.set q x).b (loc L)=H.b (loc L):=fun L v=>by simp[hq L v]
 exact⟨h.hbl,h.hrl,h.hgl,h.lt,h.inj,by rw[hb .tab trivial];exact h.tab,by rw[hb .basis trivial];exact h.basis,by rw[hb .rows trivial];exact h.rows,by rw[hb .cols trivial];exact h.cols,by rw[hb .goals trivial];exact h.goals,
  fun i hi=>by unfold JA;rw[hb (.rc i) hi];exact h.rc i hi,fun i hi=>by rw[hb (.gp i) hi];exact h.gp i hi,fun i hi=>by unfold JA;rw[hb (.gc i) hi];exact h.gc i hi⟩
theorem Mv.set{n:Nat}{F:List Fct}{H:Qf}{N:Nat}{loc:Loc→Nat}{T:Tb}{H1:Qf}{N1:Nat}{loc1:Loc→Nat}{T1:Tb}(h:Mv n F H N loc T H1 N1 loc1 T1){q:Nat}(hq:N≤q)(hL:∀L,T1.valid L→loc1 L≠q)(x:Blk):Mv n F H N loc T (H1.set q x) N1 loc1 T1 :=
 ⟨h.rep.other hL x,h.le,h.L,fun t ht hh=>by simp[show ¬t=q by omega];exact h.fr t ht hh,h.lo,h.tab,h.gp⟩
section
variable{n:Nat}{F:List Fct}{H:Qf}{N:Nat}{loc:Loc→Nat}{T:Tb}{I:Tb→Prop}{g:Nat}
def ClJ(n:Nat)(F:List Fct)(H:Qf)(N:Nat)(loc:Loc→Nat)(T:Tb)(I:Tb→Prop)(g:Nat)(res:LP.Tab×Option Nat)(f:Nat)(T1:Tb)(loc1:Loc→Nat)(H1:Qf)(N1:Nat):Prop :=
 Mv n F H N loc T (Qf.wL H1 H.L) N1 loc1 T1∧I T1∧T1.rows.length=T.rows.length∧T1.goals.length=T.goals.length∧LP.ZS (Qi n F) (n+F.length) g f T1.lp=some res∧N+4<N1 ∧
  (∀q,N≤q→q<N+4→∀L,T1.valid L→loc1 L≠q)∧tbox N (loc .tab) H1∧tbox (N+2) (loc .tab) H1∧gbox (N+3) (loc (.gp g)) H1∧H1.b (N+1)=some ⟨3,1,[[.v (.int .i64 0)]],false,some 1⟩∧∀i,i≠N+4→H1.L i=H.L i
def ClK(n:Nat)(F:List Fct)(H:Qf)(N:Nat)(loc:Loc→Nat)(T:Tb)(I:Tb→Prop)(res:LP.Tab×Option Nat)(c:Code)(H1:Qf)(N1:Nat):Prop :=
 c=.ret∧(∃loc1 T1,Mv n F H N loc T (Qf.wL H1 H.L) N1 loc1 T1∧I T1∧T1.rows.length=T.rows.length∧T1.goals.length=T.goals.length∧T1.lp=res.1∧∀L,T1.valid L→loc1 L≠N+1)∧N+1<N1∧H1.b (N+1)=some ⟨3,1,[[.v (.int .i64 (oI res.2))]],false,some 1⟩∧∀i,i≠N+4→H1.L i=H.L i
theorem qeX(hI:qkq n F I)(hR:Rep n F H N loc T)(hT:I T)(hg:g<T.goals.length)(hL0:∀i,H.L i=none){f:Nat}{res:LP.Tab×Option Nat}(hc:LP.ZS (Qi n F) (n+F.length) g f T.lp=some res) :
  Qc prog 100 [.ptr (loc .tab) 7 0 0,.ptr (loc (.gp g)) 2 0 0] H N fun r H' N'=>r=.v (.int .i64 (oI res.2))∧∃loc' T',Mv n F H N loc T H' N' loc' T'∧I T'∧T'.rows.length=T.rows.length∧T'.goals.length=T.goals.length∧T'.lp=res.1:=by
 refine Qc.body func100 ntmps100 ?_;have lt0:=hR.lt .tab trivial;have lt1:=hR.lt (.gp g) hg;simp;refine(qmk _ _ _ _).mono ?_;rintro v H1 N1 ⟨rfl,rfl,rfl⟩;simp;refine Qe.rangeFunc rfl ?_;simp;have hEx:∀x,Ext H N ((((H.set N ⟨89,1,[[.ptr (loc .tab) 7 0 0]],false,some 1⟩).set (N+1) ⟨3,1,[[.v (.int .i64 0)]],false,some 1⟩).set (N+2) ⟨89,1,[[.ptr (loc .tab) 7 0 0]],false,some 1⟩).set (N+3) x) (N+5):=fun x =>⟨by omega,rfl,fun j hj=>by simp[show ¬j=N by omega,show ¬j=N+1 by omega,show ¬j=N+2 by omega,show ¬j=N+3 by omega]⟩
 refine Qc.mono (qgX (n:=n) (F:=F) (g:=g) (T:=T) (f:=f) (loc:=loc) (N+2) (N+3) (loc .tab) (loc (.gp g)) (N+4) _ ?_ ?_ ?_ ?_ (ClJ n F H N loc T I g res) (ClK n F H N loc T I res) ?_ ?_ ?_ (if_pos rfl)) ?_
 ·rfl
 ·rfl
 ·rfl
 ·intro p hp;have:p=10∨p=11:=by simpa using hp
  rcases this with h|h<;>rw[h]<;>simp
 ·rintro f1 T1 loc1 H1 N1 ⟨m1,m2,m3,m4,m5,m6,m7,m8,m9,m10,m11,m12⟩;exact⟨m1.rep.b rfl,hI.fit _ m2,m1.tab,m1.gp g hg (by omega),by omega,m9,m10⟩
 ·intro f1 T1 loc1 H1 N1 k hj hL1 he;obtain⟨m1,m2,m3,m4,m5,m6,m7,m8,m9,m10,m11,m12⟩:=hj;have hk:=(LP.ZJ he).1;replace hk:k<T1.cols.length:=hk;have hR1:Rep n F H1 N1 loc1 T1:=m1.rep.b rfl;have hF1:=hI.fit _ m2;have htl:=m1.tab;unfold tbox at m8;cases f1 with
  | zero=>simp[LP.ZS]at m5
  | succ f1 =>
   simp only[LP.ZS,he]at m5;unfold Round;refine Qd _ _ _ ?_;simp;refine⟨hL1,Qd _ _ _ ?_⟩;cases hl:LP.YO (Qi n F) (n+F.length) T1.lp k with
   | none =>rw[hl]at m5;injection m5 with m5;subst m5;simp[oI,Qf.WY,m11];refine⟨by simp[Qf.Je],some .ret,rfl,?_⟩;refine⟨rfl,⟨loc1,T1,?_,m2,m3,m4,rfl,m7 (N+1) (by omega) (by omega)⟩,by omega,by simp[Qf.WY];rfl,fun i hi=>by simp[Qf.Je,hi];exact m12 i hi⟩;exact m1.set (q:=N+1) (by omega) (m7 (N+1) (by omega) (by omega)) _
   | some i =>
    rw[hl]at m5;obtain⟨v1,v2,v3,v4⟩:=LP.XR hl;rw[Z4]at v1;rw[qam]at v3;simp[oI,Qf.WY,m8,show ¬(i:Int)<0 by omega];rw[←htl];refine(KW hI (hR1.b (Qf.WY _ _ _)) m2 i k v1 hk (Rat.ne_of_lt v3)).mono ?_;rintro v H2 N2 ⟨loc2,hM2,hI2⟩;obtain⟨p1,p2,p3,p4⟩:=Y3 T1 i k;have hR2:=hM2.rep;have hF2:=hI.fit _ hI2;have ht2:loc2 .tab=loc .tab:=hM2.tab.trans htl;have hkp:∀q,N≤q→q<N+4→H2.b q=H1.b q∧∀L,(T1.pivot i k).valid L→loc2 L≠q:=fun q q1 q2=>hM2.keep (by omega) (m7 q q1 q2);have htab0:=hR2.tab;rw[ht2]at htab0;have htab:=htab0;unfold tref Z5 at htab;obtain⟨cb,tb,hbas⟩:=hR2.basis;obtain⟨cc,tc,hcols⟩:=hR2.cols;have hib:i<(T1.pivot i k).basis.length:=by rw[p4,hR1.hbl];exact v1
    have hkc:k<(T1.pivot i k).cols.length:=by rw[p3];exact hk
    have eb:(T1.pivot i k).basis[i]=T1.cols.getD k 0:=by simp[Tb.pivot]
    have ec:(T1.pivot i k).cols[k]=T1.basis.getD i 0:=by simp[Tb.pivot]
    have hN2:=hM2.le;have ltab:=hR2.lt .tab trivial;rw[ht2]at ltab;have lbas:=hR2.lt .basis trivial;have lcol:=hR2.lt .cols trivial;have hq0:=(hkp N (by omega) (by omega)).1.trans m8;have hq1:=(hkp (N+1) (by omega) (by omega)).1.trans m11;have hn1:=hF2.n;have hf1:=hF2.f;have hlook:∀(st:St) (K:Cls→AV→Qf→Nat→Prop),loc .tab<st.N→st.H.b (loc .tab)=some (tref (T1.pivot i k) loc2 n F)→K (.lod [loc .tab]) (.v (.int .i64 ((n+F.length:Nat):Int))) st.H st.N→QF prog 131 [.ptr (loc .tab) 7 0 0] st K:=fun st K h1 h2 h3 =>QF.qbx (loc .tab) (sz:=7) (i:=0) (off:=0) (u:=.v (.int .i64 ((n+F.length:Nat):Int))) (by simp) h1 (fun H1 N1 e hN1=>Yt (e.trans h2) hN1 (by omega) (by omega)) h3
    have hmv:Mv n F H N loc T (Qf.wL H2 H.L) N2 loc2 (T1.pivot i k):=m1.trans (hM2.onb H.L) fun j h1 h2=>by omega
    have hLL:∀x j,j≠N+4→(H2.Je (N+4) x).L j=H.L j:=fun x j hj=>by simp[Qf.Je,hj,hM2.L];exact m12 j hj
    have hlpp:(T1.pivot i k).lp=LP.pivot T1.lp i k:=KU hR1.hrl hR1.hgl v1;have hcj:∀x,LP.ZS (Qi n F) (n+F.length) g f1 (LP.pivot T1.lp i k)=some res→ClJ n F H N loc T I g res f1 (T1.pivot i k) loc2 (H2.Je (N+4) x) N2:=fun x hx =>⟨hmv,hI2,by omega,by omega,by rw[hlpp];exact hx,by omega,fun q q1 q2=>(hkp q q1 q2).2,hq0,(hkp (N+2) (by omega) (by omega)).1.trans m9,(hkp (N+3) (by omega) (by omega)).1.trans m10,hq1,hLL x⟩
    have m5':(if T1.cols.getD k 0≠n+F.length∧T1.basis.getD i 0=n+F.length then some (LP.pivot T1.lp i k,none)else LP.ZS (Qi n F) (n+F.length) g f1 (LP.pivot T1.lp i k))=some res:=m5;simp;refine Qm.walk (fun _=>false) mixed ?_;by_cases c1:T1.cols.getD k 0=n+F.length
    ·have c1':(((T1.pivot i k).basis[i]:Nat):Int)=((n+F.length:Nat):Int):=by rw[eb];omega
     rw[if_neg fun h=>h.1 c1]at m5';simp[-Int.natCast_add,-Qa,-Qb,Q0,undef,hq0,htab,hbas,hib,Zq,ltab,lbas,show N<N2 by omega];refine hlook _ _ ?_ ?_ ?_
     ·exact ltab
     ·exact htab0
     simp[-Int.natCast_add,-Qa,-Qb,undef,c1'];refine⟨Zg.ofM (by kernel_rfl),by rw[hM2.L];exact if_pos rfl,none,rfl,f1,Nat.lt_succ_self _,T1.pivot i k,loc2,hcj _ m5'⟩
    ·have c1':¬(((T1.pivot i k).basis[i]:Nat):Int)=((n+F.length:Nat):Int):=by rw[eb];omega
     simp[-Int.natCast_add,-Qa,-Qb,Q0,undef,hq0,htab,hbas,hib,Zq,ltab,lbas,show N<N2 by omega];refine hlook _ _ ?_ ?_ ?_
     ·exact ltab
     ·exact htab0
     simp[-Int.natCast_add,-Qa,-Qb,Q0,c1',hq0,htab,hcols,hkc,Zq,ltab,lcol,show N<N2 by omega];refine hlook _ _ ?_ ?_ ?_
     ·exact ltab
     ·exact htab0
     by_cases c2:T1.basis.getD i 0=n+F.length
     ·have c2':(((T1.pivot i k).cols[k]:Nat):Int)=((n+F.length:Nat):Int):=by rw[ec];omega
      rw[if_pos ⟨c1,c2⟩]at m5';injection m5' with m5';subst m5';simp[-Int.natCast_add,-Qa,-Qb,c2',hq1];refine⟨Zg.ofM (by kernel_rfl),by rw[hM2.L];exact if_pos rfl,some .ret,rfl,rfl,⟨loc2,T1.pivot i k,?_,hI2,by omega,by omega,hlpp,(hkp (N+1) (by omega) (by omega)).2⟩,by omega,by simp[Qf.WY];rfl,fun j hj=>hLL _ j hj⟩;exact hmv.set (q:=N+1) (by omega) (hkp (N+1) (by omega) (by omega)).2 _
     ·have c2':¬(((T1.pivot i k).cols[k]:Nat):Int)=((n+F.length:Nat):Int):=by rw[ec];omega
      rw[if_neg fun h=>c2 h.2]at m5';simp[-Int.natCast_add,-Qa,-Qb,c2'];refine⟨Zg.ofM (by kernel_rfl),by rw[hM2.L];exact if_pos rfl,none,rfl,f1,Nat.lt_succ_self _,T1.pivot i k,loc2,hcj _ m5'⟩
 ·exact⟨(Mv.ext hR (hEx _)),hT,rfl,rfl,hc,by omega,fun q q1 q2 L v e=>by have:=hR.lt L v;omega,by simp[tbox,Qf.Je,show ¬N=N+1+1+1 by omega,show ¬N=N+1+1 by omega],by simp[tbox,Qf.Je],by simp[gbox,Qf.Je],by simp[Qf.Je],fun i hi=>by simp[Qf.Je,hi]⟩
 ·rintro v H1 N1 h;have hLf:∀H2:Qf,(∀i,i≠N+4→H2.L i=H.L i)→(H2.Je (N+4) none).L=H.L:=fun H2 h=>funext fun i=>by
   by_cases e:i=N+4
   ·rw[e];simp[Qf.Je,hL0]
   ·simp[Qf.Je,e];exact h i e
  rcases h with⟨hL1,f1,T1,loc1,⟨m1,m2,m3,m4,m5,m6,m7,m8,m9,m10,m11,m12⟩,he⟩|⟨c,⟨rfl,⟨loc1,T1,m1,m2,m3,m4,m5,m6⟩,m7,m8,m9⟩,hL1⟩
  ·cases f1 with
   | zero=>simp[LP.ZS]at m5
   | succ f1 =>simp only[LP.ZS,he]at m5;injection m5 with m5;subst m5;refine⟨_,hL1,rfl,.normal,rfl,?_⟩;simp[Qf.WY,m11,oI];refine⟨loc1,T1,?_,m2,m3,m4,rfl⟩;have hs:=m1.set (q:=N+1) (by omega) (m7 (N+1) (by omega) (by omega)) ⟨3,1,[[.v (.int .i64 (-1))]],false,some 1⟩;exact⟨hs.rep.b rfl,hs.le,hLf _ m12,hs.fr,hs.lo,hs.tab,hs.gp⟩
  ·refine⟨_,hL1,rfl,.ret,rfl,?_⟩;simp[Qf.WY,m8,oI];exact⟨loc1,T1,⟨m1.rep.b rfl,m1.le,hLf _ m9,m1.fr,m1.lo,m1.tab,m1.gp⟩,m2,m3,m4,m5⟩
end
end
section
attribute [local simp] Qq Qh Qk Qr QR QU QO Q4 QX QP QK Zd alen
def zrP(n j:Nat):List (List AV):=(List.range n).map fun i=>if i<j then[rs 0]else[.v (.string { data:=#[] })]
theorem qag(n j:Nat):(zrP n j).length=n:=by simp[zrP]
theorem qmJ(n:Nat):zrP n 0=List.replicate n [.v (.string { data:=#[] })]:=by
 apply List.ext_getElem
 ·simp[zrP]
 ·intro i h1 h2;simp[zrP]
theorem qpW(n:Nat):zrP n n=ql (List.replicate n 0):=by
 apply List.ext_getElem
 ·simp[zrP,ql]
 ·intro i h1 h2;simp only[zrP,List.length_map,List.length_range]at h1;simp[zrP,ql,h1]
theorem qmI{n j:Nat}(h:j≤n):(zrP n j).take j=List.replicate j [rs 0]:=by
 apply List.ext_getElem
 ·simp[zrP];omega
 ·intro i h1 h2;simp only[List.length_replicate]at h2;simp[zrP,h2]
theorem qkd{n j m:Nat}(h:j+m≤n):ZE (zrP n j) j (List.replicate m [rs 0])=zrP n (j+m):=by
 unfold ZE;apply List.ext_getElem?;intro i;by_cases h1:i<j
 ·rw[List.append_assoc,List.getElem?_append_left (by simp[zrP];omega)];simp[zrP,h1,show i<n by omega,show i<j+m by omega]
 ·by_cases h2:i<j+m
  ·rw[List.append_assoc,List.getElem?_append_right (by simp[zrP];omega),List.getElem?_append_left (by simp[zrP];omega)];simp only[List.length_take,qag,Nat.min_eq_left (show j≤n by omega)];simp[zrP,h2,show i<n by omega,show i-j<m by omega]
  ·rw[List.getElem?_append_right (by simp[zrP];omega)];simp only[List.length_append,List.length_take,qag,Nat.min_eq_left (show j≤n by omega),List.length_replicate,List.getElem?_drop];rw[show j+m+(i-(j+m))=i by omega];by_cases h3:i<n
   ·simp[zrP,h3,h1,h2]
   ·simp[zrP,h3]
theorem qch(q:Rat):Qz prog 22 1 [(0,rs q)]=some (23,[[rs q]]):=by unfold rs str;kernel_rfl
theorem qhM(i:Int):Qz prog 82 1 [(0,.v (.int .i64 i))]=some (3,[[.v (.int .i64 i)]]):=by kernel_rfl
theorem qqD(q:Rat)(r:AV)(h:r=.v (.slice none 0 0)∨∃a b c d e,r=.ref a b c d e):Qz prog 95 1 [(0,.agg [rs q,r])]=some (121,[[rs q,r]]):=by rcases h with rfl|⟨a,b,c,d,e,rfl⟩<;>(unfold rs str;kernel_rfl)
theorem qmU(id sz i off:Nat):Qz prog 96 1 [(0,.ptr id sz i off)]=some (122,[[.ptr id sz i off]]):=by kernel_rfl
theorem V9{P:Program}{t e:TypeId}{id sz off len:Nat}{mx:Option Nat}{lo hi:Option AV}(h1:P.underlying t=some (.slice e))(h2:ZQ P e=true)(h3:sz=P.cellsOf e):aslice P t (.ref id sz off len mx) lo hi=match abounds len lo hi with|some (l,h)=>some (.ref id sz (off+l) (h-l) (mx.map (·-l)))|none=>none:=by simp only[aslice,h1,h2,h3,if_true];rfl
theorem qa0(id off len:Nat)(mx:Option Nat)(lo hi:Option AV):aslice prog 22 (.ref id 1 off len mx) lo hi=match abounds len lo hi with|some (l,h)=>some (.ref id 1 (off+l) (h-l) (mx.map (·-l)))|none=>none:=V9 (e:=23) (by kernel_rfl) (by kernel_rfl) (by kernel_rfl)
theorem qeQ(id off len:Nat)(mx:Option Nat)(lo hi:Option AV):aslice prog 82 (.ref id 1 off len mx) lo hi=match abounds len lo hi with|some (l,h)=>some (.ref id 1 (off+l) (h-l) (mx.map (·-l)))|none=>none:=V9 (e:=3) (by kernel_rfl) (by kernel_rfl) (by kernel_rfl)
theorem qkB(id off len:Nat)(mx:Option Nat)(lo hi:Option AV):aslice prog 96 (.ref id 1 off len mx) lo hi=match abounds len lo hi with|some (l,h)=>some (.ref id 1 (off+l) (h-l) (mx.map (·-l)))|none=>none:=V9 (e:=122) (by kernel_rfl) (by kernel_rfl) (by kernel_rfl)
theorem qhr{H:Qf}{id off len:Nat}{mx cap:Option Nat}{es news:List (List AV)}{x:AV}(hb:H.b id=some ⟨23,1,es,false,cap⟩)(he:QA H x=some news)(hok:Zp 1 news=true)(ho:Zb news=true)(h0:0<min news.length len)(hle:off+min news.length len≤es.length) :
  acopy prog H 22 (.ref id 1 off len mx) x=some (.v (.int .i64 ((min news.length len:Nat):Int)),some (id,⟨23,1,ZE es off (news.take (min news.length len)),false,cap⟩)):=by
 have h1:ZQ prog 23=true:=by kernel_rfl
 have h2:prog.cellsOf 23=1:=by kernel_rfl
 have h3:prog.underlying 22=some (.slice 23):=by kernel_rfl
 unfold acopy;rw[h3];simp only[he,h1,h2,hok,ho,and_self,if_true,hb];rw[if_neg (by omega),if_pos ⟨trivial,trivial,hle⟩]
theorem qkt{H:Qf}{id off len:Nat}{mx:Option Nat}{news:List (List AV)}{x:AV}(he:QA H x=some news)(hok:Zp 1 news=true)(ho:Zb news=true)(h0:min news.length len=0) :
  acopy prog H 22 (.ref id 1 off len mx) x=some (.v (.int .i64 0),none):=by
 have h1:ZQ prog 23=true:=by kernel_rfl
 have h2:prog.cellsOf 23=1:=by kernel_rfl
 have h3:prog.underlying 22=some (.slice 23):=by kernel_rfl
 unfold acopy;rw[h3];simp only[he,h1,h2,hok,ho,and_self,if_true];rw[if_pos h0]
section
variable{H:Qf}{N:Nat}
theorem qgW{id0:Nat}(h0:H.b id0=some ⟨23,1,[[rs 0]],false,some 1⟩)(hid:id0<N)(n:Nat)(hn:n≤100000) :
  Qc prog 101 [.ref id0 1 0 1 none,.v (.int .i64 (n:Nat))] H N fun r H' N'=>r=.ref N 1 0 n none∧N'=N+1∧H'=H.set N ⟨23,1,ql (List.replicate n 0),false,some n⟩:=by
 refine⟨⟨_,_,func101,by kernel_rfl,rfl⟩,Qv.QM func101 rfl (by simp[ntmps101]) (Qe.seq (Qd _ _ _ ?_))⟩;have c1:aconv prog 3 159 (.v (.int .i64 1))=some (.v (.int .u64 1)):=qbe 1 (by omega);have c2:=qbe n (by omega);have c3:=qh1 n (by omega);have hm0:=qhJ 1 n (by omega) (by omega);rw[Nat.one_mul,Nat.div_eq_of_lt (by omega),Nat.mod_eq_of_lt (by omega)]at hm0;have hm:Qg prog 137 [.v (.int .u64 1),.v (.int .u64 n)] (.v (.tuple #[.int .u64 0,.int .u64 (n:Int)])):=hm0;simp;refine Qe.seq (Qd _ _ _ ?_);simp[show ¬(n:Int)<0 by omega];refine Qe.seq (Qd _ _ _ ?_);simp[c1,c2];refine Qc.pv hm (by simp) (by simp) ?_;simp[V1];refine Qe.seq (Qd _ _ _ ?_);simp[-Qa,-Qb,undef,show ¬(9223372036854775807:Int)<(n:Int) by omega];refine Qe.seq (Qd _ _ _ ?_);simp[c3,qdD (n:Int) (by omega) (by omega)];refine Qe.seq (Qe.QW (K:=fun st=>∃env,st=⟨48,env,H.set N ⟨23,1,zrP n 0,false,some n⟩,N+1⟩∧env 7=.ref N 1 0 n none∧env 31=.ref N 1 0 n none∧env 32=.ref id0 1 0 1 none) 2 ?_ ?_)
 ·simp[qmJ]
 ·rintro _ ⟨env,rfl,g7,g31,g32⟩;have hne:¬id0=N:=by omega
  have hel:QA (H.set N ⟨23,1,zrP n 0,false,some n⟩) (.ref id0 1 0 1 none)=some [[rs 0]]:=by simp[QA,hne,h0]
  have hcp:∃q,acopy prog (H.set N ⟨23,1,zrP n 0,false,some n⟩) 22 (.ref N 1 0 n none) (.ref id0 1 0 1 none)=some (.v (.int .i64 ((min 1 n:Nat):Int)),q)∧Qf.qhj (H.set N ⟨23,1,zrP n 0,false,some n⟩) q=H.set N ⟨23,1,zrP n (min 1 n),false,some n⟩:=by
   by_cases hn0:n=0
   ·subst hn0;exact⟨_,qkt hel (by simp[Zp]) (by simp[Zb,Zd]) (by simp),rfl⟩
   ·have e1:min [[rs 0]].length n=1:=by simp;omega
    have e2:min 1 n=1:=by omega
    have h3:=qhr (H:=H.set N ⟨23,1,zrP n 0,false,some n⟩) (id:=N) (off:=0) (len:=n) (mx:=none) (cap:=some n) (es:=zrP n 0) (by simp) hel (by simp[Zp]) (by simp[Zb,Zd]) (by omega) (by rw[qag];omega);rw[e1]at h3;rw[e2];refine⟨_,h3,?_⟩;have h4:=qkd (n:=n) (j:=0) (m:=1) (by omega);simp only[Qf.qhj];rw[show[[rs 0]].take 1=List.replicate 1 [rs 0] from rfl,h4];cases H with|mk b L =>
    simp only[Qf.set,Qf.mk.injEq,and_true];funext j;by_cases e:j=N<;>simp[e]
  obtain⟨q,hq1,hq2⟩:=hcp;simp;refine Qx.copy (u:=.v (.int .i64 ((min 1 n:Nat):Int))) (q:=q) ?_ ?_ (Z0 _ _ _ ?_)
  ·simp[g31,g32,hq1]
  ·simp
  rw[hq2];simp;refine Qd _ _ _ ?_;simp;refine Qp.of (fun(j:Nat) st=>j≤n∧(1≤j∨n=0)∧∃env,st=⟨48,env,H.set N ⟨23,1,zrP n j,false,some n⟩,N+1⟩∧env 7=.ref N 1 0 n none∧env 8=.v (.int .i64 (j:Int))) (fun j=>n-j) (min 1 n) ⟨by omega,by omega,_,rfl,by simp[g7],by simp⟩ ?_;rintro j _ ⟨hj,hj1,env,rfl,g7,g8⟩;by_cases hjn:j<n
  ·simp[g7,g8,hjn];refine Qm.Z2 (fun _=>false) mixed 7 ?_;simp[g7,g8,qa0,abounds,idx,show(j:Int)≤(n:Int) by omega];have hel2:QA (H.set N ⟨23,1,zrP n j,false,some n⟩) (.ref N 1 0 j none)=some (List.replicate j [rs 0]):=by simp[QA,qag,hj,qmI]
   have hcp:=qhr (H:=H.set N ⟨23,1,zrP n j,false,some n⟩) (id:=N) (off:=j) (len:=n-j) (mx:=none) (cap:=some n) (es:=zrP n j) (by simp) hel2 (by simp[Zp]) (by simp[Zb,Zd]) (by simp;omega) (by rw[qag];simp;omega);simp only[List.length_replicate,List.take_replicate]at hcp;refine QI.copy (u:=.v (.int .i64 ((min j (n-j):Nat):Int))) (q:=some (N,⟨23,1,zrP n (j+min j (n-j)),false,some n⟩)) ?_ ?_ (QI.of (lit:=fun _=>false) ?_)
   ·have e3:=qkd (n:=n) (j:=j) (m:=min j (n-j)) (by omega);simp;rw[hcp,show min (min j (n-j)) j=min j (n-j) by omega,e3]
   ·simp
   have hw:IntKind.i64.wrap ((j:Int)+((min j (n-j):Nat):Int))=((j+min j (n-j):Nat):Int):=by rw[Ql (by omega) (by omega)];omega
   simp[-Int.natCast_add,hw];have hset:(H.set N ⟨23,1,zrP n j,false,some n⟩).qhj (some (N,⟨23,1,zrP n (j+min j (n-j)),false,some n⟩))=H.set N ⟨23,1,zrP n (j+min j (n-j)),false,some n⟩:=by
    cases H with|mk b L =>
    simp only[Qf.qhj,Qf.set,Qf.mk.injEq,and_true];funext k;by_cases e:k=N<;>simp[e]
   exact⟨Zg.ofM (by kernel_rfl),j+min j (n-j),⟨by omega,by omega,_,⟨rfl,hset⟩,by simp[g7],by simp⟩,by omega⟩
  ·simp[g7,g8,hjn];have:j=n:=by omega
   subst this;rw[qpW]
def qr5(H:Qf)(N:Nat)(r:AV)(H':Qf)(N':Nat)(l:List Rat):Prop:=∃q cap t,r=.ref q 1 0 l.length none∧N≤q∧q<N'∧H'.b q=some ⟨23,1,ql l++t,false,cap⟩∧Ext H N H' N'
theorem Kg(n:Nat)(hn:n≤100000) :
  Qc prog 65 [.v (.int .i64 (n:Nat))] H N fun r H' N'=>qr5 H N r H' N' (List.replicate n 0):=by
 refine Qc.body func65 ntmps65 ?_;have e0:=qch 0;rw[rs0]at e0;simp[e0];refine Qc.mono (qgW (id0:=N) ?_ ?_ n hn) ?_
 ·simp[rs0]
 ·omega
 rintro r H' N' ⟨rfl,rfl,rfl⟩;simp;exact⟨N+1,some n,[],by simp,by omega,by omega,by simp,by omega,rfl,fun j hj=>by simp[show ¬j=N by omega,show ¬j=N+1 by omega]⟩
end
end
section
attribute [local simp] Qq Qh Qk Qr QR QU QO Q4 QX QP QK Zd alen
theorem qc4{xs t:List (List AV)}{k:Nat}(h:k<xs.length)(h2:k+1<xs.length):ZE (xs++t) k (xs.drop (k+1))=xs.eraseIdx k++(xs.drop (xs.length-1)++t):=by unfold ZE;rw[List.take_append_of_le_length (by omega),List.eraseIdx_eq_take_drop_succ,List.length_drop];rw[show k+(xs.length-(k+1))=xs.length-1 by omega,List.drop_append_of_le_length (by omega)]
theorem qfv{xs t:List (List AV)}{z:List AV}{u:List AV}{n:Nat}(h:xs.length=n):ZE (xs++(u::t)) n [z]=xs++(z::t):=by subst h;unfold ZE;rw[List.take_append_of_le_length (by omega),List.take_length];simp
theorem Vv{xs:List (List AV)}(h:0<xs.length):∃u,xs.drop (xs.length-1)=[u]:=by refine⟨xs[xs.length-1],?_⟩;rw[List.drop_eq_getElem_cons (by omega)];congr 1;rw[List.drop_eq_nil_of_le (by omega)]
theorem Kw(H:Qf)(id:Nat)(a:Blk)(h:H.b id=some a):H.set id a=H:=by
 cases H with|mk f L =>
 simp only[Qf.set,Qf.mk.injEq,and_true];funext j;by_cases e:j=id
 ·simp only[e,if_true];exact h.symm
 ·simp[e]
theorem qqM{H:Qf}{N id k:Nat}{xs t:List (List AV)}{cap:Option Nat}(hb:H.b id=some ⟨23,1,xs++t,false,cap⟩)(hid:id<N)(hk:k<xs.length)(hl:xs.length≤100000)(h1:∀e∈xs,e.length=1)(h2:∀e∈xs,∀c∈e,c.one=true) :
  Qc prog 134 [.ref id 1 0 xs.length none,.v (.int .i64 (k:Nat)),.v (.int .i64 ((k:Int)+1))] H N fun r H' N'=>r=.ref id 1 0 (xs.length-1) none∧H'=H.set id ⟨23,1,xs.eraseIdx k++([.v (.string { data:=#[] })]::t),false,cap⟩∧N'=N:=by
 refine⟨⟨_,_,func134,by kernel_rfl,rfl⟩,Qv.QM func134 rfl (by simp[ntmps134]) (Qe.seq (Qd _ _ _ ?_))⟩;have hu:prog.underlying 22=some (.slice 23):=by kernel_rfl
 have hT:ZQ prog 23=true:=by kernel_rfl
 have hC:prog.cellsOf 23=1:=by kernel_rfl
 have hZ:zlen prog 23=true:=by kernel_rfl
 have hz:azero prog 23=some [.v (.string { data:=#[] })]:=by kernel_rfl
 simp;refine Qe.seq (Qe.QW (K:=fun st=>∃env,st=⟨33,env,H,N⟩∧env 0=.ref id 1 0 xs.length none∧env 1=.v (.int .i64 (k:Nat))∧env 2=.v (.int .i64 ((k:Int)+1))∧env 8=.ref id 1 0 xs.length none∧env 9=.v (.int .i64 (k:Nat))∧env 10=.v (.int .i64 ((k:Int)+1))∧env 12=.v (.int .i64 (xs.length:Nat))) 5 ?_ ?_)
 ·simp
 rintro _ ⟨env,rfl,g0,g1,g2,g8,g9,g10,g12⟩;simp;refine Qx.slice3 (u:=.ref id 1 (0+k) (k+1-k) (some (xs.length-k))) ?_ ?_ (Qx.nil ?_)
 ·simp[g8,g9,g10,g12];have:(.v (.int .i64 ((k:Int)+1)):AV)=.v (.int .i64 (.ofNat (k+1))):=rfl;rw[this,show((k:Nat):Int)=.ofNat k from rfl,show((xs.length:Nat):Int)=.ofNat xs.length from rfl];simp only[Xr,hu,hT,hC];rw[if_pos ⟨trivial,trivial,by omega,by omega,by omega⟩,Nat.zero_add,show k+1-k=1 by omega]
 ·simp
 simp;refine Qe.seq (Qd _ _ _ ?_);have hne:¬((k:Int)=(k:Int)+1):=by omega
 simp[g0,g1,g2,hne];refine Qe.seq (Qd _ _ _ ?_);simp[g0];have hel:QA H (.ref id 1 (k+1) (xs.length-(k+1)) none)=some (xs.drop (k+1)):=by simp only[QA];rw[show H.b id=some ⟨23,1,xs++t,false,cap⟩ from hb];simp only[List.length_append];rw[if_pos ⟨trivial,by omega⟩,List.drop_append_of_le_length (by omega),List.take_append_of_le_length (by simp),List.take_of_length_le (by simp)]
 refine Qe.qjx (fun st=>∃env u,st=⟨33,env,H.set id ⟨23,1,xs.eraseIdx k++(u::t),false,cap⟩,N⟩∧env 0=.ref id 1 0 (xs.length-1) none∧env 7=.v (.int .i64 (xs.length:Nat))) ?_ ?_
 ·by_cases hlast:k+1=xs.length
  ·refine Qm.walk (fun _=>false) mixed ?_;have hap:∀st:St,st.H=H→aappend prog st 22 (.ref id 1 0 k none) (.ref id 1 (k+1) (xs.length-(k+1)) none)=some (.ref id 1 0 k none,st):=fun st hst=>by unfold aappend;rw[hu,hst,hel,List.drop_eq_nil_of_le (by omega)];simp only[hT];rw[if_pos ⟨by rfl,trivial⟩]
   simp[g0,g1,g2,qa0,abounds,idx,show(k:Int)+1≤(xs.length:Int) by omega,show(k:Int)≤(xs.length:Int) by omega,show(0:Int)≤(k:Int)+1 by omega,show((k:Int)+1).toNat=k+1 by omega];rw[hap _ rfl];obtain⟨u,hu1⟩:=Vv (xs:=xs) (by omega);have he:xs.eraseIdx k++(u::t)=xs++t:=by rw[List.eraseIdx_eq_take_drop_succ,List.drop_eq_nil_of_le (by omega),List.append_nil,←List.take_append_drop k xs,show k=xs.length-1 by omega,hu1];simp
   simp;exact⟨Zg.ofM (by kernel_rfl),_,⟨rfl,u,by rw[he,Kw _ _ _ hb]⟩,by simp;omega,by simp⟩
  ·obtain⟨u,hu1⟩:=Vv (xs:=xs) (by omega);have hap:Xl prog H 22 (.ref id 1 0 k none) (.ref id 1 (k+1) (xs.length-(k+1)) none)=some (.ref id 1 0 (xs.length-1) none,id,⟨23,1,xs.eraseIdx k++(u::t),false,cap⟩):=by
    have hsub:∀e∈xs.drop (k+1),e∈xs:=fun e he=>List.mem_of_mem_drop he;have q1:Zp 1 (xs.drop (k+1))=true:=by unfold Zp;rw[List.all_eq_true];intro e he;simpa using h1 e (hsub e he)
    have q2:Zb (xs.drop (k+1))=true:=by unfold Zb;rw[List.all_eq_true];intro e he;rw[List.all_eq_true];exact h2 e (hsub e he)
    unfold Xl;rw[hu,hel];simp only[];rw[show H.b id=some ⟨23,1,xs++t,false,cap⟩ from hb];simp only[hC];rw[if_pos ⟨hT,hZ,by omega,q1,q2,by simp;omega,trivial,trivial,trivial,trivial,by simp;omega⟩,qc4 hk (by omega),hu1];simp;omega
   refine Qm.Z2 (fun _=>false) mixed 6 ?_;simp[g0,g1,g2,qa0,abounds,idx,show(k:Int)+1≤(xs.length:Int) by omega,show(k:Int)≤(xs.length:Int) by omega,show(0:Int)≤(k:Int)+1 by omega,show((k:Int)+1).toNat=k+1 by omega];refine QI.qkw (id:=id) (b':=⟨23,1,xs.eraseIdx k++(u::t),false,cap⟩) (u:=.ref id 1 0 (xs.length-1) none) ?_ ?_ (QI.of (lit:=fun _=>false) ?_)
   ·simpa using hap
   ·simp
   simp;exact⟨Zg.ofM (by kernel_rfl),_,⟨rfl,u,rfl⟩,by simp,by simp⟩
 ·rintro _ ⟨env,u,rfl,g0,g7⟩;have hln:(xs.eraseIdx k).length=xs.length-1:=by rw[List.length_eraseIdx,if_pos hk]
  refine Qe.seq (Qe.QW (K:=fun st=>∃env,st=⟨33,env,H.set id ⟨23,1,xs.eraseIdx k++(u::t),false,cap⟩,N⟩∧env 0=.ref id 1 0 (xs.length-1) none∧env 27=.ref id 1 0 (xs.length-1) none∧env 29=.v (.int .i64 ((xs.length-1:Nat):Int))∧env 30=.v (.int .i64 (xs.length:Nat))) 4 ?_ ?_)
  ·simp[g0,g7]
  rintro _ ⟨env,rfl,g0,g27,g29,g30⟩;simp;refine Qx.qfF (u:=.ref id 1 (0+(xs.length-1)) (xs.length-(xs.length-1)) none) (id:=id) ?_ ?_ ?_
  ·simp[g27,g29,g30];rw[show(((xs.length-1:Nat)):Int)=.ofNat (xs.length-1) from rfl,show((xs.length:Nat):Int)=.ofNat xs.length from rfl];simp only[Xs,hu,Qf.Yg,if_true,hT,hC,List.length_append,hln,List.length_cons];rw[if_pos ⟨trivial,trivial,by omega,by omega⟩];simp
  ·simp
  refine Qx.clear (q:=some (id,⟨23,1,xs.eraseIdx k++([.v (.string { data:=#[] })]::t),false,cap⟩)) ?_ (Qx.nil ?_)
  ·simp only[ev,qeC,if_true];simp only[aclear,hu,Qf.Yg,if_true,hz,hC,List.length_append,hln,List.length_cons];rw[if_neg (by omega),if_pos ⟨trivial,trivial,trivial,rfl,by omega,by rfl⟩];rw[show xs.length-(xs.length-1)=1 by omega,Nat.zero_add];rw[show List.replicate 1 [(.v (.string { data:=#[] }):AV)]=[[.v (.string { data:=#[] })]] from rfl,qfv hln]
  simp;refine Qd _ _ _ ?_;simp[g0];simp only[Qf.qhj];rw[XK]
theorem qso{H:Qf}{N id k:Nat}{xs t:List (List AV)}{cap:Option Nat}(hb:H.b id=some ⟨3,1,xs++t,false,cap⟩)(hid:id<N)(hk:k<xs.length)(hl:xs.length≤100000)(h1:∀e∈xs,e.length=1)(h2:∀e∈xs,∀c∈e,c.one=true) :
  Qc prog 133 [.ref id 1 0 xs.length none,.v (.int .i64 (k:Nat)),.v (.int .i64 ((k:Int)+1))] H N fun r H' N'=>r=.ref id 1 0 (xs.length-1) none∧H'=H.set id ⟨3,1,xs.eraseIdx k++([.v (.int .i64 0)]::t),false,cap⟩∧N'=N:=by
 refine⟨⟨_,_,func133,by kernel_rfl,rfl⟩,Qv.QM func133 rfl (by simp[ntmps133]) (Qe.seq (Qd _ _ _ ?_))⟩;have hu:prog.underlying 82=some (.slice 3):=by kernel_rfl
 have hT:ZQ prog 3=true:=by kernel_rfl
 have hC:prog.cellsOf 3=1:=by kernel_rfl
 have hZ:zlen prog 3=true:=by kernel_rfl
 have hz:azero prog 3=some [.v (.int .i64 0)]:=by kernel_rfl
 simp;refine Qe.seq (Qe.QW (K:=fun st=>∃env,st=⟨33,env,H,N⟩∧env 0=.ref id 1 0 xs.length none∧env 1=.v (.int .i64 (k:Nat))∧env 2=.v (.int .i64 ((k:Int)+1))∧env 8=.ref id 1 0 xs.length none∧env 9=.v (.int .i64 (k:Nat))∧env 10=.v (.int .i64 ((k:Int)+1))∧env 12=.v (.int .i64 (xs.length:Nat))) 5 ?_ ?_)
 ·simp
 rintro _ ⟨env,rfl,g0,g1,g2,g8,g9,g10,g12⟩;simp;refine Qx.slice3 (u:=.ref id 1 (0+k) (k+1-k) (some (xs.length-k))) ?_ ?_ (Qx.nil ?_)
 ·simp[g8,g9,g10,g12];have:(.v (.int .i64 ((k:Int)+1)):AV)=.v (.int .i64 (.ofNat (k+1))):=rfl;rw[this,show((k:Nat):Int)=.ofNat k from rfl,show((xs.length:Nat):Int)=.ofNat xs.length from rfl];simp only[Xr,hu,hT,hC];rw[if_pos ⟨trivial,trivial,by omega,by omega,by omega⟩,Nat.zero_add,show k+1-k=1 by omega]
 ·simp
 simp;refine Qe.seq (Qd _ _ _ ?_);have hne:¬((k:Int)=(k:Int)+1):=by omega
 simp[g0,g1,g2,hne];refine Qe.seq (Qd _ _ _ ?_);simp[g0];have hel:QA H (.ref id 1 (k+1) (xs.length-(k+1)) none)=some (xs.drop (k+1)):=by simp only[QA];rw[show H.b id=some ⟨3,1,xs++t,false,cap⟩ from hb];simp only[List.length_append];rw[if_pos ⟨trivial,by omega⟩,List.drop_append_of_le_length (by omega),List.take_append_of_le_length (by simp),List.take_of_length_le (by simp)]
 refine Qe.qjx (fun st=>∃env u,st=⟨33,env,H.set id ⟨3,1,xs.eraseIdx k++(u::t),false,cap⟩,N⟩∧env 0=.ref id 1 0 (xs.length-1) none∧env 7=.v (.int .i64 (xs.length:Nat))) ?_ ?_
 ·by_cases hlast:k+1=xs.length
  ·refine Qm.walk (fun _=>false) mixed ?_;have hap:∀st:St,st.H=H→aappend prog st 82 (.ref id 1 0 k none) (.ref id 1 (k+1) (xs.length-(k+1)) none)=some (.ref id 1 0 k none,st):=fun st hst=>by unfold aappend;rw[hu,hst,hel,List.drop_eq_nil_of_le (by omega)];simp only[hT];rw[if_pos ⟨by rfl,trivial⟩]
   simp[g0,g1,g2,qeQ,abounds,idx,show(k:Int)+1≤(xs.length:Int) by omega,show(k:Int)≤(xs.length:Int) by omega,show(0:Int)≤(k:Int)+1 by omega,show((k:Int)+1).toNat=k+1 by omega];rw[hap _ rfl];obtain⟨u,hu1⟩:=Vv (xs:=xs) (by omega);have he:xs.eraseIdx k++(u::t)=xs++t:=by rw[List.eraseIdx_eq_take_drop_succ,List.drop_eq_nil_of_le (by omega),List.append_nil,←List.take_append_drop k xs,show k=xs.length-1 by omega,hu1];simp
   simp;exact⟨Zg.ofM (by kernel_rfl),_,⟨rfl,u,by rw[he,Kw _ _ _ hb]⟩,by simp;omega,by simp⟩
  ·obtain⟨u,hu1⟩:=Vv (xs:=xs) (by omega);have hap:Xl prog H 82 (.ref id 1 0 k none) (.ref id 1 (k+1) (xs.length-(k+1)) none)=some (.ref id 1 0 (xs.length-1) none,id,⟨3,1,xs.eraseIdx k++(u::t),false,cap⟩):=by
    have hsub:∀e∈xs.drop (k+1),e∈xs:=fun e he=>List.mem_of_mem_drop he;have q1:Zp 1 (xs.drop (k+1))=true:=by unfold Zp;rw[List.all_eq_true];intro e he;simpa using h1 e (hsub e he)
    have q2:Zb (xs.drop (k+1))=true:=by unfold Zb;rw[List.all_eq_true];intro e he;rw[List.all_eq_true];exact h2 e (hsub e he)
    unfold Xl;rw[hu,hel];simp only[];rw[show H.b id=some ⟨3,1,xs++t,false,cap⟩ from hb];simp only[hC];rw[if_pos ⟨hT,hZ,by omega,q1,q2,by simp;omega,trivial,trivial,trivial,trivial,by simp;omega⟩,qc4 hk (by omega),hu1];simp;omega
   refine Qm.Z2 (fun _=>false) mixed 6 ?_;simp[g0,g1,g2,qeQ,abounds,idx,show(k:Int)+1≤(xs.length:Int) by omega,show(k:Int)≤(xs.length:Int) by omega,show(0:Int)≤(k:Int)+1 by omega,show((k:Int)+1).toNat=k+1 by omega];refine QI.qkw (id:=id) (b':=⟨3,1,xs.eraseIdx k++(u::t),false,cap⟩) (u:=.ref id 1 0 (xs.length-1) none) ?_ ?_ (QI.of (lit:=fun _=>false) ?_)
   ·simpa using hap
   ·simp
   simp;exact⟨Zg.ofM (by kernel_rfl),_,⟨rfl,u,rfl⟩,by simp,by simp⟩
 ·rintro _ ⟨env,u,rfl,g0,g7⟩;have hln:(xs.eraseIdx k).length=xs.length-1:=by rw[List.length_eraseIdx,if_pos hk]
  refine Qe.seq (Qe.QW (K:=fun st=>∃env,st=⟨33,env,H.set id ⟨3,1,xs.eraseIdx k++(u::t),false,cap⟩,N⟩∧env 0=.ref id 1 0 (xs.length-1) none∧env 27=.ref id 1 0 (xs.length-1) none∧env 29=.v (.int .i64 ((xs.length-1:Nat):Int))∧env 30=.v (.int .i64 (xs.length:Nat))) 4 ?_ ?_)
  ·simp[g0,g7]
  rintro _ ⟨env,rfl,g0,g27,g29,g30⟩;simp;refine Qx.qfF (u:=.ref id 1 (0+(xs.length-1)) (xs.length-(xs.length-1)) none) (id:=id) ?_ ?_ ?_
  ·simp[g27,g29,g30];rw[show(((xs.length-1:Nat)):Int)=.ofNat (xs.length-1) from rfl,show((xs.length:Nat):Int)=.ofNat xs.length from rfl];simp only[Xs,hu,Qf.Yg,if_true,hT,hC,List.length_append,hln,List.length_cons];rw[if_pos ⟨trivial,trivial,by omega,by omega⟩];simp
  ·simp
  refine Qx.clear (q:=some (id,⟨3,1,xs.eraseIdx k++([.v (.int .i64 0)]::t),false,cap⟩)) ?_ (Qx.nil ?_)
  ·simp only[ev,qeC,if_true];simp only[aclear,hu,Qf.Yg,if_true,hz,hC,List.length_append,hln,List.length_cons];rw[if_neg (by omega),if_pos ⟨trivial,trivial,trivial,rfl,by omega,by rfl⟩];rw[show xs.length-(xs.length-1)=1 by omega,Nat.zero_add];rw[show List.replicate 1 [(.v (.int .i64 0):AV)]=[[.v (.int .i64 0)]] from rfl,qfv hln]
  simp;refine Qd _ _ _ ?_;simp[g0];simp only[Qf.qhj];rw[XK]
end
end Go.AX.Run
namespace Go.AX.Run
open Go.RowKit Go.Proofs Go.AX Go.Num
def Q9(T:Tb)(loc:Loc→Nat):List (List AV):=(List.range T.rows.length).map fun i=>Yb (T.row i).1 (loc (.rc i)) (T.row i).2.length
structure JB(n:Nat)(F:List Fct)(H:Qf)(N:Nat)(loc:Loc→Nat)(T:Tb):Prop where
 hbl:T.basis.length=T.rows.length
 lt:∀L,T.valid L→loc L<N
 inj:∀L L',T.valid L→T.valid L'→loc L=loc L'→L=L'
 tab:H.b (loc .tab)=some (tref T loc n F)
 basis:∃cap t,H.b (loc .basis)=some ⟨3,1,nl T.basis++t,false,cap⟩
 rows:∃cap t,H.b (loc .rows)=some ⟨121,2,Q9 T loc++t,false,cap⟩
 cols:∃cap t,H.b (loc .cols)=some ⟨3,1,nl T.cols++t,false,cap⟩
 goals:∃cap t,H.b (loc .goals)=some ⟨122,1,Q8 T loc++t,false,cap⟩
 rc:∀i,i<T.rows.length→JA H (loc (.rc i)) (T.row i).2
 gp:∀i,i<T.goals.length→∃cap t,H.b (loc (.gp i))=some ⟨121,2,Yb (T.goal i).1 (loc (.gc i)) (T.goal i).2.length::t,false,cap⟩
 gc:∀i,i<T.goals.length→JA H (loc (.gc i)) (T.goal i).2
theorem Rep.to0{n:Nat}{F:List Fct}{H:Qf}{N:Nat}{loc:Loc→Nat}{T:Tb}(h:Rep n F H N loc T):JB n F H N loc T:=by
 have e:Q9 T loc=YU T loc:=by unfold Q9 YU;exact List.map_congr_left fun i hi=>by rw[h.hrl i (List.mem_range.1 hi)]
 exact⟨h.hbl,h.lt,h.inj,h.tab,h.basis,by rw[e];exact h.rows,h.cols,h.goals,h.rc,fun i hi=>by rw[h.hgl i hi];exact h.gp i hi,h.gc⟩
theorem JB.to{n:Nat}{F:List Fct}{H:Qf}{N:Nat}{loc:Loc→Nat}{T:Tb}(h:JB n F H N loc T)(hrl:∀i,i<T.rows.length→(T.row i).2.length=T.cols.length)(hgl:∀i,i<T.goals.length→(T.goal i).2.length=T.cols.length):Rep n F H N loc T:=by
 have e:Q9 T loc=YU T loc:=by unfold Q9 YU;exact List.map_congr_left fun i hi=>by rw[hrl i (List.mem_range.1 hi)]
 exact⟨h.hbl,hrl,hgl,h.lt,h.inj,h.tab,h.basis,by rw[←e];exact h.rows,h.cols,h.goals,h.rc,fun i hi=>by rw[←hgl i hi];exact h.gp i hi,h.gc⟩
def reloc(loc:Loc→Nat)(L0:Loc)(q:Nat):Loc→Nat:=fun L=>if L=L0 then q else loc L
theorem Za(loc:Loc→Nat)(L0:Loc)(q:Nat):reloc loc L0 q L0=q:=if_pos rfl
theorem QE{loc:Loc→Nat}{L0 L:Loc}{q:Nat}(h:L≠L0):reloc loc L0 q L=loc L:=if_neg h
section
variable{n:Nat}{F:List Fct}{H G:Qf}{N N':Nat}{loc:Loc→Nat}{T:Tb}
theorem X2(inj:∀L L',T.valid L→T.valid L'→loc L=loc L'→L=L'){L0:Loc}{q:Nat}(hq:∀L,T.valid L→L≠L0→loc L≠q):∀L L',T.valid L→T.valid L'→reloc loc L0 q L=reloc loc L0 q L'→L=L':=fun L L' v v' e=>by
 by_cases h1:L=L0
 ·by_cases h2:L'=L0
  ·rw[h1,h2]
  ·rw[h1,Za,QE h2]at e;exact absurd e.symm (hq L' v' h2)
 ·by_cases h2:L'=L0
  ·rw[h2,Za,QE h1]at e;exact absurd e (hq L v h1)
  ·rw[QE h1,QE h2]at e;exact inj L L' v v' e
theorem qaR(T:Tb)(loc:Loc→Nat)(t:List (List AV))(i:Nat)(h:i<T.rows.length):(Q9 T loc++t)[i]?=some (Yb (T.row i).1 (loc (.rc i)) (T.row i).2.length):=by rw[List.getElem?_append_left (by simp[Q9,h])];simp[Q9,h]
theorem qgI(T:Tb)(loc:Loc→Nat)(t:List (List AV))(i:Nat)(r:Rat×List Rat)(q:Nat)(hi:i<T.rows.length):(Q9 T loc++t).set i (Yb r.1 q r.2.length)=Q9 { T with rows:=T.rows.set i r } (reloc loc (.rc i) q)++t:=by
 rw[List.set_append_left _ _ (by simp[Q9,hi])];congr 1;apply List.ext_getElem?;intro j;rw[List.getElem?_set];by_cases hj:j<T.rows.length
 ·simp only[Q9,List.length_map,List.length_range,List.getElem?_map,List.length_set,List.getElem?_range hj,Option.map_some,KI T i r j hi];by_cases h:i=j
  ·subst h;simp[hi,reloc]
  ·simp[h,show ¬j=i from fun e=>h e.symm,reloc]
 ·have h1:(List.range T.rows.length)[j]?=none:=by simp;omega
  simp only[Q9,List.length_map,List.length_range,List.getElem?_map,List.length_set,h1,Option.map_none];by_cases h:i=j
  ·subst h;exact absurd hi hj
  ·simp[h]
theorem JB.qnj(h:JB n F H N loc T){i q:Nat}(hi:i<T.rows.length)(r:Rat×List Rat)(hN:N≤N')(hq:q<N')(hqL:∀L,T.valid L→L≠.rc i→loc L≠q){capr:Option Nat}{tr:List (List AV)}
  (hGr:G.b (loc .rows)=some ⟨121,2,(Q9 T loc++tr).set i (Yb r.1 q r.2.length),false,capr⟩) (hGq:JA G q r.2) (ho:∀L,T.valid L→L≠.rows→L≠.rc i→G.b (loc L)=H.b (loc L)):JB n F G N' (reloc loc (.rc i) q) { T with rows:=T.rows.set i r }:=by
 have hv:∀L,Tb.valid { T with rows:=T.rows.set i r } L→T.valid L:=fun L v=>by cases L<;>simp only[Tb.valid,List.length_set]at v⊢<;>exact v
 refine⟨by simpa using h.hbl,fun L v=>?_,fun L L' v v'=>X2 h.inj hqL L L' (hv L v) (hv L' v'),?_,?_,⟨capr,tr,?_⟩,?_,?_,fun j hj=>?_,fun j hj=>?_,fun j hj=>?_⟩
 ·by_cases e:L=.rc i
  ·rw[e,Za];exact hq
  ·rw[QE e];exact Nat.lt_of_lt_of_le (h.lt L (hv L v)) hN
 ·rw[QE (by simp),ho .tab trivial (by simp) (by simp),h.tab];simp[tref,reloc]
 ·rw[QE (by simp),ho .basis trivial (by simp) (by simp)];exact h.basis
 ·rw[QE (by simp),←qgI T loc tr i r q hi];exact hGr
 ·rw[QE (by simp),ho .cols trivial (by simp) (by simp)];exact h.cols
 ·rw[QE (by simp),ho .goals trivial (by simp) (by simp)];have:Q8 { T with rows:=T.rows.set i r } (reloc loc (.rc i) q)=Q8 T loc:=by simp[Q8,reloc]
  rw[this];exact h.goals
 ·have hj':j<T.rows.length:=by simpa using hj
  rw[KI T i r j hi];by_cases e:j=i
  ·subst e;rw[if_pos rfl,Za];exact hGq
  ·rw[if_neg e,QE (by simpa using e)];unfold JA;rw[ho (.rc j) hj' (by simp) (by simpa using e)];exact h.rc j hj'
 ·rw[QE (by simp),QE (by simp),ho (.gp j) hj (by simp) (by simp)];exact h.gp j hj
 ·rw[QE (by simp)];unfold JA;rw[ho (.gc j) hj (by simp) (by simp)];exact h.gc j hj
theorem JB.qiy(h:JB n F H N loc T){i q:Nat}(hi:i<T.goals.length)(r:Rat×List Rat)(hN:N≤N')(hq:q<N')(hqL:∀L,T.valid L→L≠.gc i→loc L≠q){capr:Option Nat}{tr:List (List AV)}
  (hGr:G.b (loc (.gp i))=some ⟨121,2,Yb r.1 q r.2.length::tr,false,capr⟩) (hGq:JA G q r.2) (ho:∀L,T.valid L→L≠.gp i→L≠.gc i→G.b (loc L)=H.b (loc L)):JB n F G N' (reloc loc (.gc i) q) { T with goals:=T.goals.set i r }:=by
 have hv:∀L,Tb.valid { T with goals:=T.goals.set i r } L→T.valid L:=fun L v=>by cases L<;>simp only[Tb.valid,List.length_set]at v⊢<;>exact v
 refine⟨h.hbl,fun L v=>?_,fun L L' v v'=>X2 h.inj hqL L L' (hv L v) (hv L' v'),?_,?_,?_,?_,?_,fun j hj=>?_,fun j hj=>?_,fun j hj=>?_⟩
 ·by_cases e:L=.gc i
  ·rw[e,Za];exact hq
  ·rw[QE e];exact Nat.lt_of_lt_of_le (h.lt L (hv L v)) hN
 ·rw[QE (by simp),ho .tab trivial (by simp) (by simp),h.tab];simp[tref,reloc]
 ·rw[QE (by simp),ho .basis trivial (by simp) (by simp)];exact h.basis
 ·rw[QE (by simp),ho .rows trivial (by simp) (by simp)];have:Q9 { T with goals:=T.goals.set i r } (reloc loc (.gc i) q)=Q9 T loc:=by simp[Q9,reloc];exact fun _ _=>rfl
  rw[this];exact h.rows
 ·rw[QE (by simp),ho .cols trivial (by simp) (by simp)];exact h.cols
 ·rw[QE (by simp),ho .goals trivial (by simp) (by simp)];have:Q8 { T with goals:=T.goals.set i r } (reloc loc (.gc i) q)=Q8 T loc:=by simp[Q8,reloc]
  rw[this];exact h.goals
 ·rw[QE (by simp)];unfold JA;rw[ho (.rc j) hj (by simp) (by simp)];exact h.rc j hj
 ·have hj':j<T.goals.length:=by simpa using hj
  rw[VB T i r j hi,QE (by simp)];by_cases e:j=i
  ·subst e;rw[if_pos rfl,Za];exact⟨capr,tr,hGr⟩
  ·rw[if_neg e,QE (by simpa using e),ho (.gp j) hj' (by simpa using e) (by simp)];exact h.gp j hj'
 ·have hj':j<T.goals.length:=by simpa using hj
  rw[VB T i r j hi];by_cases e:j=i
  ·subst e;rw[if_pos rfl,Za];exact hGq
  ·rw[if_neg e,QE (by simpa using e)];unfold JA;rw[ho (.gc j) hj' (by simp) (by simpa using e)];exact h.gc j hj'
theorem JB.qdT(h:JB n F H N loc T){q:Nat}(l:List Nat)(hN:N≤N')(hq:q<N')(hqL:∀L,T.valid L→L≠.cols→loc L≠q){capr:Option Nat}{tr:List (List AV)}
  (hGt:G.b (loc .tab)=some (tref { T with cols:=l } (reloc loc .cols q) n F)) (hGq:G.b q=some ⟨3,1,nl l++tr,false,capr⟩) (ho:∀L,T.valid L→L≠.tab→L≠.cols→G.b (loc L)=H.b (loc L)):JB n F G N' (reloc loc .cols q) { T with cols:=l }:=by
 have hv:∀L,Tb.valid { T with cols:=l } L→T.valid L:=fun L v=>by cases L<;>exact v
 refine⟨h.hbl,fun L v=>?_,fun L L' v v'=>X2 h.inj hqL L L' (hv L v) (hv L' v'),?_,?_,?_,?_,?_,fun j hj=>?_,fun j hj=>?_,fun j hj=>?_⟩
 ·by_cases e:L=.cols
  ·rw[e,Za];exact hq
  ·rw[QE e];exact Nat.lt_of_lt_of_le (h.lt L (hv L v)) hN
 ·rw[QE (by simp)];exact hGt
 ·rw[QE (by simp),ho .basis trivial (by simp) (by simp)];exact h.basis
 ·rw[QE (by simp),ho .rows trivial (by simp) (by simp)];have:Q9 { T with cols:=l } (reloc loc .cols q)=Q9 T loc:=by simp[Q9,reloc];exact fun _ _=>rfl
  rw[this];exact h.rows
 ·rw[Za];exact⟨capr,tr,hGq⟩
 ·rw[QE (by simp),ho .goals trivial (by simp) (by simp)];have:Q8 { T with cols:=l } (reloc loc .cols q)=Q8 T loc:=by simp[Q8,reloc]
  rw[this];exact h.goals
 ·rw[QE (by simp)];unfold JA;rw[ho (.rc j) hj (by simp) (by simp)];exact h.rc j hj
 ·rw[QE (by simp),QE (by simp),ho (.gp j) hj (by simp) (by simp)];exact h.gp j hj
 ·rw[QE (by simp)];unfold JA;rw[ho (.gc j) hj (by simp) (by simp)];exact h.gc j hj
def Zl(loc:Loc→Nat)(m q p c:Nat):Loc→Nat:=fun L=>if L=.goals then q else if L=.gp m then p else if L=.gc m then c else loc L
theorem qbr(T:Tb)(r:Rat×List Rat)(i:Nat):Tb.goal { T with goals:=T.goals++[r] } i=if i<T.goals.length then T.goal i else if i=T.goals.length then r else(0,[]):=by
 unfold Tb.goal;simp only[List.getD_eq_getElem?_getD,List.getElem?_append];split
 ·rfl
 ·split
  ·rename_i h;subst h;simp
  ·rw[List.getElem?_eq_none (by simp;omega)];rfl
theorem JB.qfb(h:JB n F H N loc T){q p c:Nat}(r:Rat×List Rat)(hN:N≤N')(hq:q<N')(hp:p<N')(hc:c<N')(hqp:q≠p)(hqc:q≠c)(hpc:p≠c)(hL:∀L,T.valid L→L≠.goals→loc L≠q∧loc L≠p∧loc L≠c){cap1 cap2:Option Nat}{t1 t2:List (List AV)}
  (hGt:G.b (loc .tab)=some (tref { T with goals:=T.goals++[r] } (Zl loc T.goals.length q p c) n F)) (hGq:G.b q=some ⟨122,1,Q8 T loc++[.ptr p 2 0 0]::t1,false,cap1⟩) (hGp:G.b p=some ⟨121,2,Yb r.1 c r.2.length::t2,false,cap2⟩) (hGc:JA G c r.2)
  (ho:∀L,T.valid L→L≠.tab→L≠.goals→G.b (loc L)=H.b (loc L)):JB n F G N' (Zl loc T.goals.length q p c) { T with goals:=T.goals++[r] }:=by
 have hv:∀L,Tb.valid { T with goals:=T.goals++[r] } L→L=.gp T.goals.length∨L=.gc T.goals.length∨(T.valid L∧L≠.gp T.goals.length∧L≠.gc T.goals.length):=fun L v=>by cases L<;>simp only[Tb.valid,List.length_append,List.length_singleton]at v⊢<;>simp<;>(try omega)
 have e1:Zl loc T.goals.length q p c (.gp T.goals.length)=p:=by simp[Zl]
 have e2:Zl loc T.goals.length q p c (.gc T.goals.length)=c:=by simp[Zl]
 have e3:Zl loc T.goals.length q p c .goals=q:=by simp[Zl]
 have e4:∀L,L≠.goals→L≠.gp T.goals.length→L≠.gc T.goals.length→Zl loc T.goals.length q p c L=loc L:=fun L a b d=>by simp[Zl,a,b,d]
 have hval:∀L,Tb.valid { T with goals:=T.goals++[r] } L→(L=.gp T.goals.length∧Zl loc T.goals.length q p c L=p)∨(L=.gc T.goals.length∧Zl loc T.goals.length q p c L=c)∨(L=.goals∧Zl loc T.goals.length q p c L=q)∨(T.valid L∧L≠.goals∧Zl loc T.goals.length q p c L=loc L):=fun L v=>by
  rcases hv L v with h|h|⟨h,h1,h2⟩
  ·exact .inl ⟨h,by rw[h,e1]⟩
  ·exact .inr (.inl ⟨h,by rw[h,e2]⟩)
  ·by_cases hg:L=.goals
   ·exact .inr (.inr (.inl ⟨hg,by rw[hg,e3]⟩))
   ·exact .inr (.inr (.inr ⟨h,hg,e4 L hg h1 h2⟩))
 refine⟨h.hbl,fun L v=>?_,fun L L' v v' e=>?_,?_,?_,?_,?_,?_,fun j hj=>?_,fun j hj=>?_,fun j hj=>?_⟩
 ·rcases hval L v with⟨_,e⟩|⟨_,e⟩|⟨_,e⟩|⟨v1,_,e⟩<;>rw[e]
  ·exact hp
  ·exact hc
  ·exact hq
  ·exact Nat.lt_of_lt_of_le (h.lt L v1) hN
 ·rcases hval L v with⟨a1,e1⟩|⟨a1,e1⟩|⟨a1,e1⟩|⟨v1,a1,e1⟩<;>rcases hval L' v' with⟨b1,f1⟩|⟨b1,f1⟩|⟨b1,f1⟩|⟨w1,b1,f1⟩<;>rw[e1,f1]at e
  ·rw[a1,b1]
  ·exact absurd e hpc
  ·exact absurd e.symm hqp
  ·exact absurd e.symm (hL L' w1 b1).2.1
  ·exact absurd e.symm hpc
  ·rw[a1,b1]
  ·exact absurd e.symm hqc
  ·exact absurd e.symm (hL L' w1 b1).2.2
  ·exact absurd e hqp
  ·exact absurd e hqc
  ·rw[a1,b1]
  ·exact absurd e.symm (hL L' w1 b1).1
  ·exact absurd e (hL L v1 a1).2.1
  ·exact absurd e (hL L v1 a1).2.2
  ·exact absurd e (hL L v1 a1).1
  ·exact h.inj L L' v1 w1 e
 ·rw[e4 .tab (by simp) (by simp) (by simp)];exact hGt
 ·rw[e4 .basis (by simp) (by simp) (by simp),ho .basis trivial (by simp) (by simp)];exact h.basis
 ·rw[e4 .rows (by simp) (by simp) (by simp),ho .rows trivial (by simp) (by simp)];have:Q9 { T with goals:=T.goals++[r] } (Zl loc T.goals.length q p c)=Q9 T loc:=by simp[Q9,Zl];exact fun _ _=>rfl
  rw[this];exact h.rows
 ·rw[e4 .cols (by simp) (by simp) (by simp),ho .cols trivial (by simp) (by simp)];exact h.cols
 ·rw[e3];refine⟨cap1,t1,?_⟩;have:Q8 { T with goals:=T.goals++[r] } (Zl loc T.goals.length q p c)=Q8 T loc++[[.ptr p 2 0 0]]:=by unfold Q8;simp only[List.length_append,List.length_singleton,List.range_succ,List.map_append,List.map_cons,List.map_nil,e1];congr 1;exact List.map_congr_left fun i hi=>by rw[e4 (.gp i) (by simp) (by have:=List.mem_range.1 hi;simp;omega) (by simp)]
  rw[this,List.append_assoc];exact hGq
 ·rw[e4 (.rc j) (by simp) (by simp) (by simp)];unfold JA;rw[ho (.rc j) hj (by simp) (by simp)];exact h.rc j hj
 ·have hj':j<T.goals.length+1:=by simpa using hj
  rw[qbr];by_cases hjl:j<T.goals.length
  ·rw[if_pos hjl,e4 (.gp j) (by simp) (by simp;omega) (by simp),e4 (.gc j) (by simp) (by simp) (by simp;omega),ho (.gp j) hjl (by simp) (by simp)];exact h.gp j hjl
  ·have hje:j=T.goals.length:=by omega
   rw[if_neg hjl,if_pos hje,hje,e1,e2];exact⟨cap2,t2,hGp⟩
 ·have hj':j<T.goals.length+1:=by simpa using hj
  rw[qbr];by_cases hjl:j<T.goals.length
  ·rw[if_pos hjl,e4 (.gc j) (by simp) (by simp) (by simp;omega)];unfold JA;rw[ho (.gc j) hjl (by simp) (by simp)];exact h.gc j hjl
  ·have hje:j=T.goals.length:=by omega
   rw[if_neg hjl,if_pos hje,hje,e2];exact hGc
theorem JB.qiA(h:JB n F H N loc T)(m:Nat)(hm:m≤T.goals.length)(hGt:G.b (loc .tab)=some (tref { T with goals:=T.goals.take m } loc n F))(ho:∀L,T.valid L→L≠.tab→G.b (loc L)=H.b (loc L)):JB n F G N loc { T with goals:=T.goals.take m }:=by
 have hlm:(T.goals.take m).length=m:=by rw[List.length_take];omega
 have hv:∀L,Tb.valid { T with goals:=T.goals.take m } L→T.valid L:=fun L v=>by cases L<;>simp only[Tb.valid,hlm]at v⊢<;>omega
 have hgo:∀i,i<m→Tb.goal { T with goals:=T.goals.take m } i=T.goal i:=fun i hi=>by unfold Tb.goal;simp only[List.getD_eq_getElem?_getD,List.getElem?_take,hi,if_true]
 obtain⟨cap,t,hg⟩:=h.goals;refine⟨h.hbl,fun L v=>h.lt L (hv L v),fun L L' v v'=>h.inj L L' (hv L v) (hv L' v'),hGt,?_,?_,?_,⟨cap,(Q8 T loc).drop m++t,?_⟩,fun j hj=>?_,fun j hj=>?_,fun j hj=>?_⟩
 ·rw[ho .basis trivial (by simp)];exact h.basis
 ·rw[ho .rows trivial (by simp)];exact h.rows
 ·rw[ho .cols trivial (by simp)];exact h.cols
 ·rw[ho .goals trivial (by simp),hg];have:Q8 { T with goals:=T.goals.take m } loc=(Q8 T loc).take m:=by unfold Q8;rw[hlm,←List.map_take,List.take_range,Nat.min_eq_left hm]
  rw[this,←List.append_assoc,List.take_append_drop]
 ·unfold JA;rw[ho (.rc j) hj (by simp)];exact h.rc j hj
 ·have hj':j<m:=by simpa[hlm]using hj
  rw[hgo j hj',ho (.gp j) (show j<T.goals.length by omega) (by simp)];exact h.gp j (by omega)
 ·have hj':j<m:=by simpa[hlm]using hj
  rw[hgo j hj'];unfold JA;rw[ho (.gc j) (show j<T.goals.length by omega) (by simp)];exact h.gc j (by omega)
end
end Go.AX.Run
namespace Go.AX.Run
open Go.RowKit Go.Proofs Go.AX Go.Num Tryz
structure Fr(H:Qf)(N:Nat)(loc:Loc→Nat)(T:Tb)(H':Qf)(N':Nat)(loc':Loc→Nat)(T':Tb):Prop where
 le:N≤N'
 L:H'.L=H.L
 fr:∀t,t<N→(∀L,T.valid L→loc L≠t)→H'.b t=H.b t
 lo:∀L,T'.valid L→(T.valid L∧loc' L=loc L)∨N≤loc' L
 tab:loc' .tab=loc .tab
 gp:∀j,j<T.goals.length→j<T'.goals.length→loc' (.gp j)=loc (.gp j)
section
variable{n:Nat}{F:List Fct}{H H1 H2:Qf}{N N1 N2:Nat}{loc loc1 loc2:Loc→Nat}{T T1 T2:Tb}
theorem Mv.qut(h:Mv n F H N loc T H1 N1 loc1 T1):Fr H N loc T H1 N1 loc1 T1:=⟨h.le,h.L,h.fr,h.lo,h.tab,h.gp⟩
theorem Fr.mv(h:Fr H N loc T H1 N1 loc1 T1)(hr:Rep n F H1 N1 loc1 T1):Mv n F H N loc T H1 N1 loc1 T1:=⟨hr,h.le,h.L,h.fr,h.lo,h.tab,h.gp⟩
theorem Fr.refl(H:Qf)(N:Nat)(loc:Loc→Nat)(T:Tb):Fr H N loc T H N loc T:=⟨Nat.le_refl _,rfl,fun _ _ _=>rfl,fun L v=>.inl ⟨v,rfl⟩,rfl,fun _ _ _=>rfl⟩
theorem Fr.trans(h:Fr H N loc T H1 N1 loc1 T1)(k:Fr H1 N1 loc1 T1 H2 N2 loc2 T2)(hg:∀j,j<T.goals.length→j<T2.goals.length→j<T1.goals.length):Fr H N loc T H2 N2 loc2 T2:=by
 refine⟨Nat.le_trans h.le k.le,k.L.trans h.L,fun t ht hL=>?_,fun L v=>?_,k.tab.trans h.tab,fun j h1 h2=>(k.gp j (hg j h1 h2) h2).trans (h.gp j h1 (hg j h1 h2))⟩
 ·rw[k.fr t (Nat.lt_of_lt_of_le ht h.le) fun L v=>?_,h.fr t ht hL];rcases h.lo L v with⟨v1,e⟩|e
  ·rw[e];exact hL L v1
  ·omega
 ·rcases k.lo L v with⟨v1,e⟩|e
  ·rw[e];exact h.lo L v1
  ·exact .inr (Nat.le_trans h.le e)
theorem Fr.ext(e:Ext H N H1 N1):Fr H N loc T H1 N1 loc T:=⟨e.1,e.2.1,fun t ht _=>e.2.2 t ht,fun L v=>.inl ⟨v,rfl⟩,rfl,fun _ _ _=>rfl⟩
theorem JB.ext(h:JB n F H N loc T)(e:Ext H N H1 N1):JB n F H1 N1 loc T:=by
 have hb:∀L,T.valid L→H1.b (loc L)=H.b (loc L):=fun L v=>e.2.2 _ (h.lt L v);exact⟨h.hbl,fun L v=>Nat.lt_of_lt_of_le (h.lt L v) e.1,h.inj,by rw[hb .tab trivial];exact h.tab,by rw[hb .basis trivial];exact h.basis,by rw[hb .rows trivial];exact h.rows,by rw[hb .cols trivial];exact h.cols,by rw[hb .goals trivial];exact h.goals,
  fun i hi=>by unfold JA;rw[hb (.rc i) hi];exact h.rc i hi,fun i hi=>by rw[hb (.gp i) hi];exact h.gp i hi,fun i hi=>by unfold JA;rw[hb (.gc i) hi];exact h.gc i hi⟩
theorem Fr.one(L0:Loc)(q:Nat)(hle:N≤N1)(hL:H1.L=H.L)(hfr:∀t,t<N→(∀L,T.valid L→loc L≠t)→H1.b t=H.b t)(h0:L0≠.tab)(hg:∀j,L0≠.gp j)(hq:q=loc L0∨N≤q)(hv:∀L,T1.valid L→T.valid L):Fr H N loc T H1 N1 (reloc loc L0 q) T1:=by
 refine⟨hle,hL,hfr,fun L v=>?_,QE (Ne.symm h0),fun j _ _=>QE (Ne.symm (hg j))⟩;by_cases e:L=L0
 ·subst e;rw[Za];rcases hq with h|h
  ·exact .inl ⟨hv _ v,h⟩
  ·exact .inr h
 ·exact .inl ⟨hv L v,QE e⟩
theorem JB.ne(h:JB n F H N loc T){L L':Loc}(v:T.valid L)(v':T.valid L')(hne:L≠L'):loc L≠loc L':=fun e=>hne (h.inj L L' v v' e)
def Tb.Zc(T:Tb)(bd:Nat→Bool)(j:Nat):Tb:={ T with rows:=(List.range T.rows.length).map fun i=>if i<j then((T.row i).1,(T.row i).2++[if bd (T.basis.getD i 0)=true then 1 else 0])else T.row i }
def Tb.Z6(T:Tb)(j:Nat):Tb:={ T with goals:=(List.range T.goals.length).map fun i=>if i<j then((T.goal i).1,(T.goal i).2++[0])else T.goal i }
def Tb.QL(T:Tb)(bd:Nat→Bool)(art:Nat):Tb:={ basis:=T.basis,rows:=(T.Zc bd T.rows.length).rows,cols:=T.cols++[art],goals:=(T.Z6 T.goals.length).goals++[(0,List.replicate T.cols.length 0++[-1])] }
theorem Yk(T:Tb)(bd:Nat→Bool)(j:Nat):(T.Zc bd j).rows.length=T.rows.length:=by simp[Tb.Zc]
theorem KY(T:Tb)(bd:Nat→Bool)(j i:Nat)(hi:i<T.rows.length):(T.Zc bd j).row i=if i<j then((T.row i).1,(T.row i).2++[if bd (T.basis.getD i 0)=true then 1 else 0])else T.row i:=by simp[Tb.Zc,Tb.row,List.getD_eq_getElem?_getD,hi]
theorem X5(T:Tb)(bd:Nat→Bool):T.Zc bd 0=T:=by
 cases T with|mk b r c g =>
 simp only[Tb.Zc,Tb.mk.injEq,true_and,and_true];apply List.ext_getElem
 ·simp
 ·intro t h1 h2;simp[Tb.row,List.getD_eq_getElem?_getD];rw[List.getElem?_eq_getElem (by simpa using h2)];rfl
theorem qep(T:Tb)(bd:Nat→Bool)(j:Nat)(hj:j<T.rows.length):T.Zc bd (j+1)={ T.Zc bd j with rows:=(T.Zc bd j).rows.set j ((T.row j).1,(T.row j).2++[if bd (T.basis.getD j 0)=true then 1 else 0]) }:=by
 simp only[Tb.Zc,Tb.mk.injEq,true_and,and_true];apply List.ext_getElem
 ·simp
 ·intro t h1 h2;simp only[List.getElem_set,List.getElem_map,List.getElem_range];by_cases h:j=t
  ·subst h;simp
  ·rw[if_neg h];have:(t<j+1)=(t<j):=by simp;omega
   simp[this]
theorem XI(T:Tb)(j:Nat):(T.Z6 j).goals.length=T.goals.length:=by simp[Tb.Z6]
theorem qcB(T:Tb)(j i:Nat)(hi:i<T.goals.length):(T.Z6 j).goal i=if i<j then((T.goal i).1,(T.goal i).2++[0])else T.goal i:=by simp[Tb.Z6,Tb.goal,List.getD_eq_getElem?_getD,hi]
theorem WO(T:Tb):T.Z6 0=T:=by
 cases T with|mk b r c g =>
 simp only[Tb.Z6,Tb.mk.injEq,true_and];apply List.ext_getElem
 ·simp
 ·intro t h1 h2;simp[Tb.goal,List.getD_eq_getElem?_getD];rw[List.getElem?_eq_getElem (by simpa using h2)];rfl
theorem qcC(T:Tb)(j:Nat)(hj:j<T.goals.length):T.Z6 (j+1)={ T.Z6 j with goals:=(T.Z6 j).goals.set j ((T.goal j).1,(T.goal j).2++[0]) }:=by
 simp only[Tb.Z6,Tb.mk.injEq,true_and];apply List.ext_getElem
 ·simp
 ·intro t h1 h2;simp only[List.getElem_set,List.getElem_map,List.getElem_range];by_cases h:j=t
  ·subst h;simp
  ·rw[if_neg h];have:(t<j+1)=(t<j):=by simp;omega
   simp[this]
theorem qb7(T:Tb)(bd:Nat→Bool)(art:Nat):(T.QL bd art).lp=LP.QL bd art T.lp:=by
 unfold LP.QL Tb.QL Tb.lp;simp only[LP.Tab.mk.injEq,true_and];refine⟨?_,?_⟩
 ·apply List.ext_getElem
  ·simp[Tb.Zc]
  ·intro j h1 h2;have hj:j<T.rows.length:=by simpa[Tb.Zc]using h1
   have:=qaK T j;unfold Tb.lp at this;simp[Tb.Zc,hj,this]
 ·simp only[List.map_append,List.map_cons,List.map_nil];congr 1;apply List.ext_getElem
  ·simp[Tb.Z6]
  ·intro j h1 h2;have hj:j<T.goals.length:=by simpa[Tb.Z6]using h1
   simp[Tb.Z6,hj,qiz hj]
theorem Fit.take{m:Nat}(h:Fit n F T):Fit n F { T with goals:=T.goals.take m }:=by
 refine⟨h.va,h.n,h.f,h.c,h.r,?_,h.vb,h.vc,h.sr,fun j hj=>?_⟩
 ·have:=h.g;simp;omega
 ·have hj1:j<m∧j<T.goals.length:=by simp at hj;omega
  have:Tb.goal { T with goals:=T.goals.take m } j=T.goal j:=by unfold Tb.goal;simp only[List.getD_eq_getElem?_getD,List.getElem?_take,hj1.1,if_true]
  rw[this];exact h.sg j hj1.2
theorem qhB{st:St}{id:Nat}{l:List Rat}{t:List (List AV)}{cap:Option Nat}{x:AV}{q:Rat}(hb:st.H.b id=some ⟨23,1,ql l++t,false,cap⟩)(he:QA st.H x=some [[rs q]])(hl:l.length≤100000) :
  aappend prog st 22 (.ref id 1 0 l.length none) x=some (.ref st.N 1 0 (l++[q]).length none,⟨st.n,st.env,(st.H.kill id).set st.N ⟨23,1,ql (l++[q]),false,none⟩,st.N+1⟩):=by
 have h3:prog.underlying 22=some (.slice 23):=by kernel_rfl
 have h1:ZQ prog 23=true:=by kernel_rfl
 have h2:prog.cellsOf 23=1:=by kernel_rfl
 have h4:zlen prog 23=true:=by kernel_rfl
 have h5:prog.bytesOf 23=16:=by kernel_rfl
 unfold aappend;rw[h3];simp only[he];rw[if_pos ⟨h1,h4,by omega,by rw[h2];rfl,by simp[Zb,Zd]⟩];rw[hb];simp only[h2,h5,List.length_append,QU,List.length_cons,List.length_nil];rw[if_pos ⟨trivial,trivial,trivial,by omega,by omega,by simp only[maxLen];omega⟩];simp only[Qs,h2];congr 4;rw[List.take_append_of_le_length (by rw[QU];exact Nat.le_refl _),List.take_of_length_le (by rw[QU];exact Nat.le_refl _)];simp[ql]
end
theorem qcO{α β:Type}(f:α→β)(l:List α)(k:Nat):(l.map f).eraseIdx k=(l.eraseIdx k).map f:=by simp[List.eraseIdx_eq_take_drop_succ,List.map_append,List.map_take,List.map_drop]
theorem qlJ(l:List Nat)(k:Nat):(nl l).eraseIdx k=nl (l.eraseIdx k):=qcO _ _ _
theorem qfw(l:List Rat)(k:Nat):(ql l).eraseIdx k=ql (l.eraseIdx k):=qcO _ _ _
theorem KX(loc:Loc→Nat)(L0:Loc):reloc loc L0 (loc L0)=loc:=funext fun L=>by
 by_cases h:L=L0
 ·rw[h,Za]
 ·rw[QE h]
theorem QF.own{P:Program}{f:FuncId}{args:List AV}{st:St}{K:Cls→AV→Qf→Nat→Prop}{u:AV}{H':Qf}{N':Nat}(ws:List Nat)(h:Qc P f args st.H st.N fun r H1 N1=>r=u∧H1=H'∧N1=N')(h1:st.N≤N')(h2:∀id,id<st.N→id ∉ ws→H'.b id=st.H.b id)(hk:K (.hvy (some ws)) u H' N'):QF P f args st K :=
 ⟨.hvy (some ws),u,H',N',hk,h,h1,h2⟩
section
variable{n:Nat}{F:List Fct}{H H1 H2:Qf}{N N1 N2:Nat}{loc loc1 loc2:Loc→Nat}{T T1 T2:Tb}
theorem Fr.upd(h:Fr H N loc T H1 N1 loc1 T1)(hv:∀L,T2.valid L→T1.valid L)(ho:∀t,(∀L,T1.valid L→loc1 L≠t)→H2.b t=H1.b t)(hL:H2.L=H1.L)(hg:T2.goals.length≤T1.goals.length):Fr H N loc T H2 N1 loc1 T2 :=
 ⟨h.le,hL.trans h.L,fun t ht htL=>by
  rw[ho t fun L v=>by
   rcases h.lo L v with⟨v1,e⟩|e
   ·rw[e];exact htL L v1
   ·omega]
  exact h.fr t ht htL,fun L v=>h.lo L (hv L v),h.tab,fun j h1 h2=>h.gp j h1 (by omega)⟩
def Tb.Ya(T:Tb)(k j:Nat):Tb:={ T with rows:=(List.range T.rows.length).map fun i=>if i<j then((T.row i).1,(T.row i).2.eraseIdx k)else T.row i }
theorem Kr(T:Tb)(k j:Nat):(T.Ya k j).rows.length=T.rows.length:=by simp[Tb.Ya]
theorem qcu(T:Tb)(k j i:Nat)(hi:i<T.rows.length):(T.Ya k j).row i=if i<j then((T.row i).1,(T.row i).2.eraseIdx k)else T.row i:=by simp[Tb.Ya,Tb.row,List.getD_eq_getElem?_getD,hi]
theorem qgj(T:Tb)(k:Nat):T.Ya k 0=T:=by
 cases T with|mk b r c g =>
 simp only[Tb.Ya,Tb.mk.injEq,true_and,and_true];apply List.ext_getElem
 ·simp
 ·intro t h1 h2;simp[Tb.row,List.getD_eq_getElem?_getD];rw[List.getElem?_eq_getElem (by simpa using h2)];rfl
theorem qgi(T:Tb)(k j:Nat)(hj:j<T.rows.length):T.Ya k (j+1)={ T.Ya k j with rows:=(T.Ya k j).rows.set j ((T.row j).1,(T.row j).2.eraseIdx k) }:=by
 simp only[Tb.Ya,Tb.mk.injEq,true_and,and_true];apply List.ext_getElem
 ·simp
 ·intro t h1 h2;simp only[List.getElem_set,List.getElem_map,List.getElem_range];by_cases h:j=t
  ·subst h;simp
  ·rw[if_neg h];have:(t<j+1)=(t<j):=by simp;omega
   simp[this]
def Tb.Q6(T:Tb)(k:Nat):Tb:={ basis:=T.basis,rows:=(T.Ya k T.rows.length).rows,cols:=T.cols.eraseIdx k,goals:=[((T.goal 0).1,(T.goal 0).2.eraseIdx k)] }
theorem qgh(T:Tb)(k:Nat)(hg:0<T.goals.length):(T.Q6 k).lp=LP.Q6 k T.lp:=by
 unfold LP.Q6 Tb.Q6 Tb.lp;simp only[LP.Tab.mk.injEq,true_and];refine⟨?_,?_⟩
 ·apply List.ext_getElem
  ·simp[Tb.Ya]
  ·intro j h1 h2;have hj:j<T.rows.length:=by simpa[Tb.Ya]using h1
   simp[Tb.Ya,hj,qjp hj]
 ·cases h:T.goals with
  | nil=>rw[h]at hg;cases hg
  | cons a l=>simp[Tb.goal,h]
end
section
attribute [local simp] Qq Qh Qk Qr QR QU QO Q4 QX QP QK Zd alen
theorem qnD{st:St}{id:Nat}{l:List Nat}{t:List (List AV)}{cap:Option Nat}{x:AV}{v:Nat}(hb:st.H.b id=some ⟨3,1,nl l++t,false,cap⟩)(he:QA st.H x=some [[.v (.int .i64 (v:Nat))]])(hl:l.length≤100000) :
  aappend prog st 82 (.ref id 1 0 l.length none) x=some (.ref st.N 1 0 (l++[v]).length none,⟨st.n,st.env,(st.H.kill id).set st.N ⟨3,1,nl (l++[v]),false,none⟩,st.N+1⟩):=by
 have h3:prog.underlying 82=some (.slice 3):=by kernel_rfl
 have h1:ZQ prog 3=true:=by kernel_rfl
 have h2:prog.cellsOf 3=1:=by kernel_rfl
 have h4:zlen prog 3=true:=by kernel_rfl
 have h5:prog.bytesOf 3=8:=by kernel_rfl
 unfold aappend;rw[h3];simp only[he];rw[if_pos ⟨h1,h4,by omega,by rw[h2];rfl,by simp[Zb]⟩];rw[hb];simp only[h2,h5,List.length_append,QJ,List.length_cons,List.length_nil];rw[if_pos ⟨trivial,trivial,trivial,by omega,by omega,by simp only[maxLen];omega⟩];simp only[Qs,h2];congr 4;rw[List.take_append_of_le_length (by rw[QJ];exact Nat.le_refl _),List.take_of_length_le (by rw[QJ];exact Nat.le_refl _)];simp[nl]
theorem qsl{st:St}{id p m:Nat}{es t:List (List AV)}{cap:Option Nat}{x:AV}(hm:m=es.length)(hb:st.H.b id=some ⟨122,1,es++t,false,cap⟩)(he:QA st.H x=some [[.ptr p 2 0 0]])(hl:es.length≤100000) :
  aappend prog st 96 (.ref id 1 0 m none) x=some (.ref st.N 1 0 (m+1) none,⟨st.n,st.env,(st.H.kill id).set st.N ⟨122,1,es++[[.ptr p 2 0 0]],false,none⟩,st.N+1⟩):=by
 subst hm;have h3:prog.underlying 96=some (.slice 122):=by kernel_rfl
 have h1:ZQ prog 122=true:=by kernel_rfl
 have h2:prog.cellsOf 122=1:=by kernel_rfl
 have h4:zlen prog 122=true:=by kernel_rfl
 have h5:prog.bytesOf 122=8:=by kernel_rfl
 unfold aappend;rw[h3];simp only[he];rw[if_pos ⟨h1,h4,by omega,by rw[h2];rfl,by simp[Zb]⟩];rw[hb];simp only[h2,h5,List.length_append,List.length_cons,List.length_nil];rw[if_pos ⟨trivial,trivial,trivial,by omega,by omega,by simp only[maxLen];omega⟩];simp only[Qs,h2];congr 4;rw[List.take_append_of_le_length (Nat.le_refl _),List.take_of_length_le (Nat.le_refl _)]
section
variable{n:Nat}{F:List Fct}{H:Qf}{N:Nat}{loc:Loc→Nat}{T:Tb}{I1:Tb→Prop}
def qqa(n:Nat)(F:List Fct)(H:Qf)(N:Nat)(loc:Loc→Nat)(T:Tb)(b:Bool)(T3:LP.Tab)(r:AV)(H':Qf)(N':Nat):Prop:=∃loc' T',Mv n F H N loc T H' N' loc' T' ∧
 (b=true→r=.tup [.v (.slice none 0 0),.v (.bool true)]∧T'.lp=T3)∧(b=false→∃q l cap t,r=.tup [.ref q 1 0 F.length none,.v (.bool false)]∧l.length=F.length∧H'.b q=some ⟨23,1,ql l++t,false,cap⟩∧N≤q∧∀L,T'.valid L→loc' L≠q)
theorem qae{bd:Nat→Bool}{basis:List Nat}{la:Nat→Rat}{i:Nat}(h:¬(bd (basis.getD i 0)=true∧la i<0)):LP.Yl bd basis la (i+1)=LP.Yl bd basis la i:=by
 simp only[LP.Yl];cases LP.Yl bd basis la i with
 | none=>exact if_neg h
 | some p=>exact if_neg fun hh=>h ⟨hh.1,hh.2.1⟩
theorem qeJ{bd:Nat→Bool}{basis:List Nat}{la:Nat→Rat}{i:Nat}(h:bd (basis.getD i 0)=true∧la i<0):LP.Yl bd basis la (i+1)=match LP.Yl bd basis la i with|none=>some i|some w=>if la i<la w then some i else some w:=by
 simp only[LP.Yl];cases LP.Yl bd basis la i with
 | none=>exact if_pos h
 | some p=>simp only[h.1,h.2,true_and]
def qtJ(n:Nat)(F:List Fct)(H:Qf)(N:Nat)(loc:Loc→Nat)(T:Tb)(st:St):Prop:=∃env,st=⟨287,env,H,N⟩∧env 0=.ptr (loc .tab) 7 0 0∧env 4=.v (.int .i64 (oI (LP.V3 (Qi n F) T.lp)))
def qtK(n:Nat)(F:List Fct)(H:Qf)(N:Nat)(loc:Loc→Nat)(T:Tb)(w:Nat)(st:St):Prop:=∃env G N' loc',st=⟨287,env,G,N'⟩∧env 0=.ptr (loc .tab) 7 0 0∧env 4=.v (.int .i64 (w:Nat))∧Fr H N loc T G N' loc' (T.Zc (Qi n F) T.rows.length)∧JB n F G N' loc' (T.Zc (Qi n F) T.rows.length)
def qp9(n:Nat)(F:List Fct)(H:Qf)(N:Nat)(loc:Loc→Nat)(T:Tb)(w:Nat)(j:Nat)(st:St):Prop:=j≤T.rows.length∧∃env G N' loc',st=⟨287,env,G,N'⟩∧env 0=.ptr (loc .tab) 7 0 0∧env 4=.v (.int .i64 (w:Nat))∧env 75=.v (.int .i64 (T.rows.length:Nat))∧env 76=.v (.int .i64 (j:Nat))∧Fr H N loc T G N' loc' (T.Zc (Qi n F) j)∧JB n F G N' loc' (T.Zc (Qi n F) j)
theorem qc7(T:Tb)(bd:Nat→Bool)(j:Nat):(T.Zc bd j).basis=T.basis:=_root_.id rfl
theorem WX(T:Tb)(bd:Nat→Bool)(j:Nat):(T.Zc bd j).goals=T.goals:=_root_.id rfl
theorem qhL:Qz prog 22 1 [(0,.v (.string { data:=#[48] }))]=some (23,[[rs 0]]):=by rw[←rs0];exact qch 0
theorem qnU:Qz prog 22 1 [(0,.v (.string { data:=#[49] }))]=some (23,[[rs 1]]):=by rw[←rs1];exact qch 1
def Tb.up(T:Tb)(n:Nat)(F:List Fct)(j:Nat):Tb:=(T.Zc (Qi n F) T.rows.length).Z6 j
def qtL(n:Nat)(F:List Fct)(H:Qf)(N:Nat)(loc:Loc→Nat)(T:Tb)(w:Nat)(st:St):Prop:=∃env G N' loc',st=⟨287,env,G,N'⟩∧env 0=.ptr (loc .tab) 7 0 0∧env 4=.v (.int .i64 (w:Nat))∧Fr H N loc T G N' loc' (T.up n F T.goals.length)∧JB n F G N' loc' (T.up n F T.goals.length)
def qr8(n:Nat)(F:List Fct)(H:Qf)(N:Nat)(loc:Loc→Nat)(T:Tb)(w:Nat)(gl:Nat)(j:Nat)(st:St):Prop:=j≤T.goals.length∧∃env G N' loc',st=⟨287,env,G,N'⟩∧env 0=.ptr (loc .tab) 7 0 0∧env 4=.v (.int .i64 (w:Nat))∧env 110=.ref gl 1 0 T.goals.length none∧env 111=.v (.int .i64 (T.goals.length:Nat))∧env 112=.v (.int .i64 (j:Nat))∧loc' .goals=gl∧Fr H N loc T G N' loc' (T.up n F j)∧JB n F G N' loc' (T.up n F j)
theorem qp9.next{w j N':Nat}{env:Nat→AV}{G:Qf}{loc':Loc→Nat}{a:Rat}{capr:Option Nat}{tr:List (List AV)}(hj:j<T.rows.length)(ha:a=if Qi n F (T.basis.getD j 0)=true then 1 else 0)(h0:env 0=.ptr (loc .tab) 7 0 0)(h4:env 4=.v (.int .i64 (w:Nat)))(h75:env 75=.v (.int .i64 (T.rows.length:Nat)))
  (hFr:Fr H N loc T G N' loc' (T.Zc (Qi n F) j)) (hR:JB n F G N' loc' (T.Zc (Qi n F) j)) (hrows:G.b (loc' .rows)=some ⟨121,2,Q9 (T.Zc (Qi n F) j) loc'++tr,false,capr⟩) {H2:Qf}
  (hH2:H2=((G.kill (loc' (.rc j))).set N' ⟨23,1,ql ((T.row j).2++[a]),false,none⟩).set (loc' .rows) ⟨121,2,(Q9 (T.Zc (Qi n F) j) loc'++tr).set j (Yb (T.row j).1 N' ((T.row j).2++[a]).length),false,capr⟩) (h76:env 76=.v (.int .i64 ((j+1:Nat):Int))) :
  qp9 n F H N loc T w (j+1) ⟨287,env,H2,N'+1⟩:=by
 have hjU:j<(T.Zc (Qi n F) j).rows.length:=by rw[Yk];exact hj
 have hlt:=hR.lt;have hne:=fun L L' (v:Tb.valid (T.Zc (Qi n F) j) L) (v':Tb.valid (T.Zc (Qi n F) j) L') (h:L≠L')=>hR.ne v v' h;have lrow:=hlt .rows trivial;have hrowj:(T.Zc (Qi n F) j).row j=T.row j:=by rw[KY _ _ _ _ hj,if_neg (Nat.lt_irrefl _)]
 have hnr:=hne .rows (.rc j) trivial hjU (by simp);have hb:∀L,Tb.valid (T.Zc (Qi n F) j) L→L≠.rows→L≠.rc j→H2.b (loc' L)=G.b (loc' L):=fun L v h1 h2=>by have:=hlt L v;rw[hH2];simp[hne L .rows v trivial h1,hne L (.rc j) v hjU h2,show ¬loc' L=N' by omega]
 have hr2:=hR.qnj (G:=H2) (N':=N'+1) (i:=j) (q:=N') hjU ((T.row j).1,(T.row j).2++[a]) (by omega) (by omega) (fun L v _=>by have:=hlt L v;omega) (capr:=capr) (tr:=tr) (by rw[hH2];simp) ⟨none,[],by rw[hH2];simp[show ¬N'=loc' .rows by omega]⟩ hb;have hup:=qep T (Qi n F) j hj;rw[←ha]at hup;rw[←hup]at hr2;refine⟨by omega,env,H2,N'+1,_,rfl,h0,h4,h75,h76,hFr.trans ?_ (fun j h1 h2=>h1),hr2⟩;rw[hup];refine Fr.one (.rc j) N' (by omega) (by rw[hH2];rfl) (fun t ht hL=>?_) (by simp) (by simp) (.inr (Nat.le_refl _)) (fun L v=>?_)
 ·have h1:=hL .rows trivial;have h2:=hL (.rc j) hjU;rw[hH2];simp[show ¬t=loc' .rows from fun e=>h1 e.symm,show ¬t=loc' (.rc j) from fun e=>h2 e.symm,show ¬t=N' by omega]
 ·cases L<;>simp only[Tb.valid,List.length_set]at v⊢<;>exact v
theorem qup:rs (-1)=.v (.string { data:=#[45,49] }):=by
 unfold rs str;have:rt (-1)=[45,49]:=by have h1:(-1:Rat).num = -1:=rfl;have h2:(-1:Rat).den=1:=rfl;rw[rt,if_pos h2,h1,il,if_pos (by decide),show(-1:Int).natAbs=1 from rfl,QN (by omega)];rfl
 rw[this];rfl
theorem qnV:Qz prog 22 1 [(0,.v (.string { data:=#[45,49] }))]=some (23,[[rs (-1)]]):=by rw[←qup];exact qch (-1)
theorem qkJ(id c:Nat):abuild prog 121 [(0,.v (.string { data:=#[48] })),(1,.ref id 1 0 c none)]=some (.agg [rs 0,.ref id 1 0 c none]):=by rw[←rs0];exact qdJ 0 id c
def qtM(n:Nat)(F:List Fct)(H:Qf)(N:Nat)(loc:Loc→Nat)(T:Tb)(w:Nat)(st:St):Prop:=∃env G N' loc' p c,st=⟨287,env,G,N'⟩∧env 0=.ptr (loc .tab) 7 0 0∧env 4=.v (.int .i64 (w:Nat))∧env 11=.v (.int .i64 (T.cols.length:Nat))∧env 12=.ptr p 2 0 0∧p≠c∧p<N'∧c<N'∧N≤p∧N≤c∧(∀L,(T.up n F T.goals.length).valid L→loc' L≠p∧loc' L≠c) ∧
 G.b p=some ⟨121,2,[Yb 0 c (List.replicate T.cols.length (0:Rat)++[-1]).length],false,some 1⟩∧JA G c (List.replicate T.cols.length 0++[-1])∧Fr H N loc T G N' loc' (T.up n F T.goals.length)∧JB n F G N' loc' (T.up n F T.goals.length)
def qsa(n:Nat)(F:List Fct)(H:Qf)(N:Nat)(loc:Loc→Nat)(T:Tb)(w:Nat)(st:St):Prop:=∃env G N' loc',st=⟨287,env,G,N'⟩∧env 0=.ptr (loc .tab) 7 0 0∧env 4=.v (.int .i64 (w:Nat))∧env 11=.v (.int .i64 (T.cols.length:Nat))∧env 12=.ptr (loc' (.gp T.goals.length)) 2 0 0∧Fr H N loc T G N' loc' (T.QL (Qi n F) (n+F.length))∧Rep n F G N' loc' (T.QL (Qi n F) (n+F.length))
theorem qjV(T:Tb)(n:Nat)(F:List Fct)(j i:Nat)(hi:i<T.goals.length):(T.up n F j).goal i=if i<j then((T.goal i).1,(T.goal i).2++[0])else T.goal i:=qcB _ _ _ hi
theorem Vj(T:Tb)(n:Nat)(F:List Fct)(j:Nat):(T.up n F j).goals.length=T.goals.length:=XI _ _
theorem qr8.next{w gl j N':Nat}{env:Nat→AV}{G:Qf}{loc':Loc→Nat}{capr:Option Nat}{tr:List (List AV)}(hj:j<T.goals.length)(h0:env 0=.ptr (loc .tab) 7 0 0)(h4:env 4=.v (.int .i64 (w:Nat)))(h110:env 110=.ref gl 1 0 T.goals.length none)(h111:env 111=.v (.int .i64 (T.goals.length:Nat)))(h112:env 112=.v (.int .i64 ((j+1:Nat):Int)))(hgl:loc' .goals=gl)
  (hFr:Fr H N loc T G N' loc' (T.up n F j)) (hR:JB n F G N' loc' (T.up n F j)) {H2:Qf} {x:Blk}
  (hH2:H2=(((G.set N' x).kill (loc' (.gc j))).set (N'+1) ⟨23,1,ql ((T.goal j).2++[0]),false,none⟩).set (loc' (.gp j)) ⟨121,2,Yb (T.goal j).1 (N'+1) ((T.goal j).2++[0]).length::tr,false,capr⟩) :
  qr8 n F H N loc T w gl (j+1) ⟨287,env,H2,N'+2⟩:=by
 have hjU:j<(T.up n F j).goals.length:=by rw[Vj];exact hj
 have hlt:=hR.lt;have hne:=fun L L' (v:Tb.valid (T.up n F j) L) (v':Tb.valid (T.up n F j) L') (h:L≠L')=>hR.ne v v' h;have lgp:=hlt (.gp j) hjU;have hnr:=hne (.gp j) (.gc j) hjU hjU (by simp);have hb:∀L,Tb.valid (T.up n F j) L→L≠.gp j→L≠.gc j→H2.b (loc' L)=G.b (loc' L):=fun L v h1 h2=>by have:=hlt L v;rw[hH2];simp[hne L (.gp j) v hjU h1,hne L (.gc j) v hjU h2,show ¬loc' L=N' by omega,show ¬loc' L=N'+1 by omega]
 have hr2:=hR.qiy (G:=H2) (N':=N'+2) (i:=j) (q:=N'+1) hjU ((T.goal j).1,(T.goal j).2++[0]) (by omega) (by omega) (fun L v _=>by have:=hlt L v;omega) (capr:=capr) (tr:=tr) (by rw[hH2];simp) ⟨none,[],by rw[hH2];simp[show ¬N'+1=loc' (.gp j) by omega]⟩ hb;have hup:T.up n F (j+1)={ T.up n F j with goals:=(T.up n F j).goals.set j ((T.goal j).1,(T.goal j).2++[0]) }:=qcC (T.Zc (Qi n F) T.rows.length) j hj;rw[←hup]at hr2;refine⟨by omega,env,H2,N'+2,_,rfl,h0,h4,h110,h111,h112,by rw[QE (by simp)];exact hgl,hFr.trans ?_ (fun j h1 h2=>by rw[Vj];exact h1),hr2⟩;rw[hup];refine Fr.one (.gc j) (N'+1) (by omega) (by rw[hH2];rfl) (fun t ht hL=>?_) (by simp) (by simp) (.inr (by omega)) (fun L v=>?_)
 ·have h1:=hL (.gp j) hjU;have h2:=hL (.gc j) hjU;rw[hH2];simp[show ¬t=loc' (.gp j) from fun e=>h1 e.symm,show ¬t=loc' (.gc j) from fun e=>h2 e.symm,show ¬t=N' by omega,show ¬t=N'+1 by omega]
 ·cases L<;>simp only[Tb.valid,List.length_set]at v⊢<;>exact v
def qr9(n:Nat)(F:List Fct)(H:Qf)(N:Nat)(loc:Loc→Nat)(T:Tb)(N2:Nat)(loc2:Loc→Nat)(T3:Tb)(k j:Nat)(st:St):Prop:=j≤T3.rows.length∧∃env G5,st=⟨287,env,G5,N2⟩∧env 0=.ptr (loc .tab) 7 0 0∧env 11=.v (.int .i64 (k:Nat))∧env 242=.v (.int .i64 (T3.rows.length:Nat))∧env 243=.v (.int .i64 (j:Nat))∧Fr H N loc T G5 N2 loc2 (T3.Ya k j)∧JB n F G5 N2 loc2 (T3.Ya k j)
def qtN(n:Nat)(F:List Fct)(H:Qf)(N:Nat)(loc:Loc→Nat)(T:Tb)(N2:Nat)(loc2:Loc→Nat)(T3:Tb)(k:Nat)(st:St):Prop:=∃env G5,st=⟨287,env,G5,N2⟩∧env 0=.ptr (loc .tab) 7 0 0∧env 11=.v (.int .i64 (k:Nat))∧Fr H N loc T G5 N2 loc2 (T3.Ya k T3.rows.length)∧JB n F G5 N2 loc2 (T3.Ya k T3.rows.length)
def qtO(n:Nat)(F:List Fct)(H:Qf)(N:Nat)(loc:Loc→Nat)(T:Tb)(N2:Nat)(loc2:Loc→Nat)(T3:Tb)(st:St):Prop:=∃env G6,st=⟨287,env,G6,N2⟩∧Fr H N loc T G6 N2 loc2 T3∧Rep n F G6 N2 loc2 T3
def qtI(n:Nat)(F:List Fct)(loc loc2:Loc→Nat)(T2:Tb)(G4:Qf)(N4 q:Nat)(tq:List (List AV))(cq:Option Nat)(gp:Nat)(j:Nat)(st:St):Prop:=j≤T2.cols.length∧∃env G5 l,st=⟨287,env,G5,N4⟩∧env 0=.ptr (loc .tab) 7 0 0∧env 12=.ptr gp 2 0 0∧env 13=.ref q 1 0 F.length none∧env 191=.ref (loc2 .cols) 1 0 T2.cols.length none∧env 192=.v (.int .i64 (T2.cols.length:Nat))∧env 193=.v (.int .i64 (j:Nat)) ∧
 (l:List Rat).length=F.length∧G5.b q=some ⟨23,1,ql l++tq,false,cq⟩∧(∀t,t≠q→G5.b t=G4.b t)∧G5.L=G4.L
theorem qr9.next{N2 k j:Nat}{loc2:Loc→Nat}{T3:Tb}{env:Nat→AV}{G5 H2:Qf}{capr capc:Option Nat}{tr tc:List (List AV)}(hj:j<T3.rows.length)(h0:env 0=.ptr (loc .tab) 7 0 0)(h11:env 11=.v (.int .i64 (k:Nat)))(h242:env 242=.v (.int .i64 (T3.rows.length:Nat)))(h243:env 243=.v (.int .i64 ((j+1:Nat):Int)))
  (hFr:Fr H N loc T G5 N2 loc2 (T3.Ya k j)) (hR:JB n F G5 N2 loc2 (T3.Ya k j))
  (hHr:H2.b (loc2 .rows)=some ⟨121,2,(Q9 (T3.Ya k j) loc2++tr).set j (Yb (T3.row j).1 (loc2 (.rc j)) ((T3.row j).2.eraseIdx k).length),false,capr⟩) (hHc:H2.b (loc2 (.rc j))=some ⟨23,1,ql ((T3.row j).2.eraseIdx k)++tc,false,capc⟩)
  (ho:∀t,t≠loc2 .rows→t≠loc2 (.rc j)→H2.b t=G5.b t) (hL:H2.L=G5.L):qr9 n F H N loc T N2 loc2 T3 k (j+1) ⟨287,env,H2,N2⟩:=by
 have hjU:j<(T3.Ya k j).rows.length:=by rw[Kr];exact hj
 have hr2:=hR.qnj (G:=H2) (N':=N2) (i:=j) (q:=loc2 (.rc j)) hjU ((T3.row j).1,(T3.row j).2.eraseIdx k) (Nat.le_refl _) (hR.lt _ hjU) (fun L v h=>hR.ne v hjU h) (capr:=capr) (tr:=tr) hHr ⟨capc,tc,hHc⟩ (fun L v h1 h2=>ho _ (hR.ne v (L':=.rows) trivial h1) (hR.ne v hjU h2));rw[KX]at hr2;have hup:=qgi T3 k j hj;rw[←hup]at hr2;refine⟨by omega,env,H2,rfl,h0,h11,h242,h243,hFr.upd (fun L v=>?_) (fun t ht=>ho t (fun e=>ht .rows trivial e.symm) fun e=>ht (.rc j) hjU e.symm) hL (Nat.le_refl _),hr2⟩;cases L<;>simp only[Tb.valid,Kr]at v⊢<;>exact v
theorem qns(T:Tb)(n:Nat)(F:List Fct)(j:Nat):(T.up n F j).rows.length=T.rows.length:=Yk _ _ _
theorem qsa.of{w N' p c:Nat}{env:Nat→AV}{G H2:Qf}{loc':Loc→Nat}(hR:Rep n F H N loc T)(h0:env 0=.ptr (loc .tab) 7 0 0)(h4:env 4=.v (.int .i64 (w:Nat)))(h11:env 11=.v (.int .i64 (T.cols.length:Nat)))(h12:env 12=.ptr p 2 0 0)(hpc:p≠c)(hpN:p<N')(hcN:c<N')(hpN0:N≤p)(hcN0:N≤c)
  (hpL:∀L,(T.up n F T.goals.length).valid L→loc' L≠p∧loc' L≠c) (hGp:G.b p=some ⟨121,2,[Yb 0 c (List.replicate T.cols.length (0:Rat)++[-1]).length],false,some 1⟩) (hGc:JA G c (List.replicate T.cols.length 0++[-1]))
  (hFr:Fr H N loc T G N' loc' (T.up n F T.goals.length)) (hR0:JB n F G N' loc' (T.up n F T.goals.length))
  (hHt:H2.b (loc .tab)=some (Z5 n F (.ref (loc' .basis) 1 0 T.basis.length none) (.ref (loc' .rows) 2 0 T.rows.length none) (.ref N' 1 0 (T.cols.length+1) none) (.ref (N'+1) 1 0 (T.goals.length+1) none)))
  (hHq:H2.b N'=some ⟨3,1,nl (T.cols++[n+F.length]),false,none⟩) (hHg:H2.b (N'+1)=some ⟨122,1,Q8 (T.up n F T.goals.length) loc'++[[.ptr p 2 0 0]],false,none⟩) (ho:∀t,t<N'→t≠loc .tab→t≠loc' .cols→t≠loc' .goals→H2.b t=G.b t) (hL:H2.L=G.L) :
  qsa n F H N loc T w ⟨287,env,H2,N'+2⟩:=by
 have htl:=hFr.tab;have hlt:=hR0.lt;have hne:=fun L L' (v:Tb.valid (T.up n F T.goals.length) L) (v':Tb.valid (T.up n F T.goals.length) L') (h:L≠L')=>hR0.ne v v' h;have l1:=Vj T n F T.goals.length;have l2:=qns T n F T.goals.length;have e0:T.QL (Qi n F) (n+F.length)={ basis:=T.basis,rows:=(T.up n F T.goals.length).rows,cols:=T.cols++[n+F.length],goals:=(T.up n F T.goals.length).goals++[(0,List.replicate T.cols.length 0++[-1])] }:=rfl;have hGm:=hR0.qdT (G:=((G.kill (loc' .cols)).set N' ⟨3,1,nl (T.cols++[n+F.length]),false,none⟩).set (loc .tab) (tref { T.up n F T.goals.length with cols:=T.cols++[n+F.length] } (reloc loc' .cols N') n F)) (N':=N'+1) (q:=N') (T.cols++[n+F.length]) (by omega) (by omega) (fun L v _=>by have:=hlt L v;omega) (capr:=none) (tr:=[]) (by rw[htl];simp)
  (by have:=hlt .tab trivial;rw[htl]at this;simp[show ¬N'=loc .tab by omega]) (fun L v h1 h2=>by have h3:=hne L .tab v trivial h1;have h4:=hne L .cols v trivial h2;have h5:=hlt L v;rw[htl]at h3;simp[h3,h4,show ¬loc' L=N' by omega])
 have hval:∀L,Tb.valid { T.up n F T.goals.length with cols:=T.cols++[n+F.length] } L→(T.up n F T.goals.length).valid L:=fun L v=>by cases L<;>exact v
 have hrl:∀L,L≠.cols→reloc loc' .cols N' L=loc' L:=fun L h=>QE h;have hRF:=hGm.qfb (G:=H2) (N':=N'+2) (q:=N'+1) (p:=p) (c:=c) (0,List.replicate T.cols.length 0++[-1]) (by omega) (by omega) (by omega) (by omega) (by omega) (by omega) hpc (fun L v h1=>by
   by_cases e:L=.cols
   ·rw[e,Za];omega
   ·rw[hrl L e];have h2:=hpL L (hval L v);have h3:=hlt L (hval L v);exact⟨by omega,h2⟩) (cap1:=none) (cap2:=some 1) (t1:=[]) (t2:=[]) (by
   rw[hrl .tab (by simp),htl,hHt];simp[tref,Zl,reloc,l1,l2];rfl) (by
   rw[hHg];have:Q8 { T.up n F T.goals.length with cols:=T.cols++[n+F.length] } (reloc loc' .cols N')=Q8 (T.up n F T.goals.length) loc':=by simp[Q8,reloc]
   rw[this]) (by
   rw[ho p hpN (fun e=>(hpL .tab trivial).1 (by rw[htl];exact e.symm)) (fun e=>(hpL .cols trivial).1 e.symm) (fun e=>(hpL .goals trivial).1 e.symm)];exact hGp) (by
   unfold JA;rw[ho c hcN (fun e=>(hpL .tab trivial).2 (by rw[htl];exact e.symm)) (fun e=>(hpL .cols trivial).2 e.symm) (fun e=>(hpL .goals trivial).2 e.symm)];exact hGc) (fun L v h1 h2=>by
   have h3:=hlt .tab trivial;rw[htl]at h3;by_cases e:L=.cols
   ·rw[e,Za,hHq];simp[show ¬N'=loc .tab by omega]
   ·rw[hrl L e];have h5:=hne L .tab (hval L v) trivial h1;have h6:=hne L .cols (hval L v) trivial e;have h7:=hne L .goals (hval L v) trivial h2;have h8:=hlt L (hval L v);rw[htl]at h5;rw[ho _ h8 h5 h6 h7];simp[h5,h6,show ¬loc' L=N' by omega])
 have hm:({ T.up n F T.goals.length with cols:=T.cols++[n+F.length] }:Tb).goals.length=T.goals.length:=l1;refine⟨env,H2,N'+2,_,rfl,h0,h4,h11,?_,?_,hRF.to (fun i hi=>?_) fun i hi=>?_⟩
 ·rw[h12,hm];simp[Zl]
 ·rw[hm];have hle:=hFr.le;refine⟨by omega,hL.trans hFr.L,fun t ht htL=>?_,fun L v=>?_,?_,fun j h1 h2=>?_⟩
  ·have hx:∀L,(T.up n F T.goals.length).valid L→loc' L≠t:=fun L v=>by
    rcases hFr.lo L v with⟨v1,e⟩|e
    ·rw[e];exact htL L v1
    ·omega
   have hx1:=hx .tab trivial;rw[htl]at hx1;rw[ho t (by omega) (Ne.symm hx1) (Ne.symm (hx .cols trivial)) (Ne.symm (hx .goals trivial))];exact hFr.fr t ht htL
  ·by_cases h1:L=.goals
   ·exact .inr (by rw[h1];simp[Zl];omega)
   ·by_cases h2:L=.gp T.goals.length
    ·exact .inr (by rw[h2];simp[Zl];omega)
    ·by_cases h3:L=.gc T.goals.length
     ·exact .inr (by rw[h3];simp[Zl];omega)
     ·have e1:Zl (reloc loc' .cols N') T.goals.length (N'+1) p c L=reloc loc' .cols N' L:=by simp[Zl,h1,h2,h3]
      rw[e1];by_cases h5:L=.cols
      ·exact .inr (by rw[h5,Za];omega)
      ·rw[hrl L h5];refine hFr.lo L ?_;rw[e0]at v;cases L<;>simp only[Tb.valid,List.length_append,List.length_singleton,l1,l2]at v⊢<;>simp at h2 h3<;>(try omega)<;>(try exact v)
  ·rw[show Zl (reloc loc' .cols N') T.goals.length (N'+1) p c .tab=reloc loc' .cols N' .tab by simp[Zl],hrl .tab (by simp)];exact htl
  ·have:Zl (reloc loc' .cols N') T.goals.length (N'+1) p c (.gp j)=reloc loc' .cols N' (.gp j):=by simp[Zl];intro h;omega
   rw[this,hrl _ (by simp)];exact hFr.gp j h1 (by rw[l1];exact h1)
 ·have hi':i<T.rows.length:=by rw[←l2];exact hi
  have:Tb.row { basis:=(T.up n F T.goals.length).basis,rows:=(T.up n F T.goals.length).rows,cols:=T.cols++[n+F.length],goals:=(T.up n F T.goals.length).goals++[(0,List.replicate T.cols.length 0++[-1])] } i=(T.Zc (Qi n F) T.rows.length).row i:=rfl;rw[this,KY _ _ _ _ hi',if_pos hi'];simp[hR.hrl i hi']
 ·have hi':i<T.goals.length+1:=by simpa[l1]using hi
  rw[qbr { T.up n F T.goals.length with cols:=T.cols++[n+F.length] } _ i,hm];by_cases h:i<T.goals.length
  ·rw[if_pos h];have:Tb.goal { T.up n F T.goals.length with cols:=T.cols++[n+F.length] } i=(T.up n F T.goals.length).goal i:=rfl;rw[this,qjV _ _ _ _ _ h,if_pos h];simp[hR.hgl i h]
  ·rw[if_neg h,if_pos (by omega)];simp
theorem qbV(hI1:qkq n F I1)(hF:Fit n F T)(hR:Rep n F H N loc T)(hg:T.goals.length=1)(hL0:∀i,H.L i=none){f:Nat}{b:Bool}{T3:LP.Tab}(hs:LP.YY (Qi n F) (n+F.length) f T.lp=some (b,T3))
  (h01:∀w,LP.V3 (Qi n F) T.lp=some w→I1 (T.QL (Qi n F) (n+F.length))) (hnz:b=false→(LP.goalAt T3 1).last≠0) :
  Qc prog 95 [.ptr (loc .tab) 7 0 0] H N fun r H' N'=>qqa n F H N loc T b T3 r H' N':=by
 refine⟨⟨_,_,func95,by kernel_rfl,rfl⟩,Qv.QM func95 rfl (by simp[ntmps95]) (Qe.seq (Qd _ _ _ ?_))⟩;have htab0:=hR.tab;have hn1:=hF.n;have hf1:=hF.f;have hr1:=hF.r;have hbl:=hR.hbl;have ltab:=hR.lt .tab trivial;have lrow:=hR.lt .rows trivial;have lbas:=hR.lt .basis trivial;have hcal:Calc H (loc .tab) 7:=Ju htab0;have htab:=hR.tab;unfold tref Z5 at htab;simp;refine Qe.seq (Qd _ _ _ ?_);simp;refine Qe.qdy (qtJ n F H N loc T) (Qd _ _ _ ?_) fun s hs1=>?_
 ·simp[htab];obtain⟨capr,tr,hrows⟩:=hR.rows;obtain⟨capb,tb,hbas⟩:=hR.basis;have hE:LP.V3 (Qi n F) T.lp=LP.Yl (Qi n F) T.basis (fun i=>(T.row i).1) T.rows.length:=by unfold LP.V3;simp only[qby,Z4];rfl
  generalize hla:(fun i=>(T.row i).1)=la at hE;have hla':∀i,(T.row i).1=la i:=fun i=>by rw[←hla]
  refine Qp.of (fun(j:Nat) st=>j≤T.rows.length∧∃env,st=⟨287,env,H,N⟩∧env 0=.ptr (loc .tab) 7 0 0∧env 4=.v (.int .i64 (oI (LP.Yl (Qi n F) T.basis la j)))∧env 20=.ref (loc .basis) 1 0 T.basis.length none∧env 21=.v (.int .i64 (T.rows.length:Nat))∧env 22=.v (.int .i64 (j:Nat)))
   (fun j=>T.rows.length-j) 0 ⟨by omega,_,rfl,by simp,by simp[LP.Yl,oI],by simp,by simp[hbl],by simp⟩ ?_
  rintro j _ ⟨hj,env,rfl,g0,g4,g20,g21,g22⟩;by_cases hjN:j<T.rows.length
  ·have hjb:j<T.basis.length:=by omega
   have hv:=hF.vb j hjb;have e1:=ZK hjb;have hrg:=ZF T loc tr j hjN;unfold Yb at hrg;have hsz:=(hF.sr j hjN).1;rw[e1]at hv;rw[hla']at hrg hsz;simp[g20,g21,g22,hjN,hjb,hbas,Zq];have hbl1:∀(st:St) (K:Cls→AV→Qf→Nat→Prop),loc .tab<st.N→st.H.b (loc .tab)=some (tref T loc n F)→K (.lod [loc .tab]) (.v (.bool (Qi n F T.basis[j]))) st.H st.N→QF prog 129 [.ptr (loc .tab) 7 0 0,.v (.int .i64 (T.basis[j]:Nat))] st K:=fun st K h1 h2 h3 =>QF.qbx (loc .tab) (sz:=7) (i:=0) (off:=0) (u:=.v (.bool (Qi n F T.basis[j]))) (by simp) h1 (fun H1 N1 e hN1=>JF (e.trans h2) hN1 (by omega) (by omega) _ (by omega)) h3
   refine Qm.walk (fun _=>false) mixed ?_;simp[-Qa,-Qb,g0];refine hbl1 _ _ ?_ ?_ ?_
   ·exact ltab
   ·exact htab0
   cases hb:Qi n F T.basis[j]with
   | false =>have hs:=qae (bd:=Qi n F) (basis:=T.basis) (la:=la) (i:=j) (fun h=>by rw[e1,hb]at h;cases h.1);simp[-Qa,-Qb,undef,g0,g4,g20,g21,g22,QH (show j+1<9223372036854775808 by omega)];exact⟨Zg.ofM (by kernel_rfl),j+1,⟨by omega,by rw[hs],rfl⟩,by omega⟩
   | true =>
    simp[-Qa,-Qb,Q0,g0,htab,hjN,hrows,hrg,ltab,lrow];refine QF.pure (k:=9) (ZZ (la j)) ?_ ?_ ?_
    ·simp[Qn]
    ·rfl
    by_cases hn:(la j).num<0
    ·have hn':=ZL.1 hn;have hp:Qi n F (T.basis.getD j 0)=true∧la j<0:=⟨by rw[e1,hb],hn'⟩;have ht:=qeJ hp;cases ho:LP.Yl (Qi n F) T.basis la j with
     | none =>rw[ho]at ht g4;replace ht:LP.Yl (Qi n F) T.basis la (j+1)=some j:=ht;replace g4:env 4=.v (.int .i64 (-1)):=g4;simp[-Qa,-Qb,undef,hn,g0,g4,g20,g21,g22,QH (show j+1<9223372036854775808 by omega)];exact⟨Zg.ofM (by kernel_rfl),j+1,⟨by omega,by rw[ht];rfl,rfl⟩,by omega⟩
     | some w =>
      rw[ho]at ht g4;replace ht:LP.Yl (Qi n F) T.basis la (j+1)=if la j<la w then some j else some w:=ht
      replace g4:env 4=.v (.int .i64 (w:Int)):=g4;have hw:=(LP.Vm ho).1;have hwN:w<T.rows.length:=by omega
      have hrw:=ZF T loc tr w hwN;unfold Yb at hrw;have hsw:=(hF.sr w hwN).1;rw[hla']at hrw hsw;simp[-Qa,-Qb,Q0,hn,g0,g4,htab,hjN,hwN,hrows,hrg,hrw,ltab,lrow,show ¬(w:Int)<0 by omega];refine QF.look (loc .tab) (sz:=7) (i:=0) (off:=0) (u:=.v (.bool (decide (la j<la w)))) ?_ ?_ (fun H1 N1 e=>qiL (by obtain⟨ty,rest,tl,fz,cap,hH⟩:=hcal;exact⟨ty,rest,tl,fz,cap,e.trans hH⟩) _ _ (by omega)) ?_
      ·simp
      ·exact ltab
      by_cases hlt:la j<la w
      ·rw[if_pos hlt]at ht;simp[-Qa,-Qb,hlt,g0,g4,g20,g21,g22,QH (show j+1<9223372036854775808 by omega)];exact⟨Zg.ofM (by kernel_rfl),j+1,⟨by omega,by rw[ht];rfl,rfl⟩,by omega⟩
      ·rw[if_neg hlt]at ht;simp[-Qa,-Qb,hlt,g0,g4,g20,g21,g22,QH (show j+1<9223372036854775808 by omega)];exact⟨Zg.ofM (by kernel_rfl),j+1,⟨by omega,by rw[ht];rfl,rfl⟩,by omega⟩
    ·have hs:=qae (bd:=Qi n F) (basis:=T.basis) (la:=la) (i:=j) (fun h=>hn (ZL.2 h.2));simp[-Qa,-Qb,undef,hn,g0,g4,g20,g21,g22,QH (show j+1<9223372036854775808 by omega)];exact⟨Zg.ofM (by kernel_rfl),j+1,⟨by omega,by rw[hs],rfl⟩,by omega⟩
  ·have hjE:j=T.rows.length:=by omega
   subst hjE;simp[g21,g22];exact⟨_,rfl,by simp[g0],by rw[hE];simp[g4]⟩
 ·obtain⟨env,rfl,g0,g4⟩:=hs1;cases hw:LP.V3 (Qi n F) T.lp with
  | none =>rw[hw]at g4;simp only[LP.YY,hw,Option.some.injEq,Prod.mk.injEq]at hs;obtain⟨rfl,rfl⟩:=hs;refine Qe.seq (Qd _ _ _ ?_);simp[oI,g4];exact⟨loc,T,Mv.refl hR,fun _=>⟨rfl,rfl⟩,fun h=>by cases h⟩
  | some w =>
   rw[hw]at g4;replace g4:env 4=.v (.int .i64 (w:Nat)):=g4;obtain⟨w1,w2,w3,w4⟩:=LP.Vm hw;rw[Z4]at w1;refine Qe.seq (Qd _ _ _ ?_);simp[g4,show ¬(w:Int)<0 by omega];refine Qe.qdy (qtK n F H N loc T w) (Qd _ _ _ ?_) fun s hs2=>?_
   ·simp[g0,htab];refine Qp.of (qp9 n F H N loc T w) (fun j=>T.rows.length-j) 0 ⟨by omega,_,H,N,loc,rfl,by simp[g0],by simp[g4],by simp,by simp,by rw[X5];exact Fr.refl _ _ _ _,by rw[X5];exact hR.to0⟩ ?_;rintro j _ ⟨hj,env,G,N',loc',rfl,g0,g4,g75,g76,hFr,hR0⟩;by_cases hjN:j<T.rows.length
    ·have hjb:j<T.basis.length:=by omega
     have hv:=hF.vb j hjb;have e1:=ZK hjb;rw[e1]at hv;have htl:=hFr.tab;have htab0':=hR0.tab;rw[htl]at htab0';have htab':=htab0';unfold tref Z5 at htab';obtain⟨cb,tb,hbas⟩:=hR0.basis;replace hbas:G.b (loc' .basis)=some ⟨3,1,nl T.basis++tb,false,cb⟩:=hbas;have hjU:j<(T.Zc (Qi n F) j).rows.length:=by rw[Yk];exact hjN
     have hrowj:(T.Zc (Qi n F) j).row j=T.row j:=by rw[KY _ _ _ _ hjN,if_neg (Nat.lt_irrefl _)]
     obtain⟨capr,tr,hrows⟩:=hR0.rows;obtain⟨capc,tc,hrc⟩:=hR0.rc j hjU;have hrg:=qaR (T.Zc (Qi n F) j) loc' tr j hjU;unfold Yb at hrg;rw[hrowj]at hrg hrc;have hrl:=hR.hrl j hjN;have hcl:=hF.c;have ltab':=hR0.lt .tab trivial;rw[htl]at ltab';have lrow':=hR0.lt .rows trivial;have lrc':=hR0.lt (.rc j) hjU;have hnr:=hR0.ne (L:=.rows) (L':=.rc j) trivial hjU (by simp);have hnt:=hR0.ne (L:=.tab) (L':=.rc j) trivial hjU (by simp);have hnt2:=hR0.ne (L:=.tab) (L':=.rows) trivial trivial (by simp);rw[htl]at hnt hnt2;simp[g0,g75,g76,hjN,hjb,htab',hbas,Zq,Yk,qc7];refine(JF htab0' ltab' (by omega) (by omega) T.basis[j] (by omega)).mono ?_;rintro v H' N2 ⟨rfl,e2,e3⟩;rw[e2,e3];clear e2 e3 H' N2;cases hb:Qi n F T.basis[j]with
     | false =>
      simp;refine Qm.Z2 (fun d=>d==102) mixed 15 ?_;simp[Q0,g0,htab',hjN,hrows,hrg,ltab',lrow',Yk,qdx,qhL];refine QI.app (ws:=[loc' (.rc j)]) (qhB (q:=0) hrc (by simp[QA]) (by omega)) ?_ ?_ ?_ (QI.of (lit:=fun _=>false) ?_)
      ·simp
      ·intro id h1 h2;simp at h2 h1;simp[h2,show ¬id=N' by omega]
      ·simp
      simp[Q0,g76,hjN,hrows,hrg,hnr,show ¬loc' .rows=N' by omega];refine⟨?h0,j+1,?h4,by omega⟩;case h0 =>
       apply Zg.lbl [loc .tab,loc' .rows,loc' (.rc j)]
       ·(repeat' first|exact Lbl.nil|apply Lbl.flo|apply Lbl.lod0|apply Lbl.hvyN|apply Lbl.hvy0|apply Lbl.WR 0 rfl|apply Lbl.hvy1 0 rfl|apply Lbl.WR 1 rfl|apply Lbl.hvy1 1 rfl|apply Lbl.WR 2 rfl|apply Lbl.hvy1 2 rfl|apply Lbl.WR 3 rfl|apply Lbl.hvy1 3 rfl)
       ·simp[hnt,hnt2,hnr]
       ·kernel_rfl
      case h4 =>exact qp9.next (a:=0) hjN (by rw[e1,hb];rfl) (by simp[g0]) (by simp[g4]) (by simp[g75]) hFr hR0 hrows (by simp[Yb]) (by simp;exact QH (by omega))
     | true =>
      simp;refine Qm.Z2 (fun d=>d==102) mixed 15 ?_;simp[Q0,g0,htab',hjN,hrows,hrg,ltab',lrow',Yk,qdx,qnU];refine QI.app (ws:=[loc' (.rc j)]) (qhB (q:=1) hrc (by simp[QA]) (by omega)) ?_ ?_ ?_ (QI.of (lit:=fun _=>false) ?_)
      ·simp
      ·intro id h1 h2;simp at h2 h1;simp[h2,show ¬id=N' by omega]
      ·simp
      simp[Q0,g76,hjN,hrows,hrg,hnr,show ¬loc' .rows=N' by omega];refine⟨?h0,j+1,?h4,by omega⟩;case h0 =>
       apply Zg.lbl [loc .tab,loc' .rows,loc' (.rc j)]
       ·(repeat' first|exact Lbl.nil|apply Lbl.flo|apply Lbl.lod0|apply Lbl.hvyN|apply Lbl.hvy0|apply Lbl.WR 0 rfl|apply Lbl.hvy1 0 rfl|apply Lbl.WR 1 rfl|apply Lbl.hvy1 1 rfl|apply Lbl.WR 2 rfl|apply Lbl.hvy1 2 rfl|apply Lbl.WR 3 rfl|apply Lbl.hvy1 3 rfl)
       ·simp[hnt,hnt2,hnr]
       ·kernel_rfl
      case h4 =>exact qp9.next (a:=1) hjN (by rw[e1,hb];rfl) (by simp[g0]) (by simp[g4]) (by simp[g75]) hFr hR0 hrows (by simp[Yb]) (by simp;exact QH (by omega))
    ·have hjE:j=T.rows.length:=by omega
     subst hjE;simp[g75,g76];exact⟨_,_,_,loc',rfl,by simp[g0],by simp[g4],hFr,hR0⟩
   ·obtain⟨env,G,N',loc',rfl,g0,g4,hFr,hR0⟩:=hs2;have htl:=hFr.tab;have htab0':=hR0.tab;rw[htl]at htab0';have htab':=htab0';unfold tref Z5 at htab';refine Qe.qdy (qtL n F H N loc T w) (Qd _ _ _ ?_) fun s hs3=>?_
    ·simp[g0,htab'];refine Qp.of (qr8 n F H N loc T w (loc' .goals)) (fun j=>T.goals.length-j) 0 ⟨by omega,_,G,N',loc',rfl,by simp[g0],by simp[g4],by simp[WX],by simp[WX],by simp,rfl,by unfold Tb.up;rw[WO];exact hFr,by unfold Tb.up;rw[WO];exact hR0⟩ ?_;rintro j _ ⟨hj,env,G,N',loc',rfl,g0,g4,g110,g111,g112,hlg,hFr,hR0⟩;by_cases hjN:j<T.goals.length
     ·have hjU:j<(T.up n F j).goals.length:=by rw[Vj];exact hjN
      obtain⟨cg,tg,hgoals⟩:=hR0.goals;have hgg:=KR (T.up n F j) loc' tg j hjU;obtain⟨cp,tp,hgp⟩:=hR0.gp j hjU;obtain⟨cgc,tgc,hgc⟩:=hR0.gc j hjU;have hgoal:(T.up n F j).goal j=T.goal j:=by rw[qjV _ _ _ _ _ hjN,if_neg (Nat.lt_irrefl _)]
      rw[hgoal]at hgp hgc;unfold Yb at hgp;have hgl:=hR.hgl j hjN;have hcl:=hF.c;have lgp:=hR0.lt (.gp j) hjU;have lgc:=hR0.lt (.gc j) hjU;have hnp:=hR0.ne (L:=.gp j) (L':=.gc j) hjU hjU (by simp);have hap:=fun env=>qhB (st:=⟨287,env,G.set N' ⟨23,1,[[rs 0]],false,some 1⟩,N'+1⟩) (id:=loc' (.gc j)) (l:=(T.goal j).2) (t:=tgc) (cap:=cgc) (x:=.ref N' 1 0 1 none) (q:=0) (by simp[show ¬loc' (.gc j)=N' by omega];exact hgc) (by simp[QA]) (by omega);rw[hlg]at hgoals;simp[g110,g111,g112,hjN,hgoals,hgg,hgp,qhL,hap,hnp,show ¬loc' (.gp j)=N' by omega,show ¬loc' (.gp j)=N'+1 by omega];refine⟨j+1,?_,by omega⟩;exact qr8.next hjN (by simp[g0]) (by simp[g4]) (by simp[g110]) (by simp[g111]) (by simp;exact QH (by omega)) hlg hFr hR0 (x:=⟨23,1,[[rs 0]],false,some 1⟩) (capr:=cp) (tr:=tp) (by simp[Yb])
     ·have hjE:j=T.goals.length:=by omega
      subst hjE;simp[g111,g112];exact⟨_,_,_,loc',rfl,by simp[g0],by simp[g4],hFr,hR0⟩
    ·obtain⟨env,G,N',loc',rfl,g0,g4,hFr,hR0⟩:=hs3;have htl:=hFr.tab;have htab0':=hR0.tab;rw[htl]at htab0';have htab':=htab0';unfold tref Z5 at htab';refine Qe.seq (Qd _ _ _ ?_);simp[g0,htab'];refine Qe.qdy (qtM n F H N loc T w) (Qd _ _ _ ?_) fun s hs4=>?_
     ·simp;refine(Kg T.cols.length (by have:=hF.c;omega)).mono ?_;rintro r G1 N1 ⟨q,cq,tq,rfl,q1,q2,q3,hE⟩;have hap:=fun env=>qhB (st:=⟨287,env,G1.set N1 ⟨23,1,[[rs (-1)]],false,some 1⟩,N1+1⟩) (id:=q) (l:=List.replicate T.cols.length 0) (t:=tq) (cap:=cq) (x:=.ref N1 1 0 1 none) (q:=-1) (by simp[show ¬q=N1 by omega];exact q3) (by simp[QA]) (by have:=hF.c;simp;omega);simp at hap;simp[qnV,hap,qkJ];have hle:=hE.1;have hE2:∀x y z,Ext G N' ((((G1.set N1 x).kill q).set (N1+1) y).set (N1+1+1) z) (N1+1+1+1):=fun x y z=>⟨by omega,hE.2.1,fun j hj=>by simp[show ¬j=N1 by omega,show ¬j=q by omega,show ¬j=N1+1 by omega,show ¬j=N1+1+1 by omega];exact hE.2.2 j hj⟩;refine⟨_,_,_,loc',N1+1+1,N1+1,rfl,by simp[g0],by simp[g4],by simp;rfl,by simp,by omega,by omega,by omega,by have:=hFr.le;omega,by have:=hFr.le;omega,fun L v=>by have:=hR0.lt L v;omega,by simp[Yb],⟨none,[],by simp⟩,hFr.trans (Fr.ext (hE2 _ _ _)) (fun j h1 h2=>h2),hR0.ext (hE2 _ _ _)⟩
     ·obtain⟨env,G,N',loc',p,c,rfl,g0,g4,g11,g12,hpc,hpN,hcN,hpN0,hcN0,hpL,hGp,hGc,hFr,hR0⟩:=hs4;have htl:=hFr.tab;have htab0':=hR0.tab;rw[htl]at htab0';have htab':=htab0';unfold tref Z5 at htab';refine Qe.qjx (qsa n F H N loc T w) ?_ fun s hs5=>?_
      ·obtain⟨cc,tc,hcols⟩:=hR0.cols;obtain⟨cg,tg,hgoals⟩:=hR0.goals;have hglen:(Q8 (T.up n F T.goals.length) loc').length=T.goals.length:=by simp[Q8,Vj]
       have ltab':=hR0.lt .tab trivial;have lcol':=hR0.lt .cols trivial;have lgo':=hR0.lt .goals trivial;have htc:=hR0.ne (L:=.tab) (L':=.cols) trivial trivial (by simp);have htg:=hR0.ne (L:=.tab) (L':=.goals) trivial trivial (by simp);have hcg:=hR0.ne (L:=.cols) (L':=.goals) trivial trivial (by simp);rw[htl]at ltab' htc htg;have hlook:∀(st:St) (K:Cls→AV→Qf→Nat→Prop),loc .tab<st.N→st.H.b (loc .tab)=some (tref (T.up n F T.goals.length) loc' n F)→K (.lod [loc .tab]) (.v (.int .i64 ((n+F.length:Nat):Int))) st.H st.N→QF prog 131 [.ptr (loc .tab) 7 0 0] st K:=fun st K h1 h2 h3 =>QF.qbx (loc .tab) (sz:=7) (i:=0) (off:=0) (u:=.v (.int .i64 ((n+F.length:Nat):Int))) (by simp) h1 (fun H1 N1 e hN1=>Yt (e.trans h2) hN1 (by omega) (by omega)) h3
       refine Qm.Z2 (fun d=>d==145||d==152) mixed 9 ?_;simp[-Int.natCast_add,Q0,g0,htab',ltab'];refine hlook _ _ ?_ ?_ ?_
       ·exact ltab'
       ·exact htab0'
       simp[-Int.natCast_add,qdx,qhM];have hcl:=hF.c;refine QI.app (ws:=[loc' .cols]) (qnD (l:=T.cols) (v:=n+F.length) hcols (by simp[QA]) (by omega)) ?_ ?_ ?_ ?_
       ·simp
       ·intro id h1 h2;simp at h2 h1;simp[h2,show ¬id=N' by omega]
       ·simp
       refine QI.at (fun d=>d==145||d==152) 6 ?_;simp[-Int.natCast_add,Q0,g0,g12,htab',htc,qdx,qmU,show ¬loc .tab=N' by omega,show loc .tab<N'+1 by omega];have hgo2:((G.kill (loc' .cols)).set N' ⟨3,1,nl (T.cols++[n+F.length]),false,none⟩).b (loc' .goals)=some ⟨122,1,Q8 (T.up n F T.goals.length) loc'++tg,false,cg⟩:=by simp[Ne.symm hcg,show ¬loc' .goals=N' by omega,hgoals]
       refine QI.app (ws:=[loc' .goals]) (qsl (p:=p) (by rw[hglen,Vj]) hgo2 (by simp[QA]) (by omega)) ?_ ?_ ?_ (QI.of (lit:=fun _=>false) ?_)
       ·simp
       ·intro id h1 h2;simp at h2 h1;simp[h2,show ¬id=N'+1 by omega]
       ·simp
       simp[-Int.natCast_add,Q0,htab',htc,htg,show ¬loc .tab=N' by omega,show ¬loc .tab=N'+1 by omega];refine⟨?h0,?h1⟩;case h0 =>
        apply Zg.lbl [loc .tab,loc' .cols,loc' .goals]
        ·(repeat' first|exact Lbl.nil|apply Lbl.flo|apply Lbl.lod0|apply Lbl.hvyN|apply Lbl.hvy0|apply Lbl.WR 0 rfl|apply Lbl.hvy1 0 rfl|apply Lbl.WR 1 rfl|apply Lbl.hvy1 1 rfl|apply Lbl.WR 2 rfl|apply Lbl.hvy1 2 rfl|apply Lbl.WR 3 rfl|apply Lbl.hvy1 3 rfl)
        ·simp[htc,htg,hcg]
        ·kernel_rfl
       case h1 =>
        refine qsa.of hR (by simp[g0]) (by simp[g4]) (by simp[g11]) (by simp[g12]) hpc hpN hcN hpN0 hcN0 hpL hGp hGc hFr hR0 ?_ ?_ ?_ ?_ rfl
        ·simp[Z5,Vj,qns];rfl
        ·simp[show ¬N'=loc .tab by omega,Ne.symm (show loc' .goals≠N' by omega)]
        ·simp[show ¬N'+1=loc .tab by omega]
        ·intro t t1 t2 t3 t4;simp[t2,t3,t4,show ¬t=N' by omega,show ¬t=N'+1 by omega]
      ·obtain⟨env,G,N',loc',rfl,g0,g4,g11,g12,hFr,hRa⟩:=hs5;have htl:=hFr.tab;have hIa:=h01 w hw;have hFa:=hI1.fit _ hIa;have e1:(T.QL (Qi n F) (n+F.length)).rows.length=T.rows.length:=Yk _ _ _;have e2:(T.QL (Qi n F) (n+F.length)).goals.length=T.goals.length+1:=by show((T.Z6 T.goals.length).goals++[_]).length=_;simp[XI]
       have e3:(T.QL (Qi n F) (n+F.length)).cols.length=T.cols.length+1:=by simp[Tb.QL]
       have hrl:=hR.hrl w w1;have hco:((T.QL (Qi n F) (n+F.length)).row w).2.getD T.cols.length 0≠0:=by have:(T.QL (Qi n F) (n+F.length)).row w=(T.Zc (Qi n F) T.rows.length).row w:=rfl;rw[this,KY _ _ _ _ w1,if_pos w1,if_pos (show Qi n F (T.basis.getD w 0)=true from w2)];simp only[List.getD_eq_getElem?_getD,←hrl];simp
       simp only[LP.YY,hw]at hs;rw[show T.lp.cols.length=T.cols.length from rfl,←qb7,←KU hRa.hrl hRa.hgl (by rw[e1];exact w1)]at hs;refine Qe.seq (Qd _ _ _ ?_);simp[g0,g4,g11];rw[←htl];refine(KW hI1 hRa hIa w T.cols.length (by rw[e1];exact w1) (by rw[e3];omega) hco).mono ?_;rintro v1 G1 N1 ⟨loc1,hM1,hIp⟩;obtain⟨p1,p2,p3,p4⟩:=Y3 (T.QL (Qi n F) (n+F.length)) w T.cols.length;have hgp1:loc1 (.gp T.goals.length)=loc' (.gp T.goals.length):=hM1.gp _ (by omega) (by omega);have hL1:∀i,G1.L i=none:=fun i=>by rw[hM1.L,hFr.L];exact hL0 i
       cases hc:LP.ZS (Qi n F) (n+F.length) 1 f ((T.QL (Qi n F) (n+F.length)).pivot w T.cols.length).lp with
       | none=>rw[hc]at hs;cases hs
       | some res =>
        obtain⟨T3',o⟩:=res;rw[hc]at hs;simp;refine Qe.seq (Qd _ _ _ ?_);simp[g0,g12];rw[←hgp1,hg,←htl,←hM1.tab];refine(qeX hI1 hM1.rep hIp (g:=1) (by omega) hL1 hc).mono ?_;rintro v2 G2 N2 ⟨rfl,loc2,T2,hM2,hI2,l1,l2,hlp⟩;replace hlp:T2.lp=T3':=hlp;subst hlp;have hM12:=hM1.trans hM2 (fun j h1 h2=>by omega);have ht2:loc2 .tab=loc .tab:=hM12.tab.trans htl;have hFr2:Fr H N loc T G2 N2 loc2 T2:=hFr.trans hM12.qut (fun j h1 h2=>by omega);have hF2:=hI1.fit _ hI2;have hg2:T2.goals.length=2:=by omega
        have hl2:T2.rows.length=T.rows.length:=by omega
        have hR2:=hM2.rep;have htab2:=hR2.tab;rw[ht2]at htab2;unfold tref Z5 at htab2;have hR3:Rep n F (G2.set (loc .tab) (tref { T2 with goals:=T2.goals.take 1 } loc2 n F)) N2 loc2 { T2 with goals:=T2.goals.take 1 }:=by
         refine(hR2.to0.qiA 1 (by omega) (by rw[ht2];simp) (fun L v h1=>?_)).to hR2.hrl fun i hi=>?_
         ·have:=hR2.ne v (L':=.tab) trivial h1;rw[ht2]at this;simp[this]
         ·have hi1:i<1∧i<T2.goals.length:=by simp at hi;omega
          have:Tb.goal { T2 with goals:=T2.goals.take 1 } i=T2.goal i:=by unfold Tb.goal;simp only[List.getD_eq_getElem?_getD,List.getElem?_take,hi1.1,if_true]
          rw[this];exact hR2.hgl i hi1.2
        have hF3:Fit n F { T2 with goals:=T2.goals.take 1 }:=hF2.take;have htk:(T2.goals.take 1).length=1:=by simp;omega
        simp;refine Qe.seq (Qd _ _ _ ?_);simp[g0,htab2,qkB,abounds,idx,hg2];have e5:(⟨98,7,[[.v (.int .i64 0),.v (.int .i64 (n:Nat)),.ro (fl F),.ref (loc2 .basis) 1 0 T2.basis.length none,.ref (loc2 .rows) 2 0 T2.rows.length none,.ref (loc2 .cols) 1 0 T2.cols.length none,.ref (loc2 .goals) 1 0 1 none]],false,some 1⟩:Blk)=tref { T2 with goals:=T2.goals.take 1 } loc2 n F:=by unfold tref Z5;simp only[htk]
        rw[e5];generalize hG3:G2.set (loc .tab) (tref { T2 with goals:=T2.goals.take 1 } loc2 n F)=G3 at hR3⊢;have ltab2:=hR2.lt .tab trivial;rw[ht2]at ltab2;have lcol2:=hR2.lt .cols trivial;have htab3:=hR3.tab;rw[ht2]at htab3;have htab3':=htab3;unfold tref Z5 at htab3';have hlook:∀(st:St) (K:Cls→AV→Qf→Nat→Prop),loc .tab<st.N→st.H.b (loc .tab)=some (tref { T2 with goals:=T2.goals.take 1 } loc2 n F)→K (.lod [loc .tab]) (.v (.int .i64 ((n+F.length:Nat):Int))) st.H st.N→QF prog 131 [.ptr (loc .tab) 7 0 0] st K:=fun st K h1 h2 h3 =>QF.qbx (loc .tab) (sz:=7) (i:=0) (off:=0) (u:=.v (.int .i64 ((n+F.length:Nat):Int))) (by simp) h1 (fun H1 N1 e hN1=>Yt (e.trans h2) hN1 (by omega) (by omega)) h3
        refine Qe.qjx (fun st=>∃env,st=⟨287,env,G3,N2⟩∧env 0=.ptr (loc .tab) 7 0 0∧env 11=.v (.int .i64 (oI (LP.qgu (n+F.length) T2.lp)))∧env 12=.ptr (loc' (.gp T.goals.length)) 2 0 0) ?_ fun s hs6=>?_
        ·refine Qm.walk (fun _=>false) mixed ?_;simp[-Int.natCast_add,Q0,g0,htab3',ltab2];refine hlook _ _ ?_ ?_ ?_
         ·exact ltab2
         ·exact htab3
         simp[-Int.natCast_add];refine QF.hv (u:=.v (.int .i64 (oI (LP.qgu (n+F.length) T2.lp)))) ?_ ?_
         ·exact qlw hR3 hF3 (n+F.length)
         simp[-Int.natCast_add];exact⟨Zg.ofM (by kernel_rfl),by simp[g0],by simp[g12]⟩
        ·obtain⟨env,rfl,g0,g11,g12⟩:=hs6;have hFr3:Fr H N loc T G3 N2 loc2 { T2 with goals:=T2.goals.take 1 }:=by
          refine⟨hFr2.le,by rw[←hG3];exact hFr2.L,fun t ht htL=>?_,fun L v=>hFr2.lo L ?_,hFr2.tab,fun j h1 h2=>hFr2.gp j h1 (by simp at h2;omega)⟩
          ·rw[←hG3];simp[show ¬t=loc .tab from fun e=>htL .tab trivial e.symm];exact hFr2.fr t ht htL
          ·cases L<;>simp only[Tb.valid,htk,hg2]at v⊢<;>first|exact v|omega
         cases hix:LP.qgu (n+F.length) T2.lp with
         | none =>
          simp only[hix,Option.some.injEq,Prod.mk.injEq]at hs;obtain⟨rfl,rfl⟩:=hs;have hnz:=hnz rfl;rw[Vi]at hnz;simp only at hnz;rw[hix]at g11;have hix2:=LP.XM hix;refine Qe.seq (Qd _ _ _ ?_);simp[g0,g11,htab3',oI,Ji];refine(Kg F.length (by omega)).mono ?_;rintro r G4 N4 ⟨q,cq,tq,rfl,q1,q2,q3,hE⟩;have htab4:G4.b (loc .tab)=some (tref { T2 with goals:=T2.goals.take 1 } loc2 n F):=(hE.2.2 _ ltab2).trans htab3;have htab4':=htab4;unfold tref Z5 at htab4';simp[g0,htab4'];have hnq:∀L,T2.valid L→loc2 L≠q:=fun L v=>by have:=hR2.lt L v;omega
          have hgl2:loc' (.gp T.goals.length)=loc2 (.gp 1):=by rw[hg]at hgp1⊢;rw[hM2.gp 1 (by omega) (by omega)];exact hgp1.symm
          have hb3:∀L,T2.valid L→L≠.tab→G4.b (loc2 L)=G2.b (loc2 L):=fun L v h1=>by rw[hE.2.2 _ (hR2.lt L v),←hG3];have:=hR2.ne v (L':=.tab) trivial h1;rw[ht2]at this;simp[this]
          obtain⟨ccl,tcl,hcols⟩:=hR2.cols;rw[←hb3 .cols trivial (by simp)]at hcols;obtain⟨cp,tp,hgp⟩:=hR2.gp 1 (by omega);rw[←hb3 (.gp 1) (show 1<T2.goals.length by omega) (by simp)]at hgp;obtain⟨cgc,tgc,hgc⟩:=hR2.gc 1 (by omega);rw[←hb3 (.gc 1) (show 1<T2.goals.length by omega) (by simp)]at hgc;unfold Yb at hgp;have hgl:=hR2.hgl 1 (by omega);have hsg:=hF2.sg 1 (by omega);have lgp:=hR2.lt (.gp 1) (show 1<T2.goals.length by omega);have lgc:=hR2.lt (.gc 1) (show 1<T2.goals.length by omega);have hle4:=hE.1;have hcl2:=hF2.c;refine Qp.of (qtI n F loc loc2 T2 G4 N4 q tq cq (loc' (.gp T.goals.length))) (fun j=>T2.cols.length-j) 0 ⟨by omega,_,G4,List.replicate F.length 0,rfl,by simp[g0],by simp[g12],by simp,by simp,by simp,by simp,by simp,q3,fun _ _=>rfl,rfl⟩ ?_;rintro j _ ⟨hj,env,G5,l,rfl,g0,g12,g13,g191,g192,g193,hll,hGq,hGo,hGL⟩;by_cases hjN:j<T2.cols.length
          ·have hqN:∀t,t<N2→G5.b t=G4.b t:=fun t ht=>hGo t (by omega);have hcols5:=(hqN _ lcol2).trans hcols;have htab5:=(hqN _ ltab2).trans htab4;have htab5':=htab5;unfold tref Z5 at htab5';have hgp5:=(hqN _ lgp).trans hgp;have hgc5:=(hqN _ lgc).trans hgc;have hgpl:loc' (.gp T.goals.length)<N4:=by rw[hgl2];omega
           have hva:=hF2.va j hjN;have hne:=hix2 j hjN;have ec:=ZK hjN;replace hne:T2.cols.getD j 0≠n+F.length:=hne;rw[ec]at hva hne;have hjg:j<(T2.goal 1).2.length:=by omega
           simp[g0,g13,g191,g192,g193,hjN,hcols5,Zq];refine(Jw htab5 T2.cols[j]).mono ?_;rintro v5 H5 N5 ⟨rfl,e5,e6⟩;rw[e5,e6];clear e5 e6 H5 N5;by_cases hfr:T2.cols[j]<n
           ·simp[hfr,g193,QH (show j+1<9223372036854775808 by omega)];exact⟨j+1,⟨by omega,_,G5,l,rfl,by simp[g0],by simp[g12],by simp[g13],by simp[g191],by simp[g192],by simp,hll,hGq,hGo,hGL⟩,by omega⟩
           ·have hvi:T2.cols[j]-n<l.length:=by omega
            have hw2:IntKind.i64.wrap ((T2.cols[j]:Int)-(n:Int))=((T2.cols[j]-n:Nat):Int):=by rw[Ql (by omega) (by omega)];omega
            rw[←hgl2]at hgp5;simp[hfr,g193];refine Qm.walk (fun _=>false) mixed ?_;simp[Q0,g0,g12,g13,htab5',hw2,hgp5,hgc5,hjN,hgpl,ZI,show loc .tab<N4 by omega,show loc2 (.gc 1)<N4 by omega,hgl];refine QF.look (loc .tab) (sz:=7) (i:=0) (off:=0) (u:=rs ((T2.goal 1).2[j]/(T2.goal 1).1)) ?_ ?_ (fun H1 N1 e=>Vb (Ju (e.trans htab5)) _ _ ?_ hnz) ?_
            ·simp
            ·show loc .tab<N4;omega
            ·have h1:=hsg.1;have h2:=hsg.2 _ (List.getElem_mem hjg);omega
            simp[Q0,g193,hGq,hll,ZI,QH (show j+1<9223372036854775808 by omega),show T2.cols[j]-n<F.length by omega];exact⟨Zg.ofM (by kernel_rfl),j+1,⟨by omega,_,_,l.set (T2.cols[j]-n) ((T2.goal 1).2[j]/(T2.goal 1).1),rfl,by simp[g0],by simp[g12],by simp[g13],by simp[g191],by simp[g192],by simp,by simp[hll],by simp[VO],fun t ht=>by simp[ht,hGo t ht],hGL⟩,by omega⟩
          ·have hjE:j=T2.cols.length:=by omega
           subst hjE;simp[g192,g193,g13];have hE5:Ext G3 N2 G5 N4:=⟨by omega,hGL.trans hE.2.1,fun t ht=>(hGo t (by omega)).trans (hE.2.2 t ht)⟩;exact⟨loc2,_,(hFr3.trans (Fr.ext hE5) (fun j h1 h2=>h2)).mv (hR3.ext hE5),fun h=>(by cases h),fun _=>⟨q,l,cq,tq,rfl,hll,hGq,by have:=hFr3.le;omega,fun L v=>hnq L (by cases L<;>simp only[Tb.valid,htk,hg2]at v⊢<;>first|exact v|omega)⟩⟩
         | some k =>
          simp only[hix,Option.some.injEq,Prod.mk.injEq]at hs;obtain⟨rfl,rfl⟩:=hs;rw[hix]at g11;replace g11:env 11=.v (.int .i64 (k:Int)):=g11;obtain⟨k1,k2⟩:=LP.XN hix;replace k1:k<T2.cols.length:=k1;have hcl2:=hF2.c;refine Qe.seq (Qd _ _ _ ?_);simp[g11,show ¬(k:Int)<0 by omega];obtain⟨ccl,tcl,hcols⟩:=hR3.cols;replace hcols:G3.b (loc2 .cols)=some ⟨3,1,nl T2.cols++tcl,false,ccl⟩:=hcols;have htc:=hR2.ne (L:=.tab) (L':=.cols) trivial trivial (by simp);rw[ht2]at htc;refine Qe.seq (Qd _ _ _ ?_);simp[g0,g11,htab3',QH (show k+1<9223372036854775808 by omega)];have hdel:=qso (N:=N2) (k:=k) hcols lcol2 (by rw[QJ];exact k1) (by rw[QJ];omega) (by intro e he;simp[nl]at he;obtain⟨x,_,rfl⟩:=he;rfl) (by intro e he c hc;simp[nl]at he;obtain⟨x,_,rfl⟩:=he;simp at hc;subst hc;rfl);rw[QJ]at hdel;refine hdel.mono ?_;rintro v G4 N4 ⟨rfl,e7,e8⟩;rw[e7,e8];clear e7 e8 G4 N4;simp[htab3',htc];have hgo0:∀i,i<1→Tb.goal { T2 with goals:=T2.goals.take 1 } i=T2.goal i:=fun i hi=>by unfold Tb.goal;simp only[List.getD_eq_getElem?_getD,List.getElem?_take,hi,if_true]
          have h4:∀G4:Qf,G4.b (loc .tab)=some (tref { T2 with goals:=T2.goals.take 1,cols:=T2.cols.eraseIdx k } loc2 n F)→(∃t cap,G4.b (loc2 .cols)=some ⟨3,1,nl (T2.cols.eraseIdx k)++t,false,cap⟩)→(∀t,t≠loc .tab→t≠loc2 .cols→G4.b t=G3.b t)→G4.L=G3.L →
            Fr H N loc T G4 N2 loc2 { T2 with goals:=T2.goals.take 1,cols:=T2.cols.eraseIdx k }∧JB n F G4 N2 loc2 { T2 with goals:=T2.goals.take 1,cols:=T2.cols.eraseIdx k }:=fun G4 a1 a2 a3 a4=>by
           obtain⟨t,cap,a2⟩:=a2;have hx:=hR3.to0.qdT (G:=G4) (N':=N2) (q:=loc2 .cols) (T2.cols.eraseIdx k) (Nat.le_refl _) lcol2 (fun L v h=>hR3.ne v (L':=.cols) trivial h) (capr:=cap) (tr:=t) (by rw[ht2,KX];exact a1) a2 (fun L v h1 h2=>by have e1:=hR3.ne v (L':=.tab) trivial h1;have e2:=hR3.ne v (L':=.cols) trivial h2;rw[ht2]at e1;exact a3 _ e1 e2)
           rw[KX]at hx;refine⟨hFr3.upd (fun L v=>by cases L<;>exact v) (fun t ht=>a3 t (fun e=>ht .tab trivial (by rw[ht2];exact e.symm)) fun e=>ht .cols trivial e.symm) a4 (Nat.le_refl _),hx⟩
          refine Qe.qdy (qtN n F H N loc T N2 loc2 { T2 with goals:=T2.goals.take 1,cols:=T2.cols.eraseIdx k } k) (Qd _ _ _ ?_) fun s hs8=>?_
          ·simp[g0];refine Qp.of (qr9 n F H N loc T N2 loc2 { T2 with goals:=T2.goals.take 1,cols:=T2.cols.eraseIdx k } k) (fun j=>T2.rows.length-j) 0 ⟨by simp,_,_,rfl,by simp[g0],by simp[g11],by simp,by simp,?_⟩ ?_
           ·rw[qgj];refine h4 _ ?_ ?_ ?_ rfl
            ·simp[tref,Z5,htk,List.length_eraseIdx,k1,hg2]
            ·exact⟨_,_,by simp[Ne.symm htc];exact⟨by rw[qlJ],rfl⟩⟩
            ·intro t t1 t2;simp[t1,t2]
           rintro j _ ⟨hj,env,G5,rfl,g0,g11,g242,g243,hFr5,hR5⟩;replace hj:j≤T2.rows.length:=hj;replace g242:env 242=.v (.int .i64 (T2.rows.length:Nat)):=g242;by_cases hjN:j<T2.rows.length
           ·have hjU:j<(Tb.Ya { T2 with goals:=T2.goals.take 1,cols:=T2.cols.eraseIdx k } k j).rows.length:=by rw[Kr];exact hjN
            have hrow:Tb.row (Tb.Ya { T2 with goals:=T2.goals.take 1,cols:=T2.cols.eraseIdx k } k j) j=T2.row j:=by rw[qcu _ _ _ _ (show j<(Tb.rows { T2 with goals:=T2.goals.take 1,cols:=T2.cols.eraseIdx k }).length from hjN),if_neg (Nat.lt_irrefl _)];rfl
            obtain⟨capr,tr,hrows⟩:=hR5.rows;obtain⟨capc,tc,hrc⟩:=hR5.rc j hjU;have hrg:=qaR _ loc2 tr j hjU;unfold Yb at hrg;rw[hrow]at hrg hrc;have htab5:=hR5.tab;rw[ht2]at htab5;unfold tref Z5 at htab5;have lrc:=hR5.lt (.rc j) hjU;have lrow5:=hR5.lt .rows trivial;have hnr:=hR5.ne (L:=.rows) (L':=.rc j) trivial hjU (by simp);have hnt:=hR5.ne (L:=.tab) (L':=.rc j) trivial hjU (by simp);have hnt2:=hR5.ne (L:=.tab) (L':=.rows) trivial trivial (by simp);rw[ht2]at hnt hnt2;have hrl2:=hR2.hrl j hjN;have hdelq:=qqM (N:=N2) (k:=k) hrc lrc (by rw[QU];omega) (by rw[QU];omega) (by intro e he;simp[ql]at he;obtain⟨x,_,rfl⟩:=he;rfl) (by intro e he c hc;simp[ql]at he;obtain⟨x,_,rfl⟩:=he;simp at hc;subst hc;rfl);rw[QU,qfw]at hdelq;have hle:((T2.row j).2.eraseIdx k).length=(T2.row j).2.length-1:=by rw[List.length_eraseIdx,if_pos (by omega)]
            simp[g242,g243,hjN];refine Qm.walk (fun _=>false) mixed ?_;simp[Q0,g0,g11,htab5,Kr,hjN,hrows,hrg,ltab2,lrow5,QH (show k+1<9223372036854775808 by omega)];refine QF.own [loc2 (.rc j)] hdelq (Nat.le_refl _) ?_ ?_
            ·intro id h1 h2;simp at h2;simp[h2]
            simp[Q0,g243,hjN,hrows,hrg,hnr];refine⟨?h0,j+1,?h1,by omega⟩;case h0 =>
             apply Zg.lbl [loc .tab,loc2 .rows,loc2 (.rc j)]
             ·(repeat' first|exact Lbl.nil|apply Lbl.flo|apply Lbl.lod0|apply Lbl.hvyN|apply Lbl.hvy0|apply Lbl.WR 0 rfl|apply Lbl.hvy1 0 rfl|apply Lbl.WR 1 rfl|apply Lbl.hvy1 1 rfl|apply Lbl.WR 2 rfl|apply Lbl.hvy1 2 rfl|apply Lbl.WR 3 rfl|apply Lbl.hvy1 3 rfl)
             ·simp[hnt,hnt2,hnr]
             ·kernel_rfl
            case h1 =>
             refine qr9.next (tc:=[.v (.string { data:=#[] })]::tc) (capc:=capc) (capr:=capr) (tr:=tr) hjN (by simp[g0]) (by simp[g11]) (by simp[g242]) (by simp;exact QH (by omega)) hFr5 hR5 ?_ ?_ ?_ rfl
             ·rw[show Tb.row { T2 with goals:=T2.goals.take 1,cols:=T2.cols.eraseIdx k } j=T2.row j from rfl];simp[Yb,hle]
             ·rw[show Tb.row { T2 with goals:=T2.goals.take 1,cols:=T2.cols.eraseIdx k } j=T2.row j from rfl];simp[Ne.symm hnr]
             ·intro t t1 t2;simp[t1,t2]
           ·have hjE:j=T2.rows.length:=by omega
            subst hjE;simp[g242,g243];exact⟨_,_,rfl,by simp[g0],by simp[g11],hFr5,hR5⟩
          ·obtain⟨env,G5,rfl,g0,g11,hFr5,hR5⟩:=hs8;have hg0:0<(T2.goals.take 1).length:=by omega
           have hv0:(Tb.Ya { T2 with goals:=T2.goals.take 1,cols:=T2.cols.eraseIdx k } k T2.rows.length).valid (.gp 0):=hg0;have hv1:(Tb.Ya { T2 with goals:=T2.goals.take 1,cols:=T2.cols.eraseIdx k } k T2.rows.length).valid (.gc 0):=hg0;have hgoal:Tb.goal (Tb.Ya { T2 with goals:=T2.goals.take 1,cols:=T2.cols.eraseIdx k } k T2.rows.length) 0=T2.goal 0:=hgo0 0 (by omega);obtain⟨cg,tg,hgoals⟩:=hR5.goals;have hgg:=KR _ loc2 tg 0 (show 0<(Tb.goals (Tb.Ya { T2 with goals:=T2.goals.take 1,cols:=T2.cols.eraseIdx k } k T2.rows.length)).length from hg0);obtain⟨cp,tp,hgp⟩:=hR5.gp 0 hv0;obtain⟨cgc,tgc,hgc⟩:=hR5.gc 0 hv1;replace hgp:G5.b (loc2 (.gp 0))=some ⟨121,2,Yb (T2.goal 0).1 (loc2 (.gc 0)) (T2.goal 0).2.length::tp,false,cp⟩:=by rw[←hgoal];exact hgp
           replace hgc:G5.b (loc2 (.gc 0))=some ⟨23,1,ql (T2.goal 0).2++tgc,false,cgc⟩:=by rw[←hgoal];exact hgc
           unfold Yb at hgp;have htab5:=hR5.tab;rw[ht2]at htab5;unfold tref Z5 at htab5;have lgo5:=hR5.lt .goals trivial;have lgp5:=hR5.lt (.gp 0) hv0;have lgc5:=hR5.lt (.gc 0) hv1;have n1:=hR5.ne (L:=.tab) (L':=.goals) trivial trivial (by simp);have n2:=hR5.ne (L:=.tab) (L':=.gp 0) trivial hv0 (by simp);have n3:=hR5.ne (L:=.tab) (L':=.gc 0) trivial hv1 (by simp);have n4:=hR5.ne (L:=.goals) (L':=.gp 0) trivial hv0 (by simp);have n5:=hR5.ne (L:=.goals) (L':=.gc 0) trivial hv1 (by simp);have n6:=hR5.ne (L:=.gp 0) (L':=.gc 0) hv0 hv1 (by simp);rw[ht2]at n1 n2 n3;have hgl0:=hR2.hgl 0 (by omega);have hdelq:=qqM (N:=N2) (k:=k) hgc lgc5 (by rw[QU];omega) (by rw[QU];omega) (by intro e he;simp[ql]at he;obtain⟨x,_,rfl⟩:=he;rfl) (by intro e he c hc;simp[ql]at he;obtain⟨x,_,rfl⟩:=he;simp at hc;subst hc;rfl);rw[QU,qfw]at hdelq;have hle:((T2.goal 0).2.eraseIdx k).length=(T2.goal 0).2.length-1:=by rw[List.length_eraseIdx,if_pos (by omega)]
           refine Qe.qjx (qtO n F H N loc T N2 loc2 (T2.Q6 k)) ?_ fun s hs9=>?_
           ·refine Qm.walk (fun _=>false) mixed ?_;have hgtl:(Tb.goals (Tb.Ya { T2 with goals:=T2.goals.take 1,cols:=T2.cols.eraseIdx k } k T2.rows.length)).length=1:=htk;rw[hgtl]at htab5;simp[Q0,g0,g11,htab5,hgoals,hgg,hgp,ltab2,lgo5,lgp5,QH (show k+1<9223372036854775808 by omega)];refine QF.own [loc2 (.gc 0)] hdelq (Nat.le_refl _) ?_ ?_
            ·intro id h1 h2;simp at h2;simp[h2]
            simp[Q0,hgp,n6];refine⟨?h0,?h1⟩;case h0 =>
             apply Zg.lbl [loc .tab,loc2 .goals,loc2 (.gp 0),loc2 (.gc 0)]
             ·(repeat' first|exact Lbl.nil|apply Lbl.flo|apply Lbl.lod0|apply Lbl.hvyN|apply Lbl.hvy0|apply Lbl.WR 0 rfl|apply Lbl.hvy1 0 rfl|apply Lbl.WR 1 rfl|apply Lbl.hvy1 1 rfl|apply Lbl.WR 2 rfl|apply Lbl.hvy1 2 rfl|apply Lbl.WR 3 rfl|apply Lbl.hvy1 3 rfl)
             ·simp[n1,n2,n3,n4,n5,n6]
             ·kernel_rfl
            case h1 =>
             have hd:T2.Q6 k={ Tb.Ya { T2 with goals:=T2.goals.take 1,cols:=T2.cols.eraseIdx k } k T2.rows.length with goals:=(T2.goals.take 1).set 0 ((T2.goal 0).1,(T2.goal 0).2.eraseIdx k) }:=by
              have:(T2.goals.take 1).set 0 ((T2.goal 0).1,(T2.goal 0).2.eraseIdx k)=[((T2.goal 0).1,(T2.goal 0).2.eraseIdx k)]:=by
               cases hh:T2.goals with
               | nil=>rw[hh]at hg2;cases hg2
               | cons a l=>simp
              rw[this];rfl
             have hvv:∀L,(T2.Q6 k).valid L→(Tb.Ya { T2 with goals:=T2.goals.take 1,cols:=T2.cols.eraseIdx k } k T2.rows.length).valid L:=fun L v=>by rw[hd]at v;cases L<;>simp only[Tb.valid,List.length_set]at v⊢<;>exact v
             refine⟨_,_,rfl,hFr5.upd (H2:=_) hvv (fun t ht=>?_) rfl ?_,?_⟩
             ·have a1:=ht (.gp 0) hv0;have a2:=ht (.gc 0) hv1;simp[Ne.symm a1,Ne.symm a2]
             ·show 1≤(T2.goals.take 1).length;omega
             ·have hN:=hR5.qiy (G:=(G5.set (loc2 (.gc 0)) ⟨23,1,ql ((T2.goal 0).2.eraseIdx k)++[.v (.string { data:=#[] })]::tgc,false,cgc⟩).set (loc2 (.gp 0)) ⟨121,2,[rs (T2.goal 0).1,.ref (loc2 (.gc 0)) 1 0 ((T2.goal 0).2.length-1) none]::tp,false,cp⟩) (N':=N2) (i:=0) (q:=loc2 (.gc 0)) hg0 ((T2.goal 0).1,(T2.goal 0).2.eraseIdx k) (Nat.le_refl _) lgc5 (fun L v h=>hR5.ne v hv1 h) (capr:=cp) (tr:=tp) (by simp[Yb,hle]) ⟨cgc,_,by simp[Ne.symm n6];rfl⟩ (fun L v h1 h2=>by simp[hR5.ne v hv0 h1,hR5.ne v hv1 h2]);rw[KX]at hN;rw[hd];have hce:(T2.cols.eraseIdx k).length=T2.cols.length-1:=by rw[List.length_eraseIdx,if_pos k1]
              refine hN.to (fun i hi=>?_) fun i hi=>?_
              ·have hi':i<T2.rows.length:=by have:=Kr { T2 with goals:=T2.goals.take 1,cols:=T2.cols.eraseIdx k } k T2.rows.length;exact this▸hi
               show((T2.Ya k T2.rows.length).row i).2.length=(T2.cols.eraseIdx k).length;rw[qcu _ _ _ _ hi',if_pos hi'];simp only;rw[List.length_eraseIdx,if_pos (by rw[hR2.hrl i hi'];exact k1),hR2.hrl i hi',hce]
              ·have hi':i=0:=by simp at hi;omega
               subst hi';have e9:∀T':Tb,T'.goals=(T2.goals.take 1).set 0 ((T2.goal 0).1,(T2.goal 0).2.eraseIdx k)→T'.goal 0=((T2.goal 0).1,(T2.goal 0).2.eraseIdx k):=fun T' h=>by unfold Tb.goal;rw[h];simp only[List.getD_eq_getElem?_getD,List.getElem?_set,hg0,if_true];rfl
               rw[e9 _ rfl];show((T2.goal 0).2.eraseIdx k).length=(T2.cols.eraseIdx k).length;rw[hle,hgl0,hce]
           ·obtain⟨env,G6,rfl,hFr6,hR6⟩:=hs9;refine Qd _ _ _ ?_;simp;exact⟨loc2,T2.Q6 k,hFr6.mv hR6,fun _=>⟨rfl,qgh _ _ (by omega)⟩,fun h=>(by cases h)⟩
end
end
section
attribute [local simp] Qq Qh Qk Qr QR QU QO Q4 QX QP QK Zd alen
def qhm(H:Qf)(N m:Nat)(r:AV)(H':Qf)(N':Nat):Prop:=∃l:List Rat,l.length=m∧qr5 H N r H' N' l
def JN(H:Qf)(N:Nat)(G1:Qf)(N1 q m:Nat)(tq:List (List AV))(cq:Option Nat)(G:Qf):Prop:=∃l:List Rat,l.length=m∧G.b q=some ⟨23,1,ql l++tq,false,cq⟩∧(∀t,t≠q→G.b t=G1.b t)∧G.L=G1.L
section
variable{n:Nat}{F:List Fct}{H:Qf}{N:Nat}{loc:Loc→Nat}{T:Tb}
theorem JN.new{G1:Qf}{N1 q m:Nat}{tq:List (List AV)}{cq:Option Nat}{G:Qf}(h:JN H N G1 N1 q m tq cq G)(hE:Ext H N G1 N1)(hq:N≤q)(hq1:q<N1):qhm H N m (.ref q 1 0 m none) G N1:=by obtain⟨l,h1,h2,h3,h4⟩:=h;exact⟨l,h1,q,cq,tq,by rw[h1],hq,hq1,h2,hE.1,h4.trans hE.2.1,fun t ht=>(h3 t (by omega)).trans (hE.2.2 t ht)⟩
theorem JN.put{G1:Qf}{N1 q m:Nat}{tq:List (List AV)}{cq:Option Nat}{G G2:Qf}{l:List Rat}{i:Nat}{x:Rat}(h1:l.length=m)(h3:∀t,t≠q→G.b t=G1.b t)(h4:G.L=G1.L)(h2:G2=G.set q ⟨23,1,ql (l.set i x)++tq,false,cq⟩):JN H N G1 N1 q m tq cq G2 :=
 ⟨l.set i x,by simp[h1],by rw[h2];simp,fun t ht=>by rw[h2];simp[ht,h3 t ht],by rw[h2];exact h4⟩
theorem qbH(hR:Rep n F H N loc T)(hF:Fit n F T) :
  Qc prog 97 [.ptr (loc .tab) 7 0 0] H N fun r H' N'=>qhm H N n r H' N':=by
 refine Qc.body func97 ntmps97 ?_;have htab0:=hR.tab;have htab:=hR.tab;unfold tref Z5 at htab;have hn1:=hF.n;have hr1:=hF.r;simp[htab];refine(Kg n (by omega)).mono ?_;rintro r G1 N1 ⟨q,cq,tq,rfl,q1,q2,q3,hE⟩;have lt:∀L,T.valid L→loc L≠q:=fun L v=>by have:=hR.lt L v;omega
 have hR1:=hR.ext hE;simp[(hE.2.2 _ (hR.lt .tab trivial)).trans htab];refine Qp.of (fun(j:Nat) st=>j≤T.rows.length∧∃env G,st=⟨37,env,G,N1⟩∧env 0=.ptr (loc .tab) 7 0 0∧env 3=.ref q 1 0 n none∧env 14=.ref (loc .basis) 1 0 T.basis.length none∧env 15=.v (.int .i64 (T.rows.length:Nat))∧env 16=.v (.int .i64 (j:Nat))∧JN H N G1 N1 q n tq cq G) (fun j=>T.rows.length-j) 0
  ⟨by omega,_,G1,rfl,by simp,by simp,by simp,by simp[hR.hbl],by simp,List.replicate n 0,by simp,q3,fun _ _=>rfl,rfl⟩ ?_
 rintro j _ ⟨hj,env,G,rfl,g0,g3,g14,g15,g16,l,hl,hGq,hGo,hGL⟩;by_cases hjN:j<T.rows.length
 ·have hE2:Ext H N G N1:=⟨hE.1,hGL.trans hE.2.1,fun t ht=>(hGo t (by omega)).trans (hE.2.2 t ht)⟩;have hR2:=hR.ext hE2;obtain⟨cb,tb,hbas⟩:=hR2.basis;obtain⟨cr,tr,hrows⟩:=hR2.rows;have hrg:=ZF T loc tr j hjN;unfold Yb at hrg;have htab2:=hR2.tab;unfold tref Z5 at htab2;have hjb:j<T.basis.length:=by rw[hR.hbl];exact hjN
  simp[g0,g3,g14,g15,g16,hjN,hjb,hbas,Zq];refine(Jw hR2.tab T.basis[j]).mono ?_;rintro v5 H5 N5 ⟨rfl,e5,e6⟩;rw[e5,e6];clear e5 e6 H5 N5;by_cases hf:T.basis[j]<n
  ·have hi:T.basis[j]<l.length:=by omega
   simp[hf,g0,g3,g16,htab2,hrows,hrg,hjN,hGq,hl,ZI,QH (show j+1<9223372036854775808 by omega)];exact⟨j+1,⟨by omega,_,_,⟨rfl,rfl⟩,by simp[g0],by simp[g3],by simp[g14],by simp[g15],by simp,JN.put (l:=l) (i:=T.basis[j]) (x:=(T.row j).1) hl hGo hGL (by simp[VO])⟩,by omega⟩
  ·simp[hf,g0,g3,g16,QH (show j+1<9223372036854775808 by omega)];exact⟨j+1,⟨by omega,_,G,⟨rfl,rfl⟩,by simp[g0],by simp[g3],by simp[g14],by simp[g15],by simp,l,hl,hGq,hGo,hGL⟩,by omega⟩
 ·have hjE:j=T.rows.length:=by omega
  subst hjE;simp[g15,g16,g3];exact JN.new ⟨l,hl,hGq,hGo,hGL⟩ hE q1 q2
def qtG(H:Qf)(N:Nat)(loc:Loc→Nat)(G1:Qf)(N1 q m:Nat)(tq:List (List AV))(cq:Option Nat)(i:Nat)(c:Rat)(st:St):Prop:=∃env G,st=⟨84,env,G,N1⟩∧env 0=.ptr (loc .tab) 7 0 0∧env 1=.v (.int .i64 (i:Nat))∧env 5=.ref q 1 0 m none∧env 6=rs c∧JN H N G1 N1 q m tq cq G
theorem qgF(hR:Rep n F H N loc T)(hF:Fit n F T)(i:Nat)(hi:i<T.rows.length)(hx:QY n F (T.basis.getD i 0)=true)(hnz:(T.row i).1≠0)(hva:∀j,j<T.cols.length→T.cols.getD j 0<n+F.length) :
  Qc prog 93 [.ptr (loc .tab) 7 0 0,.v (.int .i64 (i:Nat))] H N fun r H' N'=>qhm H N F.length r H' N':=by
 refine⟨⟨_,_,func93,by kernel_rfl,rfl⟩,Qv.QM func93 rfl (by simp[ntmps93]) (Qe.seq (Qd _ _ _ ?_))⟩;have htab0:=hR.tab;have htab:=hR.tab;unfold tref Z5 at htab;have hn1:=hF.n;have hf1:=hF.f;have hc1:=hF.c;have hib:i<T.basis.length:=by rw[hR.hbl];exact hi
 have hbx:n≤T.basis[i]∧T.basis[i]<n+F.length:=by
  rw[ZK hib]at hx;unfold QY at hx;simp only[Bool.and_eq_true,decide_eq_true_eq]at hx;refine⟨hx.1,?_⟩;have h2:=hx.2;cases h:F[T.basis[i]-n]? with
  | none=>rw[h]at h2;cases h2
  | some f=>have:=(List.getElem?_eq_some_iff.1 h).1;omega
 have hsr:=hF.sr i hi;have hnz2:-(T.row i).1≠0:=by grind
 simp;refine Qe.seq (Qd _ _ _ ?_);simp[htab,Ji];refine(Kg F.length (by omega)).mono ?_;rintro r G1 N1 ⟨q,cq,tq,rfl,q1,q2,q3,hE⟩;have lt:∀L,T.valid L→loc L≠q:=fun L v=>by have:=hR.lt L v;omega
 have hR1:=hR.ext hE;obtain⟨cb,tb,hbas⟩:=hR1.basis;obtain⟨cr,tr,hrows⟩:=hR1.rows;have hrg:=ZF T loc tr i hi;unfold Yb at hrg;have htab1:=hR1.tab;unfold tref Z5 at htab1;have l1:=hR1.lt .tab trivial;have l2:=hR1.lt .basis trivial;simp;refine Qe.seq (Qd _ _ _ ?_);simp[htab1,hrows,hrg,hi];refine Qc.pv (Y8 (T.row i).1 ((YW _).2 (by omega))) (by simp[Qn]) (by simp[Qn]) ?_;simp;refine Qe.qjx (qtG H N loc G1 N1 q F.length tq cq i (-(T.row i).1)) ?_ fun s hs=>?_
 ·refine Qm.walk (fun _=>false) mixed ?_;have hw2:IntKind.i64.wrap ((T.basis[i]:Int)-(n:Int))=((T.basis[i]-n:Nat):Int):=by rw[Ql (by omega) (by omega)];omega
  simp[Q0,htab1,hbas,Zq,hR.hbl,hi,l1,l2,hw2,←rs1];refine QF.look (loc .tab) (sz:=7) (i:=0) (off:=0) (u:=rs (1 / -(T.row i).1)) ?_ ?_ (fun H1 N1 e=>Vb (Ju (e.trans hR1.tab)) _ _ ?_ hnz2) ?_
  ·simp
  ·exact l1
  ·rw[qsU,Kb];omega
  simp[Q0,q3,show T.basis[i]-n<F.length by omega,ZI];exact⟨Zg.ofM (by kernel_rfl),_,_,rfl,by simp,by simp,by simp,by simp,JN.put (l:=List.replicate F.length 0) (i:=T.basis[i]-n) (x:=1 / -(T.row i).1) (by simp) (fun _ _=>rfl) rfl (by simp[VO])⟩
 ·obtain⟨env,G,rfl,g0,g1,g5,g6,l,hl,hGq,hGo,hGL⟩:=hs;have hE2:∀G:Qf,(∀t,t≠q→G.b t=G1.b t)→G.L=G1.L→Ext H N G N1:=fun G hGo hGL=>⟨hE.1,hGL.trans hE.2.1,fun t ht=>(hGo t (by omega)).trans (hE.2.2 t ht)⟩;have htab2:=(hR.ext (hE2 G hGo hGL)).tab;unfold tref Z5 at htab2;refine Qd _ _ _ ?_;simp[g0,htab2];refine Qp.of (fun(j:Nat) st=>j≤T.cols.length∧∃env G,st=⟨84,env,G,N1⟩∧env 0=.ptr (loc .tab) 7 0 0∧env 1=.v (.int .i64 (i:Nat))∧env 5=.ref q 1 0 F.length none∧env 6=rs (-(T.row i).1)∧env 46=.ref (loc .cols) 1 0 T.cols.length none∧env 47=.v (.int .i64 (T.cols.length:Nat))∧env 48=.v (.int .i64 (j:Nat))∧JN H N G1 N1 q F.length tq cq G) (fun j=>T.cols.length-j) 0
   ⟨by omega,_,G,rfl,by simp[g0],by simp[g1],by simp[g5],by simp[g6],by simp,by simp,by simp,l,hl,hGq,hGo,hGL⟩ ?_
  rintro j _ ⟨hj,env,G,rfl,g0,g1,g5,g6,g46,g47,g48,l,hl,hGq,hGo,hGL⟩;by_cases hjN:j<T.cols.length
  ·have hR2:=hR.ext (hE2 G hGo hGL);obtain⟨cc,tc,hcols⟩:=hR2.cols;obtain⟨cr,tr,hrows⟩:=hR2.rows;obtain⟨crc,trc,hrc⟩:=hR2.rc i hi;have hrg:=ZF T loc tr i hi;unfold Yb at hrg;have htab2:=hR2.tab;unfold tref Z5 at htab2;have hv:=hva j hjN;rw[ZK hjN]at hv;have hjr:j<(T.row i).2.length:=by rw[hR.hrl i hi];exact hjN
   have hsj:=hsr.2 _ (List.getElem_mem hjr);have l3:=hR2.lt .rows trivial;have l4:=hR2.lt (.rc i) hi;simp[g0,g5,g46,g47,g48,hjN,hcols,Zq];refine(Jw hR2.tab T.cols[j]).mono ?_;rintro v5 H5 N5 ⟨rfl,e5,e6⟩;rw[e5,e6];clear e5 e6 H5 N5;by_cases hf:T.cols[j]<n
   ·simp[hf,g48,QH (show j+1<9223372036854775808 by omega)];exact⟨j+1,⟨by omega,_,G,⟨rfl,rfl⟩,by simp[g0],by simp[g1],by simp[g5],by simp[g6],by simp[g46],by simp[g47],by simp,l,hl,hGq,hGo,hGL⟩,by omega⟩
   ·have hvi:T.cols[j]-n<F.length:=by omega
    have hw2:IntKind.i64.wrap ((T.cols[j]:Int)-(n:Int))=((T.cols[j]-n:Nat):Int):=by rw[Ql (by omega) (by omega)];omega
    simp[hf,g48];refine Qm.walk (fun _=>false) mixed ?_;simp[Q0,g0,g1,g5,htab2,hw2,hrows,hrg,hrc,hi,hjr,hjN,l1,l3,l4,ZI];refine QF.pure (k:=9) (Y8 (T.row i).2[j] ((YW _).2 (by omega))) ?_ ?_ ?_
    ·simp[Qn]
    ·simp[Qn]
    simp[g6];refine QF.look (loc .tab) (sz:=7) (i:=0) (off:=0) (u:=rs (-(T.row i).2[j] / -(T.row i).1)) ?_ ?_ (fun H1 N1 e=>Vb (Ju (e.trans hR2.tab)) _ _ ?_ hnz2) ?_
    ·simp
    ·exact l1
    ·rw[Kb,Kb];omega
    simp[Q0,g48,hGq,hl,hvi,ZI,QH (show j+1<9223372036854775808 by omega)];exact⟨Zg.ofM (by kernel_rfl),j+1,⟨by omega,_,_,⟨rfl,rfl⟩,by simp[g0],by simp[g1],by simp[g5],by simp[g6],by simp[g46],by simp[g47],by simp,JN.put (l:=l) (i:=T.cols[j]-n) (x:=-(T.row i).2[j] / -(T.row i).1) hl hGo hGL (by simp[VO])⟩,by omega⟩
  ·have hjE:j=T.cols.length:=by omega
   subst hjE;simp[g47,g48,g5];exact JN.new ⟨l,hl,hGq,hGo,hGL⟩ hE q1 q2
theorem qaQ{q:Nat}{b:Bool}(hq:H.b q=some ⟨4,1,[[.v (.bool b)]],false,some 1⟩)(x:Rat)(hx:szq x≤1510) :
  Qc prog 135 [rs x,.ptr q 1 0 0] H N fun r H' N'=>r=rs (if b=true then -x else x)∧H'=H∧N'=N:=by
 refine Qc.body func135 ntmps135 ?_;cases b with
 | true =>simp[hq];refine Qc.pv (Y8 x ((YW _).2 (by omega))) (by simp[Qn]) (by simp[Qn]) ?_;simp
 | false=>simp[hq]
def qtF(H:Qf)(N:Nat)(loc:Loc→Nat)(G1:Qf)(N1 q m k:Nat)(tq:List (List AV))(cq:Option Nat)(st:St):Prop:=∃env G,st=⟨68,env,G,N1⟩∧env 0=.ptr (loc .tab) 7 0 0∧env 1=.v (.int .i64 (k:Nat))∧env 7=.ref q 1 0 m none∧env 8=.fn (.func 135) [] [.ptr N 1 0 0]∧JN H N G1 N1 q m tq cq G
theorem qni(hR:Rep n F H N loc T)(hF:Fit n F T)(k:Nat)(hk:k<T.cols.length)(b:Bool) :
  Qc prog 98 [.ptr (loc .tab) 7 0 0,.v (.int .i64 (k:Nat)),.v (.bool b)] H N fun r H' N'=>qhm H N n r H' N':=by
 refine⟨⟨_,_,func98,by kernel_rfl,rfl⟩,Qv.QM func98 rfl (by simp[ntmps98]) (Qe.seq (Qd _ _ _ ?_))⟩;have hn1:=hF.n;have hr1:=hF.r;have hc1:=hF.c;simp;have hE0:Ext H N (H.set N ⟨4,1,[[.v (.bool b)]],false,some 1⟩) (N+1):=⟨by omega,rfl,fun j hj=>by simp[show ¬j=N by omega]⟩;have hR0:=hR.ext hE0;have htab:=hR0.tab;unfold tref Z5 at htab;refine Qe.seq (Qd _ _ _ ?_);generalize hG0:H.set N ⟨4,1,[[.v (.bool b)]],false,some 1⟩=G0 at htab hR0 hE0⊢;have hb0:G0.b N=some ⟨4,1,[[.v (.bool b)]],false,some 1⟩:=by rw[←hG0];simp
 simp[htab];refine(Kg n (by omega)).mono ?_;rintro r G1 N1 ⟨q,cq,tq,rfl,q1,q2,q3,hE1⟩;have hE:Ext H N G1 N1:=hE0.trans hE1;have hR1:=hR.ext hE;have hb1:G1.b N=some ⟨4,1,[[.v (.bool b)]],false,some 1⟩:=(hE1.2.2 N (by omega)).trans hb0;have htab1:=hR1.tab;unfold tref Z5 at htab1;have l1:=hR1.lt .tab trivial;have l2:=hR1.lt .cols trivial;have hE2:∀G:Qf,(∀t,t≠q→G.b t=G1.b t)→G.L=G1.L→Ext H N G N1:=fun G hGo hGL=>⟨hE.1,hGL.trans hE.2.1,fun t ht=>(hGo t (by omega)).trans (hE.2.2 t ht)⟩;obtain⟨cc,tc,hcols⟩:=hR1.cols;simp;refine Qe.seq (Qd _ _ _ ?_);simp;refine Qe.qdy (qtF H N loc G1 N1 q n k tq cq) (Qd _ _ _ ?_) fun s hs=>?_
 ·simp[htab1,hcols,hk,Zq];refine(Jw hR1.tab T.cols[k]).mono ?_;rintro v5 H5 N5 ⟨rfl,e5,e6⟩;rw[e5,e6];clear e5 e6 H5 N5;by_cases hf:T.cols[k]<n
  ·simp[hf];refine Qm.walk (fun _=>false) mixed ?_;simp[Q0,htab1,hcols,hk,Zq,l1,l2,←rs1];refine QF.look N (sz:=1) (i:=0) (off:=0) (u:=rs (if b=true then -1 else 1)) ?_ ?_ (fun H1 N1 e=>qaQ (e.trans hb1) 1 ?_) ?_
   ·simp
   ·show N<N1;omega
   ·rw[qsU];omega
   simp[Q0,q3,hf,ZI];exact⟨Zg.ofM (by kernel_rfl),_,_,rfl,by simp,by simp,by simp,by simp,JN.put (l:=List.replicate n 0) (i:=T.cols[k]) (x:=if b=true then -1 else 1) (by simp) (fun _ _=>rfl) rfl (by simp[VO])⟩
  ·simp[hf];exact⟨_,G1,rfl,by simp,by simp,by simp,by simp,List.replicate n 0,by simp,q3,fun _ _=>rfl,rfl⟩
 ·obtain⟨env,G,rfl,g0,g1,g7,g8,l,hl,hGq,hGo,hGL⟩:=hs;have htab2:=(hR.ext (hE2 G hGo hGL)).tab;unfold tref Z5 at htab2;refine Qd _ _ _ ?_;simp[g0,htab2];refine Qp.of (fun(j:Nat) st=>j≤T.rows.length∧∃env G,st=⟨68,env,G,N1⟩∧env 0=.ptr (loc .tab) 7 0 0∧env 1=.v (.int .i64 (k:Nat))∧env 7=.ref q 1 0 n none∧env 8=.fn (.func 135) [] [.ptr N 1 0 0]∧env 40=.ref (loc .basis) 1 0 T.basis.length none∧env 41=.v (.int .i64 (T.rows.length:Nat))∧env 42=.v (.int .i64 (j:Nat))∧JN H N G1 N1 q n tq cq G) (fun j=>T.rows.length-j) 0
   ⟨by omega,_,G,rfl,by simp[g0],by simp[g1],by simp[g7],by simp[g8],by simp,by simp[hR.hbl],by simp,l,hl,hGq,hGo,hGL⟩ ?_
  rintro j _ ⟨hj,env,G,rfl,g0,g1,g7,g8,g40,g41,g42,l,hl,hGq,hGo,hGL⟩;by_cases hjN:j<T.rows.length
  ·have hR2:=hR.ext (hE2 G hGo hGL);obtain⟨cb,tb,hbas⟩:=hR2.basis;obtain⟨cr,tr,hrows⟩:=hR2.rows;obtain⟨crc,trc,hrc⟩:=hR2.rc j hjN;have hrg:=ZF T loc tr j hjN;unfold Yb at hrg;have htab2:=hR2.tab;unfold tref Z5 at htab2;have hjb:j<T.basis.length:=by rw[hR.hbl];exact hjN
   have hkr:k<(T.row j).2.length:=by rw[hR.hrl j hjN];exact hk
   have hsj:=(hF.sr j hjN).2 _ (List.getElem_mem hkr);have hb2:G.b N=some ⟨4,1,[[.v (.bool b)]],false,some 1⟩:=(hGo N (by omega)).trans hb1;simp[g0,g7,g40,g41,g42,hjN,hjb,hbas,Zq];refine(Jw hR2.tab T.basis[j]).mono ?_;rintro v5 H5 N5 ⟨rfl,e5,e6⟩;rw[e5,e6];clear e5 e6 H5 N5;by_cases hf:T.basis[j]<n
   ·have hi:T.basis[j]<l.length:=by omega
    simp[hf,g0,g1,g7,g8,g42,htab2,hrows,hrg,hrc,hjN,hkr,hk,ZI];refine(qaQ hb2 (T.row j).2[k] (by omega)).mono ?_;rintro v5 H5 N5 ⟨rfl,e5,e6⟩;rw[e5,e6];clear e5 e6 H5 N5;simp[g42,hGq,hl,hf,ZI,QH (show j+1<9223372036854775808 by omega)];exact⟨j+1,⟨by omega,_,_,⟨rfl,rfl⟩,by simp[g0],by simp[g1],by simp[g7],by simp[g8],by simp[g40],by simp[g41],by simp,JN.put (l:=l) (i:=T.basis[j]) (x:=if b=true then -(T.row j).2[k]else(T.row j).2[k]) hl hGo hGL (by simp[VO])⟩,by omega⟩
   ·simp[hf,g0,g7,g8,g42,QH (show j+1<9223372036854775808 by omega)];exact⟨j+1,⟨by omega,_,G,⟨rfl,rfl⟩,by simp[g0],by simp[g1],by simp[g7],by simp[g8],by simp[g40],by simp[g41],by simp,l,hl,hGq,hGo,hGL⟩,by omega⟩
  ·have hjE:j=T.rows.length:=by omega
   subst hjE;simp[g41,g42,g7];exact JN.new ⟨l,hl,hGq,hGo,hGL⟩ hE (by have:=hE0.1;omega) q2
end
end
section
attribute [local simp] Qq Qh Qk Qr QR QU QO Q4 QX QP QK Zd alen
def SlQ(H:Qf)(x:AV)(l:List Rat):Prop:=(x=.v (.slice none 0 0)∧l=[])∨∃q cap t,x=.ref q 1 0 l.length none∧H.b q=some ⟨23,1,ql l++t,false,cap⟩
def qtc(n m:Nat)(H:Qf)(a:Nat)(v:Rat)(cs:List AV):Prop:=∃val pt ray mu lp lr lm,cs=[.v (.int .i64 (a:Nat)),val,pt,ray,mu]∧SlQ H pt lp∧SlQ H ray lr∧SlQ H mu lm ∧
 ((a=0∧val=rs v∧lp.length=n∧lr=[]∧lm.length=m∧szq v≤1510)∨(a=1∧val=.v (.string { data:=#[] })∧lp.length=n∧lr.length=n∧lm=[])∨(a=2∧val=.v (.string { data:=#[] })∧lp=[]∧lr=[]∧lm.length=m))
theorem qmQ(q m:Nat):abuild prog 33 [(0,.v (.int .i64 2)),(4,.ref q 1 0 m none)]=some (.agg [.v (.int .i64 2),.v (.string { data:=#[] }),.v (.slice none 0 0),.v (.slice none 0 0),.ref q 1 0 m none]):=by kernel_rfl
theorem qmP(q p n m:Nat):abuild prog 33 [(0,.v (.int .i64 1)),(2,.ref q 1 0 n none),(3,.ref p 1 0 m none)]=some (.agg [.v (.int .i64 1),.v (.string { data:=#[] }),.ref q 1 0 n none,.ref p 1 0 m none,.v (.slice none 0 0)]):=by kernel_rfl
theorem qqt(x:Rat)(q p n m:Nat):abuild prog 33 [(0,.v (.int .i64 0)),(1,rs x),(2,.ref q 1 0 n none),(4,.ref p 1 0 m none)]=some (.agg [.v (.int .i64 0),rs x,.ref q 1 0 n none,.v (.slice none 0 0),.ref p 1 0 m none]):=by unfold rs str;kernel_rfl
def pgB(tab:Nat)(cs:List AV):Blk:=⟨92,6,[.ptr tab 7 0 0::cs],false,some 1⟩
def qoV:List AV:=[.v (.int .i64 0),.v (.string { data:=#[] }),.v (.slice none 0 0),.v (.slice none 0 0),.v (.slice none 0 0)]
section
variable{n:Nat}{F:List Fct}{H:Qf}{N:Nat}{loc:Loc→Nat}{T:Tb}{I0 I1:Tb→Prop}
def Xk(n:Nat)(F:List Fct)(tab pid a:Nat)(v:Rat)(rid:Nat)(rb:Option Blk)(H':Qf):Prop:=(∃cs,H'.b pid=some (pgB tab cs)∧qtc n F.length H' a v cs)∧(∃a3 a4 a5 a6,H'.b tab=some (Z5 n F a3 a4 a5 a6))∧H'.b rid=rb
theorem SlQ.nil{H:Qf}:SlQ H (.v (.slice none 0 0)) []:=.inl ⟨rfl,rfl⟩
theorem Xk.of{tab pid a rid:Nat}{rb:Option Blk}{v:Rat}{G:Qf}{cs:List AV}(hne:tab≠pid)(hrp:rid≠pid)(ht:∃a3 a4 a5 a6,G.b tab=some (Z5 n F a3 a4 a5 a6))(hr:G.b rid=rb)(h:qtc n F.length (G.set pid (pgB tab cs)) a v cs):Xk n F tab pid a v rid rb (G.set pid (pgB tab cs)):=by obtain⟨a3,a4,a5,a6,ht⟩:=ht;exact⟨⟨cs,by simp,h⟩,⟨a3,a4,a5,a6,by simp[hne,ht]⟩,by simp[hrp,hr]⟩
theorem qhm.get{m:Nat}{r:AV}{H':Qf}{N':Nat}(h:qhm H N m r H' N'):∃q l cap t,r=.ref q 1 0 m none∧l.length=m∧N≤q∧q<N'∧H'.b q=some ⟨23,1,ql l++t,false,cap⟩∧Ext H N H' N':=by obtain⟨l,h1,q,cap,t,h2,h3,h4,h5,h6⟩:=h;exact⟨q,l,cap,t,by rw[h2,h1],h1,h3,h4,h5,h6⟩
theorem SlQ.of{q:Nat}{l:List Rat}{m:Nat}{cap:Option Nat}{t:List (List AV)}(hl:l.length=m)(h:H.b q=some ⟨23,1,ql l++t,false,cap⟩):SlQ H (.ref q 1 0 m none) l:=.inr ⟨q,cap,t,by rw[hl],h⟩
def SoI(n:Nat)(G3:Qf)(N3 pid:Nat)(loc3:Loc→Nat)(T3:Tb)(j:Nat)(st:St):Prop:=j≤T3.cols.length∧∃env,st=⟨197,env,G3,N3⟩∧env 0=.ptr pid 6 0 0∧env 5=.ptr (loc3 (.gp 0)) 2 0 0∧env 64=.ref (loc3 .cols) 1 0 T3.cols.length none∧env 65=.v (.int .i64 (T3.cols.length:Nat))∧env 66=.v (.int .i64 (j:Nat)) ∧
 ∀i,i<j→(Zt n (T3.cols.getD i 0)&&decide ((T3.goal 0).2.getD i 0≠0))=false
theorem qck{bd:Nat→Bool}{art g k:Nat}:∀(f:Nat) (T T':LP.Tab),LP.ZS bd art g f T=some (T',some k)→LP.YL bd T' g=some k:=by
 intro f;induction f with
 | zero=>intro T T' h;cases h
 | succ f ih =>
  intro T T' h;simp only[LP.ZS]at h;split at h
  ·cases h
  ·rename_i k' he;split at h
   ·injection h with h;injection h with h1 h2;injection h2 with h2;subst h1 h2;exact he
   ·split at h
    ·cases h
    ·exact ih _ _ h
def SoJ(H:Qf)(N:Nat)(G5:Qf)(N5 pid q:Nat)(tq:List (List AV))(cq:Option Nat)(F:List Fct)(loc:Loc→Nat)(T:Tb)(j:Nat)(st:St):Prop:=j≤T.cols.length∧∃env G,st=⟨197,env,G,N5⟩∧env 0=.ptr pid 6 0 0∧env 5=.ptr (loc (.gp 0)) 2 0 0∧env 9=.ref q 1 0 F.length none∧env 149=.ref (loc .cols) 1 0 T.cols.length none∧env 150=.v (.int .i64 (T.cols.length:Nat))∧env 151=.v (.int .i64 (j:Nat))∧JN H N G5 N5 q F.length tq cq G
theorem qbU(hI0:qkq n F I0)(hI1:qkq n F I1)(hR:Rep n F H N loc T)(hT:I0 T)(hg:T.goals.length=1)(hL0:∀i,H.L i=none){pid:Nat}(hpN:pid<N)(hpL:∀L,T.valid L→loc L≠pid)(hp:H.b pid=some (pgB (loc .tab) qoV)){rid:Nat}(hrN:rid<N)(hrL:∀L,T.valid L→loc L≠rid)(hrp:rid≠pid)
  {P:LP.Prg} (hPm:P.n+P.m=n+F.length) (hPf:P.fr=Zt n) (hPx:P.fx=QY n F) (hPb:P.bd=Qi n F) {f1 f2 a:Nat} {v:Rat} (hs:LP.WZ P f1 f2 T.lp=some (a,v))
  (heq:∀(T1:Tb) i,LP.qak (Zt n) (QY n F) T.rows.length 0 T.lp=(T1.lp,some i)→i<T1.rows.length∧QY n F (T1.basis.getD i 0)=true∧(T1.row i).1≠0) (hva:∀T1:Tb,I0 T1→∀j,j<T1.cols.length→T1.cols.getD j 0<n+F.length)
  (h01:∀T1:Tb,I0 T1→I1 (T1.QL (Qi n F) (n+F.length)))
  (hnz:∀(T1:Tb) T3,LP.qak (Zt n) (QY n F) T.rows.length 0 T.lp=(T1.lp,none)→LP.YY (Qi n F) (n+F.length) f1 (LP.qaV (Zt n) (Qi n F) T1.rows.length 0 T1.lp)=some (false,T3)→(LP.goalAt T3 1).last≠0)
  (h12:∀(T1 T3:Tb),LP.qak (Zt n) (QY n F) T.rows.length 0 T.lp=(T1.lp,none)→LP.YY (Qi n F) (n+F.length) f1 (LP.qaV (Zt n) (Qi n F) T1.rows.length 0 T1.lp)=some (true,T3.lp)→I0 T3∧T3.goals.length=1) :
  Qc prog 61 [.ptr pid 6 0 0] H N fun r H' N'=>Xk n F (loc .tab) pid a v rid (H.b rid) H':=by
 refine Qc.body func61 ntmps61 ?_;have hp':=hp;unfold pgB qoV at hp';unfold LP.WZ at hs;rw[hPf,hPx,hPb,hPm]at hs;simp[hp'];refine(qcy hI0 hR hT).mono ?_;rintro r1 G1 N1 ⟨loc1,T1,o,rfl,hM1,hI1',l1,l2,he⟩;obtain⟨hp1,hpL1⟩:=hM1.keep hpN hpL;obtain⟨hr1,hrL1⟩:=hM1.keep hrN hrL;rw[hp]at hp1;have hp1':=hp1;unfold pgB qoV at hp1';rw[Z4,he]at hs;have hF1:=hI0.fit _ hI1';have hpi:=hM1.le;have hne:loc .tab≠pid:=hpL .tab trivial;cases o with
 | some i =>simp only[Option.some.injEq,Prod.mk.injEq]at hs;obtain⟨rfl,rfl⟩:=hs;obtain⟨i1,i2,i3⟩:=heq T1 i he;simp[oI,hp1',show(0:Int)≤(i:Int) by omega];have hc:=qgF hM1.rep hF1 i i1 i2 i3 (hva _ hI1');rw[hM1.tab]at hc;refine hc.mono ?_;intro r2 G2 N2 h2;obtain⟨q,l,cq,tq,rfl,hl,q1,q2,q3,hE⟩:=h2.get;have hp2:=(hE.2.2 pid (by omega)).trans hp1';have ht:=hM1.rep.tab;rw[hM1.tab]at ht;have hlt:=hM1.rep.lt .tab trivial;rw[hM1.tab]at hlt;have ht2:=(hE.2.2 _ hlt).trans ht;simp[qmQ,hp2];refine⟨⟨_,by simp[pgB];exact rfl,_,_,_,_,[],[],l,rfl,SlQ.nil,SlQ.nil,SlQ.of hl (by simp[show ¬q=pid by omega];exact q3),.inr (.inr ⟨rfl,rfl,rfl,rfl,hl⟩)⟩,⟨_,_,_,_,by simp[hne];exact ht2⟩,by simp[hrp];exact(hE.2.2 rid (by omega)).trans hr1⟩
 | none =>
  simp[oI,hp1'];have hc:=qeB hI0 hM1.rep hI1';rw[hM1.tab]at hc;refine hc.mono ?_;rintro r2 G2 N2 ⟨loc2,T2,hM2,hI2,u1,u2,u3⟩;obtain⟨hp2,hpL2⟩:=hM2.keep (by omega) hpL1;have hp2':=hp2.trans hp1';have hle2:=hM2.le;obtain⟨hr2,hrL2⟩:=hM2.keep (by omega) hrL1;have hF2:=hI0.fit _ hI2;simp[hp2'];simp only[Z4]at hs;rw[←u3]at hs;have hsx:∃b T3,LP.YY (Qi n F) (n+F.length) f1 T2.lp=some (b,T3):=by
   cases h:LP.YY (Qi n F) (n+F.length) f1 T2.lp with
   | none=>rw[h]at hs;cases hs
   | some p=>exact⟨p.1,p.2,rfl⟩
  obtain⟨b,T3L,hst⟩:=hsx;have hc:=qbV hI1 hF2 hM2.rep (by omega) (fun i=>by rw[hM2.L,hM1.L];exact hL0 i) hst (fun w _=>h01 T2 hI2) (fun hb=>by subst hb;exact hnz T1 T3L he (by rw[←u3];exact hst))
  rw[hM2.tab,hM1.tab]at hc;refine hc.mono ?_;rintro r3 G3 N3 ⟨loc3,T3,hM3,z1,z2⟩;obtain⟨hp3,hpL3⟩:=hM3.keep (by omega) hpL2;have hp3':=hp3.trans hp2';have hle3:=hM3.le;obtain⟨hr3,hrL3⟩:=hM3.keep (by omega) hrL2;have hrr3:=hr3.trans (hr2.trans hr1);have hrN3:rid<N3:=by omega
  rw[hst]at hs;have ht:=hM3.rep.tab;rw[hM3.tab,hM2.tab,hM1.tab]at ht;have hlt:=hM3.rep.lt .tab trivial;rw[hM3.tab,hM2.tab,hM1.tab]at hlt;cases b with
  | false =>obtain⟨q,l,cq,tq,rfl,hl,hq,hqN,hqL⟩:=z2 rfl;simp only[Option.some.injEq,Prod.mk.injEq]at hs;obtain⟨rfl,rfl⟩:=hs;simp[hp3',qmQ];refine⟨⟨_,by simp[pgB];exact rfl,_,_,_,_,[],[],l,rfl,SlQ.nil,SlQ.nil,SlQ.of hl (by simp[show ¬q=pid by omega];exact hq),.inr (.inr ⟨rfl,rfl,rfl,rfl,hl⟩)⟩,⟨_,_,_,_,by simp[hne];exact ht⟩,by simp[hrp];exact hrr3⟩
  | true =>
   obtain⟨rfl,z3⟩:=z1 rfl;obtain⟨hI3,hg3⟩:=h12 T1 T3 he (by rw[←u3,hst,z3]);obtain⟨capg,tg,hgo⟩:=hM3.rep.goals;have htab:=hM3.rep.tab;unfold tref Z5 at htab;rw[hM3.tab,hM2.tab,hM1.tab]at htab;have hR3:=hM3.rep;have hF3:=hI0.fit _ hI3;have hT3:loc3 .tab=loc .tab:=by rw[hM3.tab,hM2.tab,hM1.tab]
   have hL3:∀i,G3.L i=none:=fun i=>by rw[hM3.L,hM2.L,hM1.L];exact hL0 i
   have hpN3:pid<N3:=by omega
   have hg0:0<T3.goals.length:=by omega
   have hgg:=KR T3 loc3 tg 0 hg0;obtain⟨capc,tc,hcols⟩:=hR3.cols;obtain⟨capp,tp,hgp⟩:=hR3.gp 0 hg0;obtain⟨capk,tk,hgc⟩:=hR3.gc 0 hg0;have hgl:=hR3.hgl 0 hg0;have hc1000:=hF3.c;unfold Yb at hgp;simp only[←z3]at hs;clear hM1 hM2 hM3 hI1' hI2 he hst z1 z2 z3 hp1 hp2 hp3 hp1' hp2' hp hp' heq h01 hnz h12 hr1 hr2 hr3;simp[hp3',htab,hgo,hgg,hg0];refine Qp.of (SoI n G3 N3 pid loc3 T3) (fun j=>T3.cols.length-j) 0 ⟨by omega,_,rfl,by simp,by simp,by simp,by simp,by simp,fun i hi=>by omega⟩ ?_;rintro j _ ⟨hj,env,rfl,g0,g5,g64,g65,g66,hno⟩;by_cases hjN:j<T3.cols.length
   ·have hjg:j<(T3.goal 0).2.length:=by omega
    have hgd:(T3.goal 0).2.getD j 0=(T3.goal 0).2[j]:=by simp[List.getD_eq_getElem?_getD,hjg]
    simp[g0,g5,g64,g65,g66,hjN,hcols,Zq,hp3'];have hc:=Jw (N:=N3) hR3.tab T3.cols[j];rw[hT3]at hc;clear htab hgo hgg;refine hc.mono ?_;rintro v5 H5 N5 ⟨rfl,e5,e6⟩;rw[e5,e6];clear e5 e6 H5 N5;by_cases hf:T3.cols[j]<n
    ·by_cases hz:(T3.goal 0).2[j]=0
     ·simp[hf,g5,g66,hjN,hgp,hgc,hjg,ZI,Kz,hz,QH (show j+1<9223372036854775808 by omega)];refine⟨j+1,⟨by omega,_,rfl,by simp[g0],by simp[g5],by simp[g64],by simp[g65],by simp,fun i hi=>?_⟩,by omega⟩;by_cases hij:i=j
      ·subst hij;rw[ZK hjN,hgd,hz];simp
      ·exact hno i (by omega)
     ·simp[hf,g5,g66,hjN,hgp,hgc,hjg,ZI,Kz,hz];have hfind:(List.range T3.lp.cols.length).find? (fun k=>Zt n (T3.lp.cols.getD k 0)&&decide ((LP.goalAt T3.lp 0).co k≠0))=some j:=by
       refine JI (n:=T3.cols.length) hjN ?_ fun i hi=>?_
       ·show(Zt n (T3.cols.getD j 0)&&_)=true;rw[qiP,ZK hjN,hgd];simp[Zt,hf,hz]
       ·rw[qiP];exact hno i hi
      rw[hfind]at hs;simp only[Option.some.injEq,Prod.mk.injEq]at hs;obtain⟨rfl,rfl⟩:=hs;have l3:=hR3.lt (.gp 0) hg0;have l4:=hR3.lt (.gc 0) hg0;refine Qm.cut mixed ([0,1,2,3,4,6,7,8,9,10,11,12,13,14,15,16,17]++(5::([18]++(19::[20,21,22,23])))) (by kernel_rfl) (by kernel_rfl) ?_;refine Yp.walk (fun _=>false) _ ?_;simp[qbZ,Q0,g0,g5,hp3',hpN3,hjN,hgp,hgc,hjg,l3,l4,ZI];refine sgK.mk (by kernel_rfl) ?_;have hpt:=qbH hR3 hF3;rw[hT3]at hpt;refine Yp.call [] rfl (by kernel_rfl) (by simp) (S:=fun r H' N'=>qhm G3 N3 n r H' N') (by simp;exact hpt) (fun u H' N' h=>by obtain⟨_,_,_,_,_,_,_,_,_,hE⟩:=h.get;exact⟨hE.1,fun id hi _=>hE.2.2 id hi⟩) ?_;intro r4 G4 N4 h4;obtain⟨q,l,cq,tq,rfl,hl,q1,q2,q3,hE⟩:=h4.get;refine Yp.walk (fun _=>false) [18] ?_;simp[qbZ];refine QF.pure (k:=9) (ZZ (T3.goal 0).2[j]) ?_ ?_ ?_
      ·simp[Qn]
      ·rfl
      simp;refine sgK.mk (by kernel_rfl) ?_;have hry:=qni (hR3.ext hE) hF3 j hjN (decide ((T3.goal 0).2[j].num<0));rw[hT3]at hry;refine Yp.call [] rfl (by kernel_rfl) (by simp) (S:=fun r H' N'=>qhm G4 N4 n r H' N') (by simp;exact hry) (fun u H' N' h=>by obtain⟨_,_,_,_,_,_,_,_,_,hE⟩:=h.get;exact⟨hE.1,fun id hi _=>hE.2.2 id hi⟩) ?_;intro r5 G5 N5 h5;obtain⟨q',l',cq',tq',rfl,hl',q1',q2',q3',hE'⟩:=h5.get;have hE2:=hE.trans hE';have hp5:=(hE2.2.2 pid hpN3).trans hp3';refine Yp.last (fun _=>false) [20,21,22,23] ?_;simp[qbZ,Q0,hp5,qmP];refine sgK.done (by kernel_rfl) ?_;simp;refine Xk.of hne hrp ⟨_,_,_,_,(hE2.2.2 _ hlt).trans ht⟩ ((hE2.2.2 rid hrN3).trans hrr3) ⟨_,_,_,_,l,l',[],rfl,SlQ.of (cap:=cq) (t:=tq) hl ?_,SlQ.of (cap:=cq') (t:=tq') hl' ?_,SlQ.nil,.inr (.inl ⟨rfl,rfl,hl,hl',rfl⟩)⟩
      ·simp[show ¬q=pid by omega];exact(hE'.2.2 _ (by omega)).trans q3
      ·simp[show ¬q'=pid by have:=hE.1;omega];exact q3'
    ·simp[hf,g5,g66,QH (show j+1<9223372036854775808 by omega)];refine⟨j+1,⟨by omega,_,rfl,by simp[g0],by simp[g5],by simp[g64],by simp[g65],by simp,fun i hi=>?_⟩,by omega⟩;by_cases hij:i=j
     ·subst hij;rw[ZK hjN];simp[Zt,hf]
     ·exact hno i (by omega)
   ·have hjE:j=T3.cols.length:=by omega
    subst hjE;have hfind:(List.range T3.lp.cols.length).find? (fun k=>Zt n (T3.lp.cols.getD k 0)&&decide ((LP.goalAt T3.lp 0).co k≠0))=none:=JH (n:=T3.cols.length) fun i hi=>by rw[qiP];exact hno i hi
    rw[hfind]at hs;simp only at hs;have hcx:∃res,LP.ZS (Qi n F) (n+F.length) 0 f2 T3.lp=some res:=by
     cases h:LP.ZS (Qi n F) (n+F.length) 0 f2 T3.lp with
     | none=>rw[h]at hs;cases hs
     | some p=>exact⟨p,rfl⟩
    obtain⟨⟨T4L,o⟩,hcl⟩:=hcx;rw[hcl]at hs;simp[g0,g5,g64,g65,g66,hp3'];clear hc hcols hgp hgc htab hgo hgg;have hc:=qeX hI0 hR3 hI3 hg0 hL3 hcl;rw[hT3]at hc;refine hc.mono ?_;rintro v5 G4 N4 ⟨rfl,loc4,T4,hM4,hI4,k1,k2,rfl⟩;obtain⟨hp4,hpL4⟩:=hM4.keep hpN3 hpL3;have hp4':=hp4.trans hp3';have hle4:=hM4.le;have hr4:=(hM4.keep hrN3 hrL3).1.trans hrr3;have hrN4:rid<N4:=by omega
    have hT4:loc4 .tab=loc .tab:=by rw[hM4.tab,hT3]
    have hR4:=hM4.rep;have hF4:=hI0.fit _ hI4;have hpN4:pid<N4:=by omega
    have ht4:=hR4.tab;rw[hT4]at ht4;have hlt4:=hR4.lt .tab trivial;rw[hT4]at hlt4;have hgp0:=hM4.gp 0 hg0 (by omega);cases o with
    | some k =>
     simp only[Option.some.injEq,Prod.mk.injEq]at hs;obtain⟨rfl,rfl⟩:=hs;have hk:k<T4.cols.length:=(LP.ZJ (qck _ _ _ hcl)).1;simp[oI,g0,show(0:Int)≤(k:Int) by omega];refine Qm.cut mixed ([0,1,2,3,4,6,7,8,9,10]++(5::([]++(11::[12,13,14,15])))) (by kernel_rfl) (by kernel_rfl) ?_;refine Yp.walk (fun _=>false) _ ?_;simp[qbZ,Q0,g0,hp4',hpN4];refine sgK.mk (by kernel_rfl) ?_;have hpt:=qbH hR4 hF4;rw[hT4]at hpt;refine Yp.call [] rfl (by kernel_rfl) (by simp) (S:=fun r H' N'=>qhm G4 N4 n r H' N') (by simp;exact hpt) (fun u H' N' h=>by obtain⟨_,_,_,_,_,_,_,_,_,hE⟩:=h.get;exact⟨hE.1,fun id hi _=>hE.2.2 id hi⟩) ?_;intro r4 G5 N5 h4;obtain⟨q,l,cq,tq,rfl,hl,q1,q2,q3,hE⟩:=h4.get;have hry:=qni (hR4.ext hE) hF4 k hk false;rw[hT4]at hry;refine Yp.call [] rfl (by kernel_rfl) (by simp) (S:=fun r H' N'=>qhm G5 N5 n r H' N') (by simp;exact hry) (fun u H' N' h=>by obtain⟨_,_,_,_,_,_,_,_,_,hE⟩:=h.get;exact⟨hE.1,fun id hi _=>hE.2.2 id hi⟩) ?_;intro r5 G6 N6 h5;obtain⟨q',l',cq',tq',rfl,hl',q1',q2',q3',hE'⟩:=h5.get;have hE2:=hE.trans hE';have hp5:=(hE2.2.2 pid hpN4).trans hp4';refine Yp.last (fun _=>false) [12,13,14,15] ?_;simp[qbZ,Q0,hp5,qmP];refine sgK.done (by kernel_rfl) ?_;simp;refine Xk.of hne hrp ⟨_,_,_,_,(hE2.2.2 _ hlt4).trans ht4⟩ ((hE2.2.2 rid hrN4).trans hr4) ⟨_,_,_,_,l,l',[],rfl,SlQ.of (cap:=cq) (t:=tq) hl ?_,SlQ.of (cap:=cq') (t:=tq') hl' ?_,SlQ.nil,.inr (.inl ⟨rfl,rfl,hl,hl',rfl⟩)⟩
     ·simp[show ¬q=pid by omega];exact(hE'.2.2 _ (by omega)).trans q3
     ·simp[show ¬q'=pid by have:=hE.1;omega];exact q3'
    | none =>
     simp only[Option.some.injEq,Prod.mk.injEq]at hs;obtain⟨rfl,rfl⟩:=hs;have htab4:=ht4;unfold tref Z5 at htab4;have hfl:=hF4.f;simp[oI,g0,hp4',htab4,Ji];refine(Kg F.length (by omega)).mono ?_;rintro r G5 N5 ⟨q,cq,tq,rfl,q1,q2,q3,hE⟩;have hR5:=hR4.ext hE;have hp5:=(hE.2.2 pid hpN4).trans hp4';have htab5:=(hE.2.2 _ hlt4).trans htab4;obtain⟨capc,tc,hcols⟩:=hR5.cols;have hcl4:=hF4.c;have hne2:∀L,T4.valid L→loc4 L≠q:=fun L v=>by have:=hR4.lt L v;omega
     simp[g0,hp5,htab5];refine Qp.of (SoJ G4 N4 G5 N5 pid q tq cq F loc4 T4) (fun j=>T4.cols.length-j) 0 ⟨by omega,_,G5,rfl,by simp[g0],by simp[g5,hgp0],by simp,by simp,by simp,by simp,List.replicate F.length 0,by simp,q3,fun _ _=>rfl,rfl⟩ ?_;clear g0 g5 g64 g65 g66 hno hcols;rintro j _ ⟨hj,env,G,rfl,g0,g5,g9,g149,g150,g151,l,hl,hGq,hGo,hGL⟩;have hE2:Ext G4 N4 G N5:=⟨hE.1,hGL.trans hE.2.1,fun t ht=>(hGo t (by omega)).trans (hE.2.2 t ht)⟩;have hR6:=hR4.ext hE2;have hp6:=(hE2.2.2 pid hpN4).trans hp4';have htab6:=(hE2.2.2 _ hlt4).trans htab4;have hg4:0<T4.goals.length:=by omega
     obtain⟨capc,tc,hcols⟩:=hR6.cols;obtain⟨capp,tp,hgp⟩:=hR6.gp 0 hg4;obtain⟨capk,tk,hgc⟩:=hR6.gc 0 hg4;have hgl4:=hR6.hgl 0 hg4;have l3:=hR6.lt (.gp 0) hg4;have l4:=hR6.lt (.gc 0) hg4;have l5:=hR6.lt .tab trivial;rw[hT4]at l5;unfold Yb at hgp;by_cases hjN:j<T4.cols.length
     ·have hjg:j<(T4.goal 0).2.length:=by omega
      have hsg:=(hF4.sg 0 hg4).2 _ (List.getElem_mem hjg);have hv:=hva _ hI4 j hjN;rw[ZK hjN]at hv;simp[g0,g149,g150,g151,hjN,hcols,Zq,hp6];have hc:=Jw (N:=N5) hR6.tab T4.cols[j];rw[hT4]at hc;refine hc.mono ?_;rintro v5 H5 N6 ⟨rfl,e5,e6⟩;rw[e5,e6];clear e5 e6 H5 N6;by_cases hf:T4.cols[j]<n
      ·simp[hf,g151,QH (show j+1<9223372036854775808 by omega)];exact⟨j+1,⟨by omega,_,G,rfl,by simp[g0],by simp[g5],by simp[g9],by simp[g149],by simp[g150],by simp,l,hl,hGq,hGo,hGL⟩,by omega⟩
      ·have hvi:T4.cols[j]-n<F.length:=by omega
       have hn1:=hF4.n;have hw2:IntKind.i64.wrap ((T4.cols[j]:Int)-(n:Int))=((T4.cols[j]-n:Nat):Int):=by rw[Ql (by omega) (by omega)];omega
       simp[hf,g151];refine Qm.walk (fun _=>false) mixed ?_;simp[Q0,g0,g5,g9,hp6,htab6,hw2,hgp,hgc,hjN,hjg,l3,l4,l5,show pid<N5 by omega,ZI];refine QF.pure (k:=9) (Y8 (T4.goal 0).2[j] ((YW _).2 (by omega))) ?_ ?_ ?_
       ·simp[Qn]
       ·simp[Qn]
       simp[Q0,g151,hGq,hl,hvi,ZI,QH (show j+1<9223372036854775808 by omega)];exact⟨Zg.ofM (by kernel_rfl),j+1,⟨by omega,_,_,rfl,by simp[g0],by simp[g5],by simp[g9],by simp[g149],by simp[g150],by simp,JN.put (l:=l) (i:=T4.cols[j]-n) (x:=-(T4.goal 0).2[j]) hl hGo hGL (by simp[VO])⟩,by omega⟩
     ·simp[g149,g150,g151,show ¬j<T4.cols.length from hjN];refine Qm.cut mixed ([0,1,2,3,4,5,6,7,8,10]++(9::[11,12,13,14])) (by kernel_rfl) (by kernel_rfl) ?_;refine Yp.walk (fun _=>false) _ ?_;simp[qbZ,Q0,g0,g5,g9,hp6,hgp,l3,show pid<N5 by omega];refine sgK.mk (by kernel_rfl) ?_;have hpt:=qbH hR6 hF4;rw[hT4]at hpt;refine Yp.call [] rfl (by kernel_rfl) (by simp) (S:=fun r H' N'=>qhm G N5 n r H' N') (by simp;exact hpt) (fun u H' N' h=>by obtain⟨_,_,_,_,_,_,_,_,_,hE⟩:=h.get;exact⟨hE.1,fun id hi _=>hE.2.2 id hi⟩) ?_;intro r4 G6 N6 h4;obtain⟨q',l',cq',tq',rfl,hl',q1',q2',q3',hE'⟩:=h4.get;have hE3:=hE2.trans hE';have hp7:=(hE3.2.2 pid hpN4).trans hp4';refine Yp.last (fun _=>false) [11,12,13,14] ?_;simp[qbZ,Q0,hp7,qqt];refine sgK.done (by kernel_rfl) ?_;simp;refine Xk.of hne hrp ⟨_,_,_,_,(hE3.2.2 _ hlt4).trans ht4⟩ ((hE3.2.2 rid hrN4).trans hr4) ⟨_,_,_,_,l',[],l,rfl,SlQ.of (cap:=cq') (t:=tq') hl' ?_,SlQ.nil,SlQ.of (cap:=cq) (t:=tq) hl ?_,.inl ⟨rfl,?_,hl',rfl,hl,?_⟩⟩
      ·simp[show ¬q'=pid by omega];exact q3'
      ·simp[show ¬q=pid by omega];exact(hE'.2.2 _ (by omega)).trans hGq
      ·rw[Vi]
      ·rw[Vi];exact(hF4.sg 0 hg4).1
end
end
section
attribute [local simp] Qq Qh Qk Qr QR QU QO Q4 QX QP QK Zd alen
theorem qqi{st:St}{id:Nat}{cap:Option Nat}{x:AV}{l:List Rat}(hb:st.H.b id=some ⟨23,1,[],false,cap⟩)(he:QA st.H x=some (ql l))(h0:l≠[])(hl:l.length≤100000) :
  aappend prog st 22 (.ref id 1 0 0 none) x=some (.ref st.N 1 0 l.length none,⟨st.n,st.env,(st.H.kill id).set st.N ⟨23,1,ql l,false,none⟩,st.N+1⟩):=by
 have h3:prog.underlying 22=some (.slice 23):=by kernel_rfl
 have h1:ZQ prog 23=true:=by kernel_rfl
 have h2:prog.cellsOf 23=1:=by kernel_rfl
 have h4:zlen prog 23=true:=by kernel_rfl
 have h5:prog.bytesOf 23=16:=by kernel_rfl
 have hn:(ql l).length=l.length:=QU l;unfold aappend;rw[h3];cases l with
 | nil=>exact(h0 rfl).elim
 | cons a l =>
 simp only[he];have hq:ql (a::l)=[rs a]::ql l:=rfl;rw[hq];simp only;rw[←hq,if_pos ⟨h1,h4,by omega,by rw[h2];simp[Zp,ql],by simp[Zb,ql]⟩];rw[hb];simp only[h2,h5,List.length_nil];rw[if_pos ⟨trivial,trivial,trivial,by omega,by rw[hn];simp at hl⊢;omega,by rw[hn];simp only[maxLen];omega⟩];simp[Qs,h2,hn]
theorem qqA:Qz prog 22 0 []=some (23,[]):=by kernel_rfl
theorem qky{st:St}{id m:Nat}:aappend prog st 22 (.ref id 1 0 m none) (.ro [])=some (.ref id 1 0 m none,st):=by
 have h3:prog.underlying 22=some (.slice 23):=by kernel_rfl
 have h1:ZQ prog 23=true:=by kernel_rfl
 unfold aappend;rw[h3];simp[QA,qm6,h1]
theorem qn7{H:Qf}{N:Nat}(l:List Rat)(hl:l.length≤100000) :
  Qc prog 91 [.ro (ql l)] H N fun r H' N'=>qr5 H N r H' N' l:=by
 have hu:prog.underlying 22=some (.slice 23):=by kernel_rfl
 by_cases h0:l=[]
 ·subst h0;refine⟨⟨_,_,func91,by kernel_rfl,rfl⟩,Qv.QM func91 rfl (by simp[ntmps91]) (Qe.seq (Qd _ _ _ ?_))⟩;simp;refine Qe.seq (Qe.seq (Qe.QW (K:=fun st=>∃env,st=⟨8,env,H,N⟩∧env 0=.ro []∧env 3=.ro []) 1 ?_ ?_))
  ·simp[ql]
  rintro _ ⟨env,rfl,g0,g3⟩;refine Qx.qqT hu (by simp[ev,g3]) rfl (by simp) fun b=>Qx.nil ?_;refine Qe.cond (b:=b) (by simp[ev]) ?_;cases b with
  | true =>refine Qe.seq (Qd _ _ _ ?_);simp;refine Qe.weak (YQ.trans (YQ.room _ 23 1) (YQ.nls (d:=2) (x':=.ref N 1 0 0 none) (.inr ⟨.inl (by simp),N,1,noRoom 23 1,rfl,by simp,rfl⟩))) (Qe.ret ⟨.inr rfl,N,some 0,[],by simp,Nat.le_refl _,Nat.lt_succ_self _,by simp[noRoom,ql],Nat.le_succ _,rfl,fun j hj=>by simp[show ¬j=N by omega]⟩)
  | false =>refine Qe.skip (Qd _ _ _ ?_);simp[g0,qqA,qky];exact⟨N,some 0,[],rfl,Nat.le_refl _,Nat.lt_succ_self _,by simp[ql],Nat.le_succ _,rfl,fun j hj=>by simp[show ¬j=N by omega]⟩
 ·refine Qc.body func91 ntmps91 ?_;have hne:abinop prog .eql 22 (.ro (ql l)) (.v (.slice none 0 0))=some (.v (.bool false)):=by
   cases l with
   | nil=>exact(h0 rfl).elim
   | cons a l=>exact(by kernel_rfl:abinop prog .eql 22 (.ro ([rs a]::ql l)) (.v (.slice none 0 0))=some (.v (.bool false)))
  simp[hne,qqA];rw[qqi (id:=N) (cap:=some 0) (by simp) rfl h0 hl];simp;exact⟨N+1,none,[],rfl,by omega,by omega,by simp,by omega,rfl,fun j hj=>by simp[show ¬j=N by omega,show ¬j=N+1 by omega]⟩
end
end Go.AX.Run
namespace Go.AX.Run
open Go.RowKit Go.Proofs Go.AX Go.Num
def Yj(loc:Loc→Nat)(m qb qr c:Nat):Loc→Nat:=fun L=>if L=.basis then qb else if L=.rows then qr else if L=.rc m then c else loc L
section
variable{n:Nat}{F:List Fct}{H G:Qf}{N N':Nat}{loc:Loc→Nat}{T:Tb}
def Tb.YX(T:Tb)(v:Nat)(r:Rat×List Rat):Tb:={ T with basis:=T.basis++[v],rows:=T.rows++[r] }
theorem Wx(T:Tb)(v:Nat)(r:Rat×List Rat)(i:Nat):(T.YX v r).row i=if i<T.rows.length then T.row i else if i=T.rows.length then r else(0,[]):=by
 unfold Tb.row Tb.YX;simp only[List.getD_eq_getElem?_getD,List.getElem?_append];split
 ·rfl
 ·split
  ·rename_i h;subst h;simp
  ·rw[List.getElem?_eq_none (by simp;omega)];rfl
theorem JB.qpe(h:JB n F H N loc T){qb qr c:Nat}(v:Nat)(r:Rat×List Rat)(hN:N≤N')(hb:qb<N')(hr:qr<N')(hc:c<N')(hbr:qb≠qr)(hbc:qb≠c)(hrc:qr≠c)(hL:∀L,T.valid L→L≠.basis→L≠.rows→loc L≠qb∧loc L≠qr∧loc L≠c){cap1 cap2:Option Nat}{t1 t2:List (List AV)}
  (hGt:G.b (loc .tab)=some (tref (T.YX v r) (Yj loc T.rows.length qb qr c) n F)) (hGb:G.b qb=some ⟨3,1,nl (T.basis++[v])++t1,false,cap1⟩) (hGr:G.b qr=some ⟨121,2,Q9 T loc++Yb r.1 c r.2.length::t2,false,cap2⟩) (hGc:JA G c r.2)
  (ho:∀L,T.valid L→L≠.tab→L≠.basis→L≠.rows→G.b (loc L)=H.b (loc L)):JB n F G N' (Yj loc T.rows.length qb qr c) (T.YX v r):=by
 have e1:Yj loc T.rows.length qb qr c .basis=qb:=by simp[Yj]
 have e2:Yj loc T.rows.length qb qr c .rows=qr:=by simp[Yj]
 have e3:Yj loc T.rows.length qb qr c (.rc T.rows.length)=c:=by simp[Yj]
 have e4:∀L,L≠.basis→L≠.rows→L≠.rc T.rows.length→Yj loc T.rows.length qb qr c L=loc L:=fun L a b d=>by simp[Yj,a,b,d]
 have hlen:(T.YX v r).rows.length=T.rows.length+1:=by simp[Tb.YX]
 have hv:∀L,Tb.valid (T.YX v r) L→L=.rc T.rows.length∨(T.valid L∧L≠.rc T.rows.length):=fun L v=>by cases L<;>simp only[Tb.valid,Tb.YX,List.length_append,List.length_singleton]at v⊢<;>simp<;>(try omega)
 have hval:∀L,Tb.valid (T.YX v r) L→(L=.rc T.rows.length∧Yj loc T.rows.length qb qr c L=c)∨(L=.basis∧Yj loc T.rows.length qb qr c L=qb)∨(L=.rows∧Yj loc T.rows.length qb qr c L=qr)∨(T.valid L∧L≠.basis∧L≠.rows∧Yj loc T.rows.length qb qr c L=loc L):=fun L v=>by
  rcases hv L v with h|⟨h,h1⟩
  ·exact .inl ⟨h,by rw[h,e3]⟩
  ·by_cases hg:L=.basis
   ·exact .inr (.inl ⟨hg,by rw[hg,e1]⟩)
   ·by_cases hg2:L=.rows
    ·exact .inr (.inr (.inl ⟨hg2,by rw[hg2,e2]⟩))
    ·exact .inr (.inr (.inr ⟨h,hg,hg2,e4 L hg hg2 h1⟩))
 refine⟨by simp[Tb.YX,h.hbl],fun L v=>?_,fun L L' v v' e=>?_,?_,?_,?_,?_,?_,fun j hj=>?_,fun j hj=>?_,fun j hj=>?_⟩
 ·rcases hval L v with⟨_,e⟩|⟨_,e⟩|⟨_,e⟩|⟨v1,_,_,e⟩<;>rw[e]
  ·exact hc
  ·exact hb
  ·exact hr
  ·exact Nat.lt_of_lt_of_le (h.lt L v1) hN
 ·rcases hval L v with⟨a1,e1⟩|⟨a1,e1⟩|⟨a1,e1⟩|⟨v1,a1,a2,e1⟩<;>rcases hval L' v' with⟨b1,f1⟩|⟨b1,f1⟩|⟨b1,f1⟩|⟨w1,b1,b2,f1⟩<;>rw[e1,f1]at e
  ·rw[a1,b1]
  ·exact absurd e.symm hbc
  ·exact absurd e.symm hrc
  ·exact absurd e.symm (hL L' w1 b1 b2).2.2
  ·exact absurd e hbc
  ·rw[a1,b1]
  ·exact absurd e hbr
  ·exact absurd e.symm (hL L' w1 b1 b2).1
  ·exact absurd e hrc
  ·exact absurd e.symm hbr
  ·rw[a1,b1]
  ·exact absurd e.symm (hL L' w1 b1 b2).2.1
  ·exact absurd e (hL L v1 a1 a2).2.2
  ·exact absurd e (hL L v1 a1 a2).1
  ·exact absurd e (hL L v1 a1 a2).2.1
  ·exact h.inj L L' v1 w1 e
 ·rw[e4 .tab (by simp) (by simp) (by simp)];exact hGt
 ·rw[e1];exact⟨cap1,t1,hGb⟩
 ·rw[e2];refine⟨cap2,t2,?_⟩;have:Q9 (T.YX v r) (Yj loc T.rows.length qb qr c)=Q9 T loc++[Yb r.1 c r.2.length]:=by
   unfold Q9;rw[hlen,List.range_succ,List.map_append,List.map_cons,List.map_nil,e3,Wx,if_neg (Nat.lt_irrefl _),if_pos rfl];congr 1;exact List.map_congr_left fun i hi=>by have hi:=List.mem_range.1 hi;rw[e4 (.rc i) (by simp) (by simp) (by simp;omega),Wx,if_pos hi]
  rw[this,List.append_assoc];exact hGr
 ·rw[e4 .cols (by simp) (by simp) (by simp),ho .cols trivial (by simp) (by simp) (by simp)];exact h.cols
 ·rw[e4 .goals (by simp) (by simp) (by simp),ho .goals trivial (by simp) (by simp) (by simp)];have:Q8 (T.YX v r) (Yj loc T.rows.length qb qr c)=Q8 T loc:=by simp[Q8,Yj,Tb.YX]
  rw[this];exact h.goals
 ·have hj':j<T.rows.length+1:=by rw[←hlen];exact hj
  rw[Wx];by_cases hjl:j<T.rows.length
  ·rw[if_pos hjl,e4 (.rc j) (by simp) (by simp) (by simp;omega)];unfold JA;rw[ho (.rc j) hjl (by simp) (by simp) (by simp)];exact h.rc j hjl
  ·have hje:j=T.rows.length:=by omega
   rw[if_neg hjl,if_pos hje,hje,e3];exact hGc
 ·rw[e4 (.gp j) (by simp) (by simp) (by simp),e4 (.gc j) (by simp) (by simp) (by simp),ho (.gp j) hj (by simp) (by simp) (by simp)];exact h.gp j hj
 ·rw[e4 (.gc j) (by simp) (by simp) (by simp)];unfold JA;rw[ho (.gc j) hj (by simp) (by simp) (by simp)];exact h.gc j hj
end
end Go.AX.Run
namespace Go.AX.Run
open Go.RowKit Go.Proofs Go.AX Go.Num Tryz
section
attribute [local simp] Qq Qh Qk Qr QR QU QO Q4 QX QP QK Zd alen
def ZH(co:List Rat)(c0:Rat)(F:List Fct):Tb:=⟨(List.range F.length).map (co.length+·),F.map fun f=>((f.const:Rat),f.coef.map fun z:Int=>(z:Rat)),List.range co.length,[(c0,co)]⟩
def QV(co:List Rat)(F:List Fct)(j k:Nat):Tb:=⟨(List.range k).map (co.length+·),(F.take k).map fun f=>((f.const:Rat),f.coef.map fun z:Int=>(z:Rat)),List.range j,[]⟩
theorem qnS(n:Nat)(es:List (List AV)):abuild prog 98 [(1,.v (.int .i64 (n:Nat))),(2,.ro es)]=some (.agg [.v (.int .i64 0),.v (.int .i64 (n:Nat)),.ro es,.v (.slice none 0 0),.v (.slice none 0 0),.v (.slice none 0 0),.v (.slice none 0 0)]):=by kernel_rfl
section
variable{H:Qf}{N:Nat}
def qp1(co:List Rat)(c0:Rat):Blk:=⟨25,2,[[.ro (ql co),rs c0]],false,some 1⟩
def MkI(H:Qf)(N:Nat)(co:List Rat)(c0:Rat)(F:List Fct)(T:Tb)(G:Qf)(N':Nat)(tid:Nat):Prop:=∃loc,JB co.length F G N' loc T∧Ext H N G N'∧(∀L,T.valid L→N+1≤loc L)∧loc .tab=tid∧N<N'∧G.b N=some (qp1 co c0)
def qcV:AV:=.v (.slice none 0 0)
def qlD(N:Nat):Loc→Nat|.tab=>N+1|.basis=>N+2|.rows=>N+3|.cols=>N+4|.goals=>N+5|_=>0
def qd9(H:Qf)(N:Nat)(co:List Rat)(c0:Rat)(F:List Fct):Qf:=(H.set N (qp1 co c0)).set (N+1) (Z5 co.length F qcV qcV qcV qcV)
def Vg(H:Qf)(N:Nat)(co:List Rat)(c0:Rat)(F:List Fct):Qf:=((((qd9 H N co c0 F).set (N+2) (noRoom 3 1)).set (N+3) (noRoom 121 2)).set (N+4) (noRoom 3 1)).set (N+5) (noRoom 122 1)
def qal(H:Qf)(N:Nat)(co:List Rat)(c0:Rat)(F:List Fct):Qf:=(Vg H N co c0 F).set (N+1) (Z5 co.length F (.ref (N+2) 1 0 0 none) (.ref (N+3) 2 0 0 none) (.ref (N+4) 1 0 0 none) (.ref (N+5) 1 0 0 none))
theorem qoL{n:Nat}{env:Nat→AV}(co:List Rat)(c0:Rat)(F:List Fct):YQ ⟨n,env,qd9 H N co c0 F,N+2⟩ ⟨n,env,qal H N co c0 F,N+6⟩:=by
 refine YQ.trans (YQ.room _ 3 1) (YQ.trans (YQ.room _ 121 2) (YQ.trans (YQ.room _ 3 1) (YQ.trans (YQ.room _ 122 1) ?_)));have hb:(Vg H N co c0 F).b (N+1)=some (Z5 co.length F qcV qcV qcV qcV):=by simp[Vg,qd9]
 refine YQ.nl (q:=N+1) (b:=Z5 co.length F qcV qcV qcV qcV) hb (es':=[[.v (.int .i64 0),.v (.int .i64 (co.length:Nat)),.ro (fl F),.ref (N+2) 1 0 0 none,.ref (N+3) 2 0 0 none,.ref (N+4) 1 0 0 none,.ref (N+5) 1 0 0 none]]) rfl rfl fun i j x' hx=>?_;have key:∀id sz b,(Vg H N co c0 F).b id=some b→b.cap=some 0→Nl (Vg H N co c0 F) qcV (.ref id sz 0 0 none):=fun id sz b h1 h2=>.inr ⟨.inl rfl,id,sz,b,rfl,h1,h2⟩;have k2:=key (N+2) 1 (noRoom 3 1) (by simp[Vg]) rfl;have k3:=key (N+3) 2 (noRoom 121 2) (by simp[Vg]) rfl;have k4:=key (N+4) 1 (noRoom 3 1) (by simp[Vg]) rfl;have k5:=key (N+5) 1 (noRoom 122 1) (by simp[Vg]) rfl;cases i with
 | succ i=>simp[QZ]at hx
 | zero =>
  match j,hx with
  | 0,hx=>cases hx;exact⟨_,rfl,.inl rfl⟩
  | 1,hx=>cases hx;exact⟨_,rfl,.inl rfl⟩
  | 2,hx=>cases hx;exact⟨_,rfl,.inl rfl⟩
  | 3,hx=>cases hx;exact⟨_,rfl,k2⟩
  | 4,hx=>cases hx;exact⟨_,rfl,k3⟩
  | 5,hx=>cases hx;exact⟨_,rfl,k4⟩
  | 6,hx=>cases hx;exact⟨_,rfl,k5⟩
  | j+7,hx=>simp[QZ]at hx
theorem qlF(co:List Rat)(c0:Rat)(F:List Fct):MkI H N co c0 F (QV co F 0 0) (qal H N co c0 F) (N+6) (N+1):=by
 have hv:∀L,(QV co F 0 0).valid L→L=.tab∨L=.basis∨L=.rows∨L=.cols∨L=.goals:=fun L v=>by cases L<;>simp[Tb.valid,QV]at v⊢
 refine⟨qlD N,⟨rfl,fun L v=>?_,fun L L' v v' e=>?_,?_,?_,?_,?_,?_,fun i hi=>by simp[QV]at hi,fun i hi=>by simp[QV]at hi,fun i hi=>by simp[QV]at hi⟩,?_,fun L v=>?_,rfl,by omega,?_⟩
 ·rcases hv L v with rfl|rfl|rfl|rfl|rfl<;>simp only[qlD]<;>omega
 ·rcases hv L v with rfl|rfl|rfl|rfl|rfl<;>rcases hv L' v' with rfl|rfl|rfl|rfl|rfl<;>first|rfl|(simp only[qlD]at e;omega)
 ·simp[qal,qlD,tref,QV]
 ·exact⟨some 0,[],by simp[qal,Vg,qlD,noRoom,QV,nl]⟩
 ·exact⟨some 0,[],by simp[qal,Vg,qlD,noRoom,QV,Q9]⟩
 ·exact⟨some 0,[],by simp[qal,Vg,qlD,noRoom,QV,nl]⟩
 ·exact⟨some 0,[],by simp[qal,Vg,qlD,noRoom,QV,Q8]⟩
 ·refine⟨by omega,rfl,fun j hj=>?_⟩;simp[qal,Vg,qd9,show ¬j=N by omega,show ¬j=N+1 by omega,show ¬j=N+2 by omega,show ¬j=N+3 by omega,show ¬j=N+4 by omega,show ¬j=N+5 by omega]
 ·rcases hv L v with rfl|rfl|rfl|rfl|rfl<;>simp only[qlD]<;>omega
 ·simp[qal,Vg,qd9]
def SM(H:Qf)(N:Nat)(co:List Rat)(c0:Rat)(F:List Fct)(T:Tb)(st:St):Prop:=∃env G N',st=⟨98,env,G,N'⟩∧env 1=.ro (fl F)∧env 2=.ptr N 2 0 0∧env 5=.ptr (N+1) 7 0 0∧MkI H N co c0 F T G N' (N+1)
def SM1(H:Qf)(N:Nat)(co:List Rat)(c0:Rat)(F:List Fct)(j:Nat)(st:St):Prop:=j≤co.length∧∃env G N',st=⟨98,env,G,N'⟩∧env 1=.ro (fl F)∧env 2=.ptr N 2 0 0∧env 5=.ptr (N+1) 7 0 0∧env 21=.v (.int .i64 (co.length:Nat))∧env 22=.v (.int .i64 (j:Nat))∧MkI H N co c0 F (QV co F j 0) G N' (N+1)
theorem qgA(co:List Rat)(F:List Fct)(j k:Nat):{ QV co F j k with cols:=(QV co F j k).cols++[j] }=QV co F (j+1) k:=by simp[QV,List.range_succ]
theorem MkI.col{co:List Rat}{c0:Rat}{F:List Fct}{G H2:Qf}{N1 j tid:Nat}{loc:Loc→Nat}{x:Blk}{y:AV}(hR:JB co.length F G N1 loc (QV co F j 0))(hE:Ext H N G N1)(hL:∀L,(QV co F j 0).valid L→N+1≤loc L)(ht:loc .tab=tid)(hN:N<N1)(hlin:G.b N=some (qp1 co c0))
  (hy:y=.ref (N1+1) 1 0 ((QV co F j 0).cols.length+1) none)
  (h2:H2=(((G.set N1 x).kill (loc .cols)).set (N1+1) ⟨3,1,nl ((QV co F j 0).cols++[j]),false,none⟩).set tid (Z5 co.length F (.ref (loc .basis) 1 0 (QV co F j 0).basis.length none) (.ref (loc .rows) 2 0 (QV co F j 0).rows.length none) y (.ref (loc .goals) 1 0 (QV co F j 0).goals.length none))) :
  MkI H N co c0 F (QV co F (j+1) 0) H2 (N1+2) tid:=by
 have hlt:=hR.lt;have l1:=hlt .tab trivial;have b1:=hL .tab trivial;have b2:=hL .cols trivial;have l2:=hlt .cols trivial;have hne:=fun L L' (v:(QV co F j 0).valid L) (v':(QV co F j 0).valid L') (h:L≠L') (e:loc L=loc L')=>h (hR.inj L L' v v' e);have n1:=hne .tab .cols trivial trivial (by simp);have hx:=hR.qdT (G:=H2) (N':=N1+2) (q:=N1+1) ((QV co F j 0).cols++[j]) (by omega) (by omega) (fun L v _=>by have:=hlt L v;omega) (capr:=none) (tr:=[])
  (by rw[h2,hy,ht];simp[tref,reloc,List.length_append]) (by rw[h2];simp[show ¬N1+1=tid by omega]) (fun L v h3 h4=>by have:=hlt L v;have c1:=hne L .tab v trivial h3;have c2:=hne L .cols v trivial h4;rw[ht]at c1;rw[h2];simp[show ¬loc L=tid from c1,show ¬loc L=loc .cols from c2,show ¬loc L=N1 by omega,show ¬loc L=N1+1 by omega])
 rw[qgA]at hx;have hv:∀L,(QV co F (j+1) 0).valid L→(QV co F j 0).valid L:=fun L v=>by cases L<;>exact v
 refine⟨_,hx,⟨by have:=hE.1;omega,by rw[h2];exact hE.2.1,fun t htt=>?_⟩,fun L v=>?_,by rw[QE (by simp)];exact ht,by omega,?_⟩
 ·rw[h2];simp[show ¬t=tid by omega,show ¬t=loc .cols by omega,show ¬t=N1 by omega,show ¬t=N1+1 by omega];exact hE.2.2 t htt
 ·by_cases h:L=.cols
  ·rw[h,Za];omega
  ·rw[QE h];exact hL L (hv L v)
 ·rw[h2];simp[show ¬N=tid by omega,show ¬N=loc .cols by omega,show ¬N=N1 by omega,show ¬N=N1+1 by omega];exact hlin
theorem qeq(z:Int):rs (z:Rat)=zs z:=by unfold rs rt zs;rw[if_pos (Rat.den_intCast z),Rat.num_intCast]
theorem qqE(z:Int):Qz prog 22 1 [(0,zs z)]=some (23,[[rs (z:Rat)]]):=by rw[←qeq];exact qch z
theorem qkK(z:Int):abuild prog 121 [(0,zs z)]=some (.agg [rs (z:Rat),.v (.slice none 0 0)]):=by rw[qeq];unfold zs str;kernel_rfl
def SM2(H:Qf)(N:Nat)(co:List Rat)(c0:Rat)(F:List Fct)(k:Nat)(st:St):Prop:=k≤F.length∧∃env G N',st=⟨98,env,G,N'⟩∧env 1=.ro (fl F)∧env 2=.ptr N 2 0 0∧env 5=.ptr (N+1) 7 0 0∧env 36=.ro (fl F)∧env 37=.v (.int .i64 (F.length:Nat))∧env 38=.v (.int .i64 (k:Nat))∧MkI H N co c0 F (QV co F co.length k) G N' (N+1)
def ql0(x:Rat)(y:AV):Blk:=⟨121,2,[[rs x,y]],false,some 1⟩
def SM3(F:List Fct)(N:Nat)(k:Nat)(hk:k<F.length)(G:Qf)(N1:Nat)(i:Nat)(st:St):Prop:=i≤F[k].coef.length∧∃env G' N' c cap t,st=⟨98,env,G',N'⟩∧env 1=.ro (fl F)∧env 2=.ptr N 2 0 0∧env 5=.ptr (N+1) 7 0 0∧env 36=.ro (fl F)∧env 37=.v (.int .i64 (F.length:Nat))∧env 38=.v (.int .i64 (k:Nat))∧env 7=.v (.int .i64 (k:Nat))∧env 9=.ptr (N1+1) 2 0 0∧env 47=.ro (zl F[k].coef)∧env 48=.v (.int .i64 (F[k].coef.length:Nat))∧env 49=.v (.int .i64 (i:Nat)) ∧
 G'.b (N1+1)=some (ql0 (F[k].const:Rat) (.ref c 1 0 i none))∧G'.b c=some ⟨23,1,ql ((F[k].coef.take i).map fun z:Int=>(z:Rat))++t,false,cap⟩∧N1+1<c∧c<N'∧Ext G N1 G' N'
theorem ql1{n:Nat}{env:Nat→AV}{G:Qf}{N1:Nat}(x:Rat):YQ ⟨n,env,G.set (N1+1) (ql0 x qcV),N1+2⟩ ⟨n,env,((G.set (N1+1) (ql0 x qcV)).set (N1+2) (noRoom 23 1)).set (N1+1) (ql0 x (.ref (N1+2) 1 0 0 none)),N1+3⟩:=by
 refine YQ.trans (YQ.room _ 23 1) ?_;refine YQ.nl (q:=N1+1) (b:=ql0 x qcV) (by simp) (es':=[[rs x,.ref (N1+2) 1 0 0 none]]) rfl rfl fun i j x' hx=>?_;cases i with
 | succ i=>simp[QZ]at hx
 | zero =>
  match j,hx with
  | 0,hx=>cases hx;exact⟨_,rfl,.inl rfl⟩
  | 1,hx=>cases hx;exact⟨_,rfl,.inr ⟨.inl rfl,_,_,_,rfl,by simp;rfl,rfl⟩⟩
  | j+2,hx=>simp[QZ]at hx
theorem qqj{st:St}{id m:Nat}{l:List Rat}{t:List (List AV)}{cap:Option Nat}{x:AV}{q:Rat}(hm:m=l.length)(hb:st.H.b id=some ⟨23,1,ql l++t,false,cap⟩)(he:QA st.H x=some [[rs q]])(hl:l.length≤100000) :
  aappend prog st 22 (.ref id 1 0 m none) x=some (.ref st.N 1 0 (m+1) none,⟨st.n,st.env,(st.H.kill id).set st.N ⟨23,1,ql (l++[q]),false,none⟩,st.N+1⟩):=by
 subst hm;rw[qhB hb he hl,List.length_append];rfl
theorem qjO(l:List Int)(i:Nat)(h:i<l.length):((l.take i).map fun z:Int=>(z:Rat))++[(l[i]:Rat)]=(l.take (i+1)).map fun z:Int=>(z:Rat):=by rw[List.take_succ,List.getElem?_eq_getElem h];simp only[Option.toList,List.map_append,List.map_cons,List.map_nil]
theorem qsm{st:St}{id m p:Nat}{es t:List (List AV)}{cap:Option Nat}{x:AV}{q:Rat}{c:Nat}(hm:m=es.length)(h2e:∀e∈es,e.length=2)(hb:st.H.b id=some ⟨121,2,es++t,false,cap⟩)(he:QA st.H x=some [Yb q p c])(hl:es.length≤100000) :
  aappend prog st 95 (.ref id 2 0 m none) x=some (.ref st.N 2 0 (m+1) none,⟨st.n,st.env,(st.H.kill id).set st.N ⟨121,2,es++[Yb q p c],false,none⟩,st.N+1⟩):=by
 subst hm;have h3:prog.underlying 95=some (.slice 121):=by kernel_rfl
 have h1:ZQ prog 121=true:=by kernel_rfl
 have h2:prog.cellsOf 121=2:=by kernel_rfl
 have h4:zlen prog 121=true:=by kernel_rfl
 have h5:prog.bytesOf 121=40:=by kernel_rfl
 unfold aappend;rw[h3];simp only[he];rw[if_pos ⟨h1,h4,by omega,by rw[h2];rfl,by simp[Zb,Yb,Zd]⟩];rw[hb];simp only[h2,h5,List.length_append,List.length_cons,List.length_nil];rw[if_pos ⟨trivial,trivial,trivial,by omega,by omega,by simp only[maxLen];omega⟩];simp only[Qs,h2];congr 4;rw[List.take_append_of_le_length (Nat.le_refl _),List.take_of_length_le (Nat.le_refl _)]
theorem qqh{st:St}{id m:Nat}{l:List Nat}{t:List (List AV)}{cap:Option Nat}{x:AV}{v:Nat}(hm:m=l.length)(hb:st.H.b id=some ⟨3,1,nl l++t,false,cap⟩)(he:QA st.H x=some [[.v (.int .i64 (v:Nat))]])(hl:l.length≤100000) :
  aappend prog st 82 (.ref id 1 0 m none) x=some (.ref st.N 1 0 (m+1) none,⟨st.n,st.env,(st.H.kill id).set st.N ⟨3,1,nl (l++[v]),false,none⟩,st.N+1⟩):=by
 subst hm;rw[qnD hb he hl,List.length_append];rfl
theorem qi6(co:List Rat)(F:List Fct)(j k:Nat)(hk:k<F.length):(QV co F j k).YX (co.length+k) ((F[k].const:Rat),F[k].coef.map fun z:Int=>(z:Rat))=QV co F j (k+1):=by simp only[QV,Tb.YX,List.range_succ,List.map_append,List.map_cons,List.map_nil,List.take_succ,List.getElem?_eq_getElem hk,Option.toList]
theorem MkI.row{co:List Rat}{c0:Rat}{F:List Fct}{G G' H2:Qf}{N1 N' k c:Nat}{loc:Loc→Nat}{cap:Option Nat}{t:List (List AV)}(hkN:k<F.length)(hR:JB co.length F G N1 loc (QV co F co.length k))(hE:Ext H N G N1)(hL:∀L,(QV co F co.length k).valid L→N+1≤loc L)(ht:loc .tab=N+1)(hN:N<N1)(hlin:G.b N=some (qp1 co c0))
  (hE':Ext G N1 G' N') (hc:G'.b c=some ⟨23,1,ql (F[k].coef.map fun z:Int=>(z:Rat))++t,false,cap⟩) (c1:N1+1<c) (c2:c<N')
  (h1:H2.b (N+1)=some (Z5 co.length F (.ref N' 1 0 ((QV co F co.length k).basis.length+1) none) (.ref (N'+1) 2 0 ((QV co F co.length k).rows.length+1) none) (.ref (loc .cols) 1 0 (QV co F co.length k).cols.length none) (.ref (loc .goals) 1 0 (QV co F co.length k).goals.length none)))
  (h2:H2.b N'=some ⟨3,1,nl ((QV co F co.length k).basis++[co.length+k]),false,none⟩) (h3:H2.b (N'+1)=some ⟨121,2,Q9 (QV co F co.length k) loc++[Yb (F[k].const:Rat) c F[k].coef.length],false,none⟩)
  (h4:∀t,t≠N+1→t≠loc .basis→t≠loc .rows→t≠N'→t≠N'+1→H2.b t=G'.b t) (h5:H2.L=G'.L):MkI H N co c0 F (QV co F co.length (k+1)) H2 (N'+2) (N+1):=by
 have hlt:=hR.lt;have e1:=hE'.1;have hne:=fun L L' (v:(QV co F co.length k).valid L) (v':(QV co F co.length k).valid L') (h:L≠L') (e:loc L=loc L')=>h (hR.inj L L' v v' e);have hx:=hR.qpe (G:=H2) (N':=N'+2) (qb:=N') (qr:=N'+1) (c:=c) (co.length+k) ((F[k].const:Rat),F[k].coef.map fun z:Int=>(z:Rat)) (by omega) (by omega) (by omega) (by omega) (by omega) (by omega) (by omega) (fun L v _ _=>by have:=hlt L v;omega) (cap1:=none) (cap2:=none) (t1:=[]) (t2:=[])
  (by rw[ht,h1];simp[tref,Yj,Tb.YX]) (by rw[h2];simp) (by rw[h3];simp) ⟨cap,t,by rw[h4 c (by omega) (by have:=hlt .basis trivial;omega) (by have:=hlt .rows trivial;omega) (by omega) (by omega)];exact hc⟩ (fun L v a1 a2 a3=>by have b1:=hne L .tab v trivial a1;have b2:=hne L .basis v trivial a2;have b3:=hne L .rows v trivial a3;rw[ht]at b1;have:=hlt L v;rw[h4 _ b1 b2 b3 (by omega) (by omega)];exact hE'.2.2 _ this)
 rw[qi6 _ _ _ _ hkN]at hx;have hlr:(QV co F co.length k).rows.length=k:=by simp[QV];omega
 refine⟨_,hx,⟨by have:=hE.1;omega,h5.trans (hE'.2.1.trans hE.2.1),fun t htt=>?_⟩,fun L v=>?_,by simp[Yj,ht],by omega,?_⟩
 ·have:=hL .basis trivial;have:=hL .rows trivial;have:=hE.1;rw[h4 t (by omega) (by omega) (by omega) (by omega) (by omega),hE'.2.2 t (by omega)];exact hE.2.2 t htt
 ·rw[hlr];unfold Yj;split
  ·omega
  ·split
   ·omega
   ·split
    ·omega
    ·rename_i a1 a2 a3;refine hL L ?_;cases L<;>simp only[Tb.valid]at v⊢
     ·rename_i i;have:(QV co F co.length (k+1)).rows.length=k+1:=by simp[QV];omega
      rw[this]at v;rw[hlr];simp at a3;omega
     ·exact v
     ·exact v
 ·have:=hL .basis trivial;have:=hL .rows trivial;rw[h4 N (by omega) (by omega) (by omega) (by omega) (by omega),hE'.2.2 N hN];exact hlin
theorem qbD(co:List Rat)(c0:Rat)(F:List Fct)(hn:co.length≤1000)(hm:F.length≤1000)(hF:∀f∈F,f.coef.length=co.length) :
  Qc prog 60 [.agg [.ro (ql co),rs c0],.ro (fl F)] H N fun r H' N'=>∃loc,r=.ptr (loc .tab) 7 0 0∧Rep co.length F H' N' loc (ZH co c0 F)∧Ext H N H' N'∧∀L,(ZH co c0 F).valid L→N≤loc L:=by
 refine⟨⟨_,_,func60,by kernel_rfl,rfl⟩,Qv.QM func60 rfl (by simp[ntmps60]) (Qe.seq (Qd _ _ _ ?_))⟩;simp;refine Qe.qdy (fun s=>∃env,s=⟨98,env,qd9 H N co c0 F,N+2⟩∧env 1=.ro (fl F)∧env 2=.ptr N 2 0 0∧env 5=.ptr (N+1) 7 0 0) (Qd _ _ _ ?_) ?_
 ·simp[qnS];exact⟨_,⟨rfl,by simp[qd9,qp1,Z5,qcV]⟩,by simp,by simp,by simp⟩
 rintro _ ⟨env,rfl,g1,g2,g5⟩;refine Qe.weak (qoL co c0 F) ?_;have hMk:=qlF (H:=H) (N:=N) co c0 F;generalize qal H N co c0 F=G at hMk⊢;generalize N+6=N1 at hMk⊢;refine Qe.qdy (SM H N co c0 F (QV co F co.length 0)) (Qd _ _ _ ?_) ?_
 ·obtain⟨loc,hR,hE,hL,ht,hN,hlin⟩:=hMk;have htab:=hR.tab;unfold tref Z5 at htab;rw[ht]at htab;simp[g5,htab];refine Qp.of (SM1 H N co c0 F) (fun j=>co.length-j) 0 ⟨by omega,_,G,N1,rfl,by simp[g1],by simp[g2],by simp[g5],by simp,by simp,loc,hR,hE,hL,ht,hN,hlin⟩ ?_;clear g1 g2 g5 htab hR hE hL ht hN hlin;rintro j _ ⟨hj,env,G,N1,rfl,g1,g2,g5,g21,g22,loc,hR,hE,hL,ht,hN,hlin⟩;have htab:=hR.tab;unfold tref Z5 at htab;rw[ht]at htab;obtain⟨capc,tc,hcols⟩:=hR.cols;have hlt:=hR.lt;have hne:=fun L L' v v' (h:L≠L') (e:loc L=loc L')=>h (hR.inj L L' v v' e);by_cases hjN:j<co.length
  ·have l1:=hlt .tab trivial;have l2:=hlt .cols trivial;have n1:=hne .tab .cols trivial trivial (by simp);rw[ht]at l1 n1;have hlj:(QV co F j 0).cols.length=j:=by simp[QV]
   simp[g5,g21,g22,hjN,htab,qhM];rw[qnD (id:=loc .cols) (l:=(QV co F j 0).cols) (t:=tc) (cap:=capc) (v:=j) (by simp[show ¬loc .cols=N1 by omega];exact hcols) (by simp[QA]) (by rw[hlj];omega)];simp[htab,show ¬N+1=loc .cols from n1,show ¬N=N1 by omega,show ¬N+1=N1 by omega,QH (show j+1<9223372036854775808 by omega),g22];exact⟨j+1,⟨by omega,_,_,_,rfl,by simp[g1],by simp[g2],by simp[g5],by simp[g21],by simp,MkI.col hR hE hL ht hN hlin rfl rfl⟩,by omega⟩
  ·have hjE:j=co.length:=by omega
   subst hjE;simp[g21,g22];exact⟨_,G,N1,rfl,by simp[g1],by simp[g2],by simp[g5],loc,hR,hE,hL,ht,hN,hlin⟩
 clear env g1 g2 g5 hMk G N1;rintro _ ⟨env,G,N1,rfl,g1,g2,g5,hMk⟩;refine Qe.qdy (SM H N co c0 F (QV co F co.length F.length)) (Qd _ _ _ ?_) ?_
 ·simp[g1,Ji];refine Qp.of (SM2 H N co c0 F) (fun k=>F.length-k) 0 ⟨by omega,_,G,N1,rfl,by simp[g1],by simp[g2],by simp[g5],by simp,by simp,by simp,hMk⟩ ?_;clear hMk g1 g2 g5 G N1 env;rintro k _ ⟨hk,env,G,N1,rfl,g1,g2,g5,g36,g37,g38,loc,hR,hE,hL,ht,hN,hlin⟩;have hlt:=hR.lt;have l1:=hlt .tab trivial;rw[ht]at l1;by_cases hkN:k<F.length
  ·have hfg:=qaF F k hkN;simp[g36,g37,g38,hkN,hfg,fcL,qkK];refine Qe.weak (ql1 (N1:=N1) (F[k].const:Rat)) ?_;refine Qp.of (SM3 F N k hkN G N1) (fun i=>F[k].coef.length-i) 0 ⟨by omega,_,_,_,N1+2,some 0,[],rfl,by simp[g1],by simp[g2],by simp[g5],by simp[g36],by simp[g37],by simp[g38],by simp,by simp,by simp,by simp,by simp,by simp,by simp[noRoom,ql],by omega,by omega,by omega,rfl,fun j hj=>by simp[show ¬j=N1 by omega,show ¬j=N1+1 by omega,show ¬j=N1+2 by omega]⟩ ?_;clear g1 g2 g5 g36 g37 g38 env;rintro i _ ⟨hi,env,G',N',c,cap,t,rfl,g1,g2,g5,g36,g37,g38,g7,g9,g47,g48,g49,hp,hc,c1,c2,hE'⟩;by_cases hiN:i<F[k].coef.length
   ·have hzg:=qaf F[k].coef i hiN;simp[g9,g47,g48,g49,hiN,hp,qqE,ql0];have hF':=hF _ (List.getElem_mem hkN);rw[qqj (id:=c) (l:=(F[k].coef.take i).map fun z:Int=>(z:Rat)) (t:=t) (cap:=cap) (q:=(F[k].coef[i]:Rat)) (by simp;omega) (by simp[show ¬c=N' by omega];simpa using hc) (by simp[QA]) (by simp;omega)];rw[qjO _ _ hiN];have hpx:=hp;unfold ql0 at hpx;simp[g9,hpx,show ¬N1+1=N' by omega,show ¬N1=N' by omega,show ¬N1+1=c by omega,g49,QH (show i+1<9223372036854775808 by omega)];exact⟨i+1,⟨by omega,_,_,_,N'+1,none,[],rfl,by simp[g1],by simp[g2],by simp[g5],by simp[g36],by simp[g37],by simp[g38],by simp[g7],by simp[g9],by simp[g47],by simp[g48],by simp,by simp[ql0],by simp[show ¬N'=N1 by omega],by omega,by omega,by have:=hE'.1;omega,hE'.2.1,fun j hj=>by have:=hE'.1;simp[show ¬j=N1+1 by omega,show ¬j=N'+1 by omega,show ¬j=N' by omega,show ¬j=c by omega];exact hE'.2.2 j hj⟩,by omega⟩
   ·have hiE:i=F[k].coef.length:=by omega
    subst hiE;simp[g48,g49];have htab:G'.b (N+1)=some (tref (QV co F co.length k) loc co.length F):=(hE'.2.2 _ (by omega)).trans (by rw[←ht];exact hR.tab);unfold tref Z5 at htab;obtain⟨cb,tb,hbas⟩:=hR.basis;obtain⟨cr,tr,hrows⟩:=hR.rows;have hbas':=(hE'.2.2 _ (hlt .basis trivial)).trans hbas;have hrows':=(hE'.2.2 _ (hlt .rows trivial)).trans hrows;have l2:=hlt .basis trivial;have l3:=hlt .rows trivial;have hne:=fun L L' v v' (h:L≠L') (e:loc L=loc L')=>h (hR.inj L L' v v' e);have n1:=hne .tab .basis trivial trivial (by simp);have n2:=hne .tab .rows trivial trivial (by simp);have n3:=hne .basis .rows trivial trivial (by simp);rw[ht]at n1 n2;have n1:¬N+1=loc .basis:=n1;have n2:¬N+1=loc .rows:=n2;have n3:¬loc .basis=loc .rows:=n3;have hpx:=hp;unfold ql0 at hpx;have hlb:(QV co F co.length k).basis.length=k:=by simp[QV]
    have hlr:(QV co F co.length k).rows.length=k:=by simp[QV];omega
    have hw:IntKind.i64.wrap ((co.length:Int)+(k:Int))=((co.length+k:Nat):Int):=by rw[Ql (by omega) (by omega)];omega
    refine Qm.Z2 (fun d=>d==72||d==79) mixed 13 ?_;simp[-Int.natCast_add,Q0,g5,g7,htab,qdx,qhM,hw,show N+1<N' by omega];refine QI.app (ws:=[loc .basis]) (qqh (l:=(QV co F co.length k).basis) (v:=co.length+k) rfl hbas' (by simp[QA]) (by rw[hlb];omega)) ?_ ?_ ?_ ?_
    ·simp
    ·intro id h1 h2;simp at h2 h1;simp[h2,show ¬id=N' by omega]
    ·simp
    refine QI.at (fun d=>d==72||d==79) 6 ?_;have hrw:Qz prog 95 1 [(0,.agg [rs (F[k].const:Rat),.ref c 1 0 F[k].coef.length none])]=some (121,[Yb (F[k].const:Rat) c F[k].coef.length]):=qqD _ _ (.inr ⟨_,_,_,_,_,rfl⟩);simp[-Int.natCast_add,Q0,g5,g9,htab,qdx,hrw,hpx,n1,show ¬N1+1=N' by omega,show ¬N+1=N' by omega,show N+1<N'+1 by omega,show N1+1<N'+1 by omega,show ¬N1+1=loc .basis by omega];have hr2:((G'.kill (loc .basis)).set N' ⟨3,1,nl ((QV co F co.length k).basis++[co.length+k]),false,none⟩).b (loc .rows)=some ⟨121,2,Q9 (QV co F co.length k) loc++tr,false,cr⟩:=by simp[Ne.symm n3,show ¬loc .rows=N' by omega,hrows']
    refine QI.app (ws:=[loc .rows]) (qsm (q:=(F[k].const:Rat)) (p:=c) (c:=F[k].coef.length) (es:=Q9 (QV co F co.length k) loc) (by simp[Q9]) (fun e he=>by simp only[Q9,List.mem_map]at he;obtain⟨j,_,rfl⟩:=he;rfl) hr2 (by simp[QA]) (by simp[Q9];omega)) ?_ ?_ ?_ (QI.of (lit:=fun _=>false) ?_)
    ·simp
    ·intro id h1 h2;simp at h2 h1;simp[h2,show ¬id=N'+1 by omega]
    ·simp
    simp[-Int.natCast_add,Q0,htab,n1,n2,show ¬N=N' by omega,show ¬N+1=N' by omega];refine⟨?h0,?h1⟩;case h0 =>
     apply Zg.lbl [N+1,loc .basis,loc .rows,N1+1]
     ·(repeat' first|exact Lbl.nil|apply Lbl.flo|apply Lbl.lod0|apply Lbl.hvyN|apply Lbl.hvy0|apply Lbl.WR 0 rfl|apply Lbl.hvy1 0 rfl|apply Lbl.WR 1 rfl|apply Lbl.hvy1 1 rfl|apply Lbl.WR 2 rfl|apply Lbl.hvy1 2 rfl|apply Lbl.WR 3 rfl|apply Lbl.hvy1 3 rfl)
     ·simp[n1,n2,n3,show ¬N=N1 by omega,show ¬loc .basis=N1+1 by omega,show ¬loc .rows=N1+1 by omega]
     ·kernel_rfl
    case h1 =>simp[g38,QH (show k+1<9223372036854775808 by omega)];rw[List.take_length]at hc;exact⟨k+1,⟨by omega,_,_,_,rfl,by simp[g1],by simp[g2],by simp[g5],by simp[g36],by simp[g37],by simp,MkI.row hkN hR hE hL ht hN hlin hE' hc c1 c2 (by simp[Z5]) (by simp[show ¬N'=N+1 by omega,show ¬N'=loc .rows by omega]) (by simp[show ¬N'=N by omega]) (fun t a1 a2 a3 a4 a5=>by simp[a1,a2,a3,a4,a5]) rfl⟩,by omega⟩
  ·have hkE:k=F.length:=by omega
   subst hkE;simp[g37,g38];exact⟨_,G,N1,rfl,by simp[g1],by simp[g2],by simp[g5],loc,hR,hE,hL,ht,hN,hlin⟩
 clear env g1 g2 g5 hMk G N1;rintro _ ⟨env,G,N1,rfl,g1,g2,g5,loc,hR,hE,hL,ht,hN,hlin⟩;have hlt:=hR.lt;have l1:=hlt .tab trivial;rw[ht]at l1;have htab:=hR.tab;unfold tref Z5 at htab;rw[ht]at htab;have hlin':=hlin;unfold qp1 at hlin';refine Qd _ _ _ ?_;simp;refine Qm.cut mixed ([0,1,2,3,4]++(5::[6,7,8,9,10,11])) (by kernel_rfl) (by kernel_rfl) ?_;refine Yp.walk (fun _=>false) _ ?_;simp[qbZ,Q0,g2,g5,hlin',hN];refine sgK.mk (by kernel_rfl) ?_;refine Yp.call [] rfl (by kernel_rfl) (by simp) (S:=fun r H' N'=>qr5 G N1 r H' N' co) (by simp;exact qn7 co (by omega)) (fun u H' N' h=>by obtain⟨_,_,_,_,_,_,_,hE⟩:=h;exact⟨hE.1,fun id hi _=>hE.2.2 id hi⟩) ?_;rintro r4 G4 N4 ⟨q,cq,tq,rfl,q1,q2,q3,hE4⟩;have htab4:=(hE4.2.2 _ l1).trans htab;refine Yp.last (fun _=>false) [6,7,8,9,10,11] ?_;have e4:=hE4.1;simp[qbZ,Q0,htab4,qdJ,qmU,show ¬N=N4 by omega,show ¬N+1=N4 by omega];refine sgK.done (by kernel_rfl) ?_;simp[g5];have hx:=hR.qfb (G:=(((G4.set N4 ⟨121,2,[[rs c0,.ref q 1 0 co.length none]],false,some 1⟩).set (N4+1) ⟨122,1,[[.ptr N4 2 0 0]],false,some 1⟩).set (N+1) (Z5 co.length F (.ref (loc .basis) 1 0 (QV co F co.length F.length).basis.length none) (.ref (loc .rows) 2 0 (QV co F co.length F.length).rows.length none) (.ref (loc .cols) 1 0 (QV co F co.length F.length).cols.length none) (.ref (N4+1) 1 0 1 none))))
  (N':=N4+2) (q:=N4+1) (p:=N4) (c:=q) (c0,co) (by omega) (by omega) (by omega) (by omega) (by omega) (by omega) (by omega) (fun L v _=>by have:=hlt L v;omega) (cap1:=some 1) (cap2:=some 1) (t1:=[]) (t2:=[])
  (by rw[ht];simp[tref,Zl,QV]) (by simp[Q8,QV,show ¬N4=N by omega]) (by simp[Yb,show ¬N4=N+1 by omega]) ⟨cq,tq,by simp[show ¬q=N+1 by omega,show ¬q=N4 by omega,show ¬q=N4+1 by omega];exact q3⟩ (fun L v a1 a2=>by have b1:¬loc L=N+1:=fun e=>a1 (hR.inj L .tab v trivial (e.trans ht.symm));have:=hlt L v;simp[b1,show ¬loc L=N4 by omega,show ¬loc L=N4+1 by omega];exact hE4.2.2 _ this)
 have hT:{ QV co F co.length F.length with goals:=(QV co F co.length F.length).goals++[(c0,co)] }=ZH co c0 F:=by simp[QV,ZH]
 rw[hT]at hx;have hgl:(QV co F co.length F.length).goals.length=0:=rfl;refine⟨_,?_,hx.to (fun i hi=>?_) (fun i hi=>?_),⟨by have:=hE.1;omega,by show G4.L=_;exact hE4.2.1.trans hE.2.1,fun t htt=>?_⟩,fun L v=>?_⟩
 ·simp[Zl,ht]
 ·have hi':i<F.length:=by simpa[ZH]using hi
  simp only[Tb.row,ZH,List.getD_eq_getElem?_getD,List.getElem?_map,List.getElem?_eq_getElem hi',Option.map_some,Option.getD_some,List.length_map,List.length_range];exact hF _ (List.getElem_mem hi')
 ·have hi':i=0:=by simp[ZH]at hi;exact hi
  subst hi';simp[Tb.goal,ZH]
 ·have:=hE.1;simp[show ¬t=N+1 by omega,show ¬t=N4 by omega,show ¬t=N4+1 by omega];exact(hE4.2.2 t (by omega)).trans (hE.2.2 t htt)
 ·rw[hgl];unfold Zl;split
  ·omega
  ·split
   ·omega
   ·split
    ·omega
    ·rename_i a1 a2 a3;refine Nat.le_trans (Nat.le_succ _) (hL L ?_);cases L<;>simp only[Tb.valid]at v⊢
     ·simpa[ZH,QV]using v
     ·rename_i i;simp[ZH]at v;simp[v]at a2
     ·rename_i i;simp[ZH]at v;simp[v]at a3
end
end
end Go.AX.Run
namespace Go.AX.Run
open Go.RowKit Go.Proofs Go.AX Go.Num
def QS(co:List Rat)(c0:Rat)(F:List Fct):LP.Prg:=⟨co.length,fun j=>co.getD j 0,c0,F.length,fun i=>match F[i]? with|some f=>decide (f.op=1)|none=>false,fun i j=>match F[i]? with|some f=>((f.coef.getD j 0:Int):Rat)|none=>0,fun i=>match F[i]? with|some f=>(f.const:Rat)|none=>0⟩
section
variable{co:List Rat}{c0:Rat}{F:List Fct}
theorem qjc:(QS co c0 F).fr=Zt co.length:=rfl
theorem qft:(QS co c0 F).fx=QY co.length F:=by
 funext v;simp only[LP.Prg.fx,QY,QS];cases h:F[v-co.length]? with
 | none=>simp
 | some f =>
  have:=(List.getElem?_eq_some_iff.1 h).1;by_cases hv:co.length≤v
  ·simp[hv,show v<co.length+F.length by omega]
  ·simp[hv]
theorem qjb:(QS co c0 F).bd=Qi co.length F:=by funext v;simp only[LP.Prg.bd,Qi,qft];rfl
theorem J0{α β:Type}(f:α→β)(g:Nat→β)(l:List α)(h:∀i a,l[i]?=some a→g i=f a):(List.range l.length).map g=l.map f:=by
 apply List.ext_getElem?;intro i;simp only[List.getElem?_map];by_cases hi:i<l.length
 ·rw[List.getElem?_range hi,List.getElem?_eq_getElem hi];simp only[Option.map_some];rw[h i _ (List.getElem?_eq_getElem hi)]
 ·rw[List.getElem?_eq_none (by simpa using hi),List.getElem?_eq_none (by simpa using hi)];rfl
theorem qlm(hF:∀f∈F,f.coef.length=co.length):(ZH co c0 F).lp=(QS co c0 F).tab:=by
 have h1:(List.range co.length).map (QS co c0 F).c=co:=by have:=J0 (fun x:Rat=>x) (QS co c0 F).c co (fun i a h=>by simp[QS,List.getD_eq_getElem?_getD,h]);rw[this];simp
 have h2:(List.range F.length).map (fun i=>(⟨(QS co c0 F).b i,(List.range co.length).map ((QS co c0 F).a i)⟩:LP.Row))=F.map fun f=>⟨(f.const:Rat),f.coef.map fun z:Int=>(z:Rat)⟩ :=
  J0 (fun f:Fct=>(⟨(f.const:Rat),f.coef.map fun z:Int=>(z:Rat)⟩:LP.Row)) _ F fun i f h=>by have hf:=hF f (List.mem_of_getElem? h);have h3:=J0 (fun z:Int=>(z:Rat)) ((QS co c0 F).a i) f.coef (fun j a hj=>by simp[QS,h,List.getD_eq_getElem?_getD,hj]);rw[hf]at h3;rw[h3];simp[QS,h]
 show(⟨_,_,_,_⟩:LP.Tab)=⟨_,_,_,_⟩;have e1:(QS co c0 F).n=co.length:=rfl;have e2:(QS co c0 F).m=F.length:=rfl;have e3:(QS co c0 F).c0=c0:=rfl;rw[e1,e2,e3,h1,h2];simp[ZH]
theorem qnp{L k:Nat}{x:Rat}(h:LP.Sz L x)(hL:L<10^k)(hk:0<k):szq x≤k:=by unfold szq;exact Nat.max_le.2 ⟨(YF hk).2 (Nat.lt_of_le_of_lt h.1 hL),(YF hk).2 (Nat.lt_of_le_of_lt h.2 hL)⟩
theorem Wp{FF:Nat→LP.Vec Rat}{F0:LP.Vec Rat}{G:List (LP.Vec Rat)}{m:Nat}{T:Tb}(h:LP.Good FF F0 G m T.lp):T.cols.length=m∧T.basis.length=T.rows.length∧(∀i,i<T.rows.length→(T.row i).2.length=m)∧T.goals.length=G.length∧∀i,i<T.goals.length→(T.goal i).2.length=m:=by
 refine⟨h.cl,?_,fun i hi=>?_,?_,fun i hi=>?_⟩
 ·have:=h.rl;rw[Z4]at this;exact this.symm
 ·have:=h.cf ⟨(T.row i).1,(T.row i).2⟩ (by simp only[Tb.lp,List.mem_map];exact⟨T.row i,by unfold Tb.row;rw[List.getD_eq_getElem?_getD,List.getElem?_eq_getElem hi];exact List.getElem_mem hi,rfl⟩)
  exact this
 ·have:=h.gl;simpa[Tb.lp]using this
 ·have:=h.gf ⟨(T.goal i).1,(T.goal i).2⟩ (by simp only[Tb.lp,List.mem_map];exact⟨T.goal i,by unfold Tb.goal;rw[List.getD_eq_getElem?_getD,List.getElem?_eq_getElem hi];exact List.getElem_mem hi,rfl⟩)
  exact this
theorem Xg{m k L:Nat}{r:Rat×List Rat}(hl:r.2.length=m)(h:∀p,p<m+1→LP.Sz L (LP.tt m ⟨r.1,r.2⟩ p))(hL:L<10^k)(hk:0<k):szq r.1≤k∧∀q∈r.2,szq q≤k:=by
 refine⟨?_,fun q hq=>?_⟩
 ·have:=h m (by omega);simp only[LP.tt,Nat.lt_irrefl,if_false]at this;exact qnp this hL hk
 ·obtain⟨p,hp,rfl⟩:=List.getElem_of_mem hq;have:=h p (by omega);simp only[LP.tt,show p<m by omega,if_true]at this;have e:(⟨r.1,r.2⟩:LP.Row).co p=r.2[p]:=by simp[LP.Row.co,List.getD_eq_getElem?_getD,hp]
  rw[e]at this;exact qnp this hL hk
def I0(co:List Rat)(c0:Rat)(F:List Fct)(T:Tb):Prop:=LP.Tbl (QS co c0 F) T.lp∧T.rows.length=F.length
theorem qsK{M C:Nat}(hn:co.length≤100)(hm:F.length≤100)(hs:LP.Szd (QS co c0 F) M C)(hR:(QS co c0 F).qkl M<10^1000)(hG:(QS co c0 F).lim M C<10^1510):qkq co.length F (I0 co c0 F):=by
 have e1:(QS co c0 F).n=co.length:=rfl;have e2:(QS co c0 F).m=F.length:=rfl;refine⟨fun T hT=>?_,fun T i k hT hi hk ha=>?_⟩
 ·obtain⟨hT,hl⟩:=hT;obtain⟨l1,l2,l3,l4,l5⟩:=Wp hT.on.good;obtain⟨s1,s2⟩:=hT.size hs;rw[e1]at l1 l3 l5;have l4:T.goals.length=1:=l4;have hv1:=hT.on.vars.1;have hv2:=hT.on.vars.2;rw[e1,e2]at hv1 hv2;refine⟨fun i hi=>?_,by omega,by omega,by omega,by omega,by omega,fun i hi=>?_,fun i hi=>?_,fun j hj=>?_,fun j hj=>?_⟩
  ·have:=hv2 i (by omega);have:T.cols.getD i 0<co.length+F.length:=this;omega
  ·have:=hv1 i (by rw[Z4];omega);have:T.basis.getD i 0<co.length+F.length:=this;omega
  ·have:=hv2 i (by omega);have:T.cols.getD i 0<co.length+F.length:=this;omega
  ·refine Xg (m:=co.length) (l3 j hj) (fun p hp=>?_) hR (by omega);have:=s1 j (by rw[Z4];exact hj) p hp;rw[qaK]at this;exact this
  ·have hj0:j=0:=by omega
   subst hj0;refine Xg (m:=co.length) (l5 0 (by omega)) (fun p hp=>?_) hG (by omega);have:=s2 p hp;rw[Vi]at this;exact this
 ·obtain⟨hT,hl⟩:=hT;obtain⟨l1,l2,l3,l4,l5⟩:=Wp hT.on.good;refine⟨?_,by simp[Tb.pivot];exact hl⟩;rw[KU (fun i hi=>by rw[l3 i hi,l1]) (fun i hi=>by rw[l5 i hi,l1]) hi];exact hT.pivot (by rw[Z4];exact hi) (by rw[←l1];exact hk) (by rw[qam];exact ha)
def I1(co:List Rat)(c0:Rat)(F:List Fct)(T:Tb):Prop:=(∃s,LP.qhn (QS co c0 F) s T.lp)∧T.rows.length=F.length
theorem qsL{M C:Nat}(hn:co.length≤100)(hm:F.length≤100)(hs:LP.Szd (QS co c0 F) M C)(hR:(QS co c0 F).qkl M<10^1000)(hG:(QS co c0 F).lim M C<10^1510):qkq co.length F (I1 co c0 F):=by
 have e1:(QS co c0 F).n=co.length:=rfl;have e2:(QS co c0 F).m=F.length:=rfl;refine⟨fun T hT=>?_,fun T i k hT hi hk ha=>?_⟩
 ·obtain⟨⟨s,hT⟩,hl⟩:=hT;obtain⟨l1,l2,l3,l4,l5⟩:=Wp hT.on.good;obtain⟨s1,s2⟩:=hT.size hs;rw[e1]at l1 l3 l5;have l4:T.goals.length=2:=l4;have hv1:=hT.on.vars.1;have hv2:=hT.on.vars.2;rw[e1,e2]at hv1 hv2;refine⟨fun i hi=>?_,by omega,by omega,by omega,by omega,by omega,fun i hi=>?_,fun i hi=>?_,fun j hj=>?_,fun j hj=>?_⟩
  ·have:=hv2 i (by omega);have:T.cols.getD i 0<co.length+F.length+1:=this;omega
  ·have:=hv1 i (by rw[Z4];omega);have:T.basis.getD i 0<co.length+F.length+1:=this;omega
  ·have:=hv2 i (by omega);have:T.cols.getD i 0<co.length+F.length+1:=this;omega
  ·refine Xg (m:=co.length+1) (l3 j hj) (fun p hp=>?_) hR (by omega);have:=s1 j (by rw[Z4];exact hj) p hp;rw[qaK]at this;exact this
  ·refine Xg (m:=co.length+1) (l5 j hj) (fun p hp=>?_) hG (by omega);have:=s2 j (by omega) p hp;rw[Vi]at this;exact this
 ·obtain⟨⟨s,hT⟩,hl⟩:=hT;obtain⟨l1,l2,l3,l4,l5⟩:=Wp hT.on.good;refine⟨⟨s,?_⟩,by simp[Tb.pivot];exact hl⟩;rw[KU (fun i hi=>by rw[l3 i hi,l1]) (fun i hi=>by rw[l5 i hi,l1]) hi];exact hT.pivot (by rw[Z4];exact hi) (by rw[←l1];exact hk) (by rw[qam];exact ha)
end
end Go.AX.Run
namespace Go.LP
section
variable{P:Prg}{T:Tab}
theorem qjF(h:Tbl P T)(hd:ZR P P.n T.rows.length T)(hz:Yq P P.n T.rows.length T)(hl:T.rows.length=P.m){f:Nat}{b:Bool}{T':Tab}(hs:YY P.bd (P.n+P.m) f T=some (b,T')) :
  (b=true→J2 P T')∧(b=false→P.Inf∧(goalAt T' 1).last≠0):=by
 cases hw:V3 P.bd T with
 | none =>simp only[YY,hw,Option.some.injEq,Prod.mk.injEq]at hs;obtain⟨rfl,rfl⟩:=hs;exact⟨fun _=>⟨h,Vl hw,hd,hz,hl⟩,fun h=>by cases h⟩
 | some w =>
  obtain⟨w1,w2,w3⟩:=qaa h hd hz hl hw;have hcl:=h.on.lens.1;simp only[YY,hw,hcl]at hs;cases hc:ZS P.bd (P.n+P.m) 1 f (pivot (QL P.bd (P.n+P.m) T) w P.n)with
  | none=>rw[hc]at hs;cases hs
  | some p =>
   obtain⟨T3,r⟩:=p;rw[hc]at hs;simp only at hs;have hi:=Xv (J:=J1 P (sOf P T)) (K:=K1 P (sOf P T)) (fun T k i hT he hl=>hT.step he hl) f _ T3 r w3 hc;cases hx:qgu (P.n+P.m) T3 with
   | some k =>
    rw[hx]at hs;simp only[Option.some.injEq,Prod.mk.injEq]at hs;obtain⟨rfl,rfl⟩:=hs;obtain⟨k1,k2⟩:=XN hx;refine⟨fun _=>?_,fun h=>by cases h⟩;have hK:K1 P (sOf P T) T3:=by
     rcases hi with⟨_,_,h⟩|⟨_,_,_,_,h⟩|⟨_,h,_⟩
     ·exact h.1
     ·exact h.1
     ·exact h
    exact hK.drop (by rw[←hK.tbl.on.lens.1];exact k1) k2
   | none =>
    rw[hx]at hs;simp only[Option.some.injEq,Prod.mk.injEq]at hs;obtain⟨rfl,rfl⟩:=hs;refine⟨fun h=>(by cases h),fun _=>?_⟩;rcases hi with⟨_,he,h⟩|⟨k,_,he,hle,h⟩|⟨_,_,k,hk,e⟩
    ·exact h.infeas he
    ·exact(h.ended he hle).elim
    ·exact absurd e (XM hx k hk)
end
end Go.LP
namespace Go.AX.Run
open Go.RowKit Go.Proofs Go.AX Go.Num Tryz
section
variable{co:List Rat}{c0:Rat}{F:List Fct}{H:Qf}{N:Nat}{loc:Loc→Nat}
theorem qdj{M C:Nat}(hn:co.length≤100)(hm:F.length≤100)(hF:∀f∈F,f.coef.length=co.length)(hs:LP.Szd (QS co c0 F) M C)(hR:(QS co c0 F).qkl M<10^1000)(hG:(QS co c0 F).lim M C<10^1510) :
  ∃a v,LP.Res (QS co c0 F) a v∧∀(H:Qf) (N:Nat) (loc:Loc→Nat) (pid rid:Nat),Rep co.length F H N loc (ZH co c0 F)→(∀i,H.L i=none)→pid<N→(∀L,(ZH co c0 F).valid L→loc L≠pid)→H.b pid=some (pgB (loc .tab) qoV)→rid<N→(∀L,(ZH co c0 F).valid L→loc L≠rid)→rid≠pid →
   Qc prog 61 [.ptr pid 6 0 0] H N fun r H' N'=>Xk co.length F (loc .tab) pid a v rid (H.b rid) H':=by
 have e1:(QS co c0 F).n=co.length:=rfl;have e2:(QS co c0 F).m=F.length:=rfl;have hlen:(ZH co c0 F).rows.length=F.length:=by simp[ZH]
 have hT:I0 co c0 F (ZH co c0 F):=⟨by rw[qlm hF];exact LP.Prg.qrO _,hlen⟩;obtain⟨f1,f2,a,v,hsol,hres⟩:=LP.qbU hT.1 (by rw[Z4,e2];exact hlen);have hd0:LP.ZR (QS co c0 F) (QS co c0 F).n 0 (ZH co c0 F).lp:=fun i hi=>by omega
 have heqs:∀(T1:Tb) r,LP.qak (Zt co.length) (QY co.length F) (ZH co c0 F).rows.length 0 (ZH co c0 F).lp=(T1.lp,r)→_:=fun T1 r he =>LP.qmZ (ZH co c0 F).rows.length 0 (ZH co c0 F).lp hT.1 hd0 (by rw[Z4];omega) T1.lp r (by rw[qjc,qft];exact he)
 have hstart:∀(T1:Tb) (b:Bool) T3,LP.qak (Zt co.length) (QY co.length F) (ZH co c0 F).rows.length 0 (ZH co c0 F).lp=(T1.lp,none) →
   LP.YY (Qi co.length F) (co.length+F.length) f1 (LP.qaV (Zt co.length) (Qi co.length F) T1.rows.length 0 T1.lp)=some (b,T3)→(b=true→LP.J2 (QS co c0 F) T3)∧(b=false→(QS co c0 F).Inf∧(LP.goalAt T3 1).last≠0):=fun T1 b T3 he hst=>by
  obtain⟨g1,g2,g3⟩:=heqs T1 none he;simp only at g3;obtain⟨u1,u2,u3,u4⟩:=LP.qnr T1.rows.length 0 T1.lp g1 g3 (fun i hi=>by omega) (by rw[Z4];omega);rw[←qjc (c0:=c0) (F:=F),←qjb (co:=co) (c0:=c0)]at hst;rw[Z4]at g2 u2;exact LP.qjF u1 (by rw[u2];simpa[Z4]using u3) (by rw[u2];simpa[Z4]using u4) (by rw[u2,g2,Z4,hlen];rfl) (by rw[e1,e2];exact hst)
 refine⟨a,v,hres,fun H N loc pid rid hRep hL0 hpN hpL hp hrN hrL hrp=>?_⟩;refine qbU (qsK hn hm hs hR hG) (qsL hn hm hs hR hG) hRep hT rfl hL0 hpN hpL hp hrN hrL hrp (P:=QS co c0 F) rfl qjc qft qjb hsol (fun T1 i he=>?_) (fun T1 h j hj=>?_) (fun T1 h=>?_) (fun T1 T3 he hst=>((hstart T1 false T3 he hst).2 rfl).2) (fun T1 T3 he hst=>?_)
 ·obtain⟨g1,g2,g3,g4,g5,g6⟩:=heqs T1 (some i) he;rw[Z4]at g3;rw[qby]at g6;rw[qft]at g4;exact⟨g3,g4,g6⟩
 ·have:=h.1.on.vars.2 j (by have:=(Wp h.1.on.good).1;omega);exact this
 ·refine⟨⟨LP.sOf (QS co c0 F) T1.lp,?_⟩,by rw[←h.2];exact Yk _ _ _⟩;rw[qb7];have:=h.1.QL;rw[qjb]at this;exact this
 ·have hJ:=(hstart T1 true T3.lp he hst).1 rfl;exact⟨⟨hJ.tbl,by have:=hJ.len;rw[Z4]at this;exact this⟩,(Wp hJ.tbl.on.good).2.2.2.1⟩
end
section
attribute [local simp] Qq Qh Qk Qr QR QU QO Q4 QX QP QK Zd alen
theorem qjj(x:Rat):x*(x.den:Rat)=(x.num:Rat):=by
 have:=Rat.num_divInt_den x;rw[Rat.divInt_eq_div]at this;have hd:((x.den:Int):Rat)≠0:=by intro h;have:=x.den_nz;exact this (by exact_mod_cast h)
 calc x*x.den=(x.num:Rat)/((x.den:Int):Rat)*((x.den:Int):Rat):=by rw[this];rfl
  _=x.num:=Rat.div_mul_cancel hd
theorem qd2{δ:Nat}{q:Rat}(h:q.den∣δ):((δ:Int):Rat)*q=(((δ/q.den:Nat):Int)*q.num:Int):=by
 obtain⟨k,rfl⟩:=h;rw[Nat.mul_div_cancel_left _ q.den_pos];have h1:q*(q.den:Rat)=(q.num:Rat):=qjj q;have h2:(((q.den*k:Nat):Int):Rat)=(q.den:Rat)*((k:Int):Rat):=by rw[Int.natCast_mul,Rat.intCast_mul];rfl
 rw[h2,Rat.intCast_mul,←h1];grind
structure Szp(co:List Rat)(c0:Rat)(F:List Fct)(δ:Nat):Prop where
 n:co.length≤7
 m:F.length≤100
 l:∀f∈F,f.coef.length=co.length
 c:∀f∈F,(∀z∈f.coef,z.natAbs<10^100)∧f.const.natAbs<10^100
 d0:0<δ
 d:δ<10^400
 o:∀q∈c0::co,q.num.natAbs<10^100∧q.den∣δ
section
variable{co:List Rat}{c0:Rat}{F:List Fct}{δ:Nat}
theorem Szp.szd(h:Szp co c0 F δ):LP.Szd (QS co c0 F) (10^100) (10^500):=by
 have hpos:0<10^100:=Nat.pow_pos (by omega);refine⟨⟨fun i j=>match F[i]? with|some f=>f.coef.getD j 0|none=>0,fun i=>match F[i]? with|some f=>f.const|none=>0,fun i hi=>?_⟩,⟨(δ:Nat),fun c=>(if c<co.length then((δ/(co.getD c 0).den:Nat):Int)*(co.getD c 0).num else((δ/c0.den:Nat):Int)*c0.num),by have:=h.d0;omega,?_,fun c hc=>?_⟩,hpos,Nat.pow_pos (by omega)⟩
 ·have hi:i<F.length:=hi;obtain⟨h1,h2⟩:=h.c _ (List.getElem_mem hi);simp only[QS,List.getElem?_eq_getElem hi];refine⟨fun j hj=>⟨trivial,?_⟩,trivial,Nat.le_of_lt h2⟩;have hj:j<F[i].coef.length:=by rw[h.l _ (List.getElem_mem hi)];exact hj
  rw[List.getD_eq_getElem?_getD,List.getElem?_eq_getElem hj];exact Nat.le_of_lt (h1 _ (List.getElem_mem hj))
 ·rw[Int.natAbs_natCast];exact Nat.le_of_lt (Nat.lt_of_lt_of_le h.d (Nat.pow_le_pow_right (by omega) (by omega)))
 ·have hc:c<co.length+1:=hc;have key:∀q∈c0::co,((δ:Int):Rat)*q=(((δ/q.den:Nat):Int)*q.num:Int)∧(((δ/q.den:Nat):Int)*q.num).natAbs≤10^500:=fun q hq=>by obtain⟨h1,h2⟩:=h.o q hq;refine⟨qd2 h2,?_⟩;rw[Int.natAbs_mul,Int.natAbs_natCast];have h3:δ/q.den≤10^400:=Nat.le_trans (Nat.div_le_self _ _) (Nat.le_of_lt h.d);exact Nat.le_trans (Nat.mul_le_mul h3 (Nat.le_of_lt h1)) (Nat.le_of_eq (Nat.pow_add ..).symm)
  by_cases hcl:c<co.length
  ·have hm:co.getD c 0∈c0::co:=by rw[List.getD_eq_getElem?_getD,List.getElem?_eq_getElem hcl];exact List.mem_cons_of_mem _ (List.getElem_mem hcl)
   have e:(QS co c0 F).gm c=co.getD c 0:=(show(QS co c0 F).gm c=(if c<co.length then co.getD c 0 else if c=co.length then c0 else 0) from rfl).trans (if_pos hcl);rw[e];simp only[if_pos hcl];exact key _ hm
  ·have e:(QS co c0 F).gm c=c0:=(show(QS co c0 F).gm c=(if c<co.length then co.getD c 0 else if c=co.length then c0 else 0) from rfl).trans ((if_neg hcl).trans (if_pos (show c=co.length by omega)));rw[e];simp only[if_neg hcl];exact key _ (List.mem_cons_self ..)
theorem Szp.pw(h:Szp co c0 F δ):((co.length+2)*10^100)^(co.length+1)≤10^808:=by
 have hn:=h.n;have h1:(co.length+2)*10^100≤10^101:=by rw[Nat.pow_succ 10 100,Nat.mul_comm];exact Nat.mul_le_mul_left _ (by omega)
 refine Nat.le_trans (Nat.pow_le_pow_left h1 _) ?_;rw[←Nat.pow_mul];exact Nat.pow_le_pow_right (by omega) (by omega)
theorem Szp.n1(h:Szp co c0 F δ):(co.length+2)*10^100≤10^101:=by have hn:=h.n;rw[Nat.pow_succ 10 100,Nat.mul_comm];exact Nat.mul_le_mul_left _ (by omega)
theorem Szp.qkl(h:Szp co c0 F δ):(QS co c0 F).qkl (10^100)<10^1000:=by have h1:(QS co c0 F).qkl (10^100)≤10^808*10^101:=Nat.mul_le_mul h.pw h.n1;rw[←Nat.pow_add]at h1;exact Nat.lt_of_le_of_lt h1 (Nat.pow_lt_pow_right (by omega) (by omega))
theorem Szp.lim(h:Szp co c0 F δ):(QS co c0 F).lim (10^100) (10^500)<10^1510:=by
 have h2:(co.length+2)*(10^100*10^500)≤10^101*10^500:=by rw[←Nat.mul_assoc];exact Nat.mul_le_mul_right _ h.n1
 have h1:(QS co c0 F).lim (10^100) (10^500)≤10^808*(10^101*10^500):=Nat.mul_le_mul h.pw h2;rw[←Nat.pow_add,←Nat.pow_add]at h1;exact Nat.lt_of_le_of_lt h1 (Nat.pow_lt_pow_right (by omega) (by omega))
end
theorem qqu(t:Nat):abuild prog 92 [(0,.ptr t 7 0 0)]=some (.agg (.ptr t 7 0 0::qoV)):=by kernel_rfl
def qb0(a:Nat)(val:AV)(lp lr lm:List Rat):AV:=.agg [.v (.int .i64 (a:Nat)),val,.ro (ql lp),.ro (ql lr),.ro (ql lm)]
def qbY(m a:Nat)(v:Rat)(r:AV):Prop:=∃val lp lr lm,r=.tup [qb0 a val lp lr lm,.v (.int .i64 0)]∧((a=0∧val=rs v∧szq v≤1510)∨(a≠0∧val=.v (.string { data:=#[] })))∧(a=2→lm.length=m)
theorem SlQ.one{H:Qf}{x:AV}{l:List Rat}(h:SlQ H x l):x.one=true:=by rcases h with⟨rfl,rfl⟩|⟨q,cap,t,rfl,hq⟩<;>rfl
theorem SlQ.frz{H:Qf}{G:Nat→Prop}{x:AV}{l:List Rat}(h:SlQ H x l):Frz H (fun _=>True) G x (.ro (ql l)):=by
 rcases h with⟨rfl,rfl⟩|⟨q,cap,t,rfl,hq⟩
 ·exact .nil
 ·have hv:∀e∈ql l,∀c∈e,Frz H (fun _=>True) G c c:=fun e he c hc=>by obtain⟨z,_,rfl⟩:=List.mem_map.1 he;simp at hc;subst hc;exact .v _
  have:=Frz.KB (F:=fun _=>True) (G:=G) (id:=q) (sz:=1) (off:=0) (len:=l.length) (mx:=none) trivial hq rfl (by simp[QU]) (by rw[List.drop_zero,List.take_append_of_le_length (by rw[QU];exact Nat.le_refl _),List.take_of_length_le (by rw[QU];exact Nat.le_refl _)];exact hv)
  rw[List.drop_zero,List.take_append_of_le_length (by rw[QU];exact Nat.le_refl _),List.take_of_length_le (by rw[QU];exact Nat.le_refl _)]at this;exact this
theorem qlO{H:Qf}{G:Nat→Prop}{a:Nat}{val pt ray mu:AV}{lp lr lm:List Rat}(hv:∃s,val=.v s)(h1:SlQ H pt lp)(h2:SlQ H ray lr)(h3:SlQ H mu lm):Frz H (fun _=>True) G (.tup [.agg [.v (.int .i64 (a:Nat)),val,pt,ray,mu],.v (.int .i64 0)]) (.tup [qb0 a val lp lr lm,.v (.int .i64 0)]):=by obtain⟨s,rfl⟩:=hv;have hg:qhe H (fun _=>True) G [.v (.int .i64 (a:Nat)),.v s,pt,ray,mu] [.v (.int .i64 (a:Nat)),.v s,.ro (ql lp),.ro (ql lr),.ro (ql lm)]:=.cons (.v _) (.cons (.v _) (.cons h1.frz (.cons h2.frz (.cons h3.frz .nil))));obtain⟨g1,g2,g3⟩:=hg.get;have ht:qhe H (fun _=>True) G [.agg [.v (.int .i64 (a:Nat)),.v s,pt,ray,mu],.v (.int .i64 0)] [qb0 a (.v s) lp lr lm,.v (.int .i64 0)]:=.cons (.agg _ _ _ g1 g2 g3) (.cons (.v _) .nil);obtain⟨t1,t2,t3⟩:=ht.get;exact .tup _ _ _ t1 t2 t3
section
variable{co:List Rat}{c0:Rat}{F:List Fct}{δ:Nat}
theorem J3(h:Szp co c0 F δ):∃a v,LP.Res (QS co c0 F) a v∧Y6 prog 24 [ln co c0,.ro (fl F)] (qbY F.length a v):=by
 have hn:=h.n;obtain⟨a,v,hres,hs⟩:=qdj (by omega) h.m h.l h.szd h.qkl h.lim;refine⟨a,v,hres,⟨_,_,func24,by kernel_rfl,rfl⟩,(Qv.data (Q:=qbY F.length a v) (Qv.QM func24 rfl (by simp[ntmps24]) (Qd _ _ _ ?_))).mono fun r H N h=>h.2.2⟩;simp;refine(qbD co c0 F (by omega) (by have:=h.m;omega) h.l).mono ?_;rintro r H1 N1 ⟨loc,rfl,hR,hE,hL⟩;have hb1:=hE.2.2 1 (by omega);have hN:=hE.1;have hHL:∀i,H1.L i=none:=fun i=>by rw[hE.2.1];rfl
 clear hE;simp at hb1;simp[qqu,qoV];refine(hs (H1.set N1 (pgB (loc .tab) qoV)) (N1+1) loc N1 1 (hR.ext ⟨by omega,rfl,fun j hj=>by simp[show ¬j=N1 by omega]⟩) (fun i=>by simp[hHL]) (by omega) (fun L v=>by have:=hR.lt L v;omega) (by simp) (by omega) (fun L v=>by have:=hL L v;omega) (by omega)).mono ?_;rintro r2 H2 N2 ⟨⟨cs,hpg,hop⟩,⟨a3,a4,a5,a6,htab⟩,hrid⟩;obtain⟨val,pt,ray,mu,lp,lr,lm,rfl,s1,s2,s3,hcase⟩:=hop;rw[Qf.Yg,if_neg (by omega),hb1]at hrid;unfold pgB at hpg;unfold Z5 at htab;have hv:∃s,val=.v (.string s):=by
  rcases hcase with⟨_,h,_⟩|⟨_,h,_⟩|⟨_,h,_⟩
  ·exact⟨_,h⟩
  ·exact⟨_,h⟩
  ·exact⟨_,h⟩
 obtain⟨sv,rfl⟩:=hv;simp[hpg,htab,hrid,s1.one,s2.one,s3.one];have hk:∀{x l},SlQ H2 x l→SlQ (H2.set 1 ⟨33,5,[[.v (.int .i64 (a:Nat)),.v (.string sv),pt,ray,mu]],false,some 1⟩) x l:=fun {x l} h=>by
  rcases h with h|⟨q,cap,t,h1,h2⟩
  ·exact .inl h
  ·refine .inr ⟨q,cap,t,h1,?_⟩;have hq:q≠1:=fun e=>by rw[e,hrid]at h2;simp at h2
   simp[hq,h2]
 refine⟨_,qlO ⟨_,rfl⟩ (hk s1) (hk s2) (hk s3),_,lp,lr,lm,rfl,?_,fun ha=>?_⟩
 ·rcases hcase with⟨h1,h2,_,_,_,h3⟩|⟨h1,h2,_⟩|⟨h1,h2,_⟩
  ·exact .inl ⟨h1,h2,h3⟩
  ·exact .inr ⟨by omega,h2⟩
  ·exact .inr ⟨by omega,h2⟩
 ·rcases hcase with⟨h1,_⟩|⟨h1,_⟩|⟨_,_,_,_,h5⟩
  ·omega
  ·omega
  ·exact h5
end
end
section
attribute [local simp] Qq Qh Qk Qr QR QO QX alen QP QK Zd QU Q4
def qtb(H:Qf)(N:Nat)(r:AV)(H':Qf)(N':Nat)(l:List Int):Prop:=∃q cap t,r=.ref q 1 0 l.length none∧N≤q∧q<N'∧H'.b q=some ⟨38,1,zl l++t,false,cap⟩∧Ext H N H' N'
theorem qqk{st:St}{id:Nat}{cap:Option Nat}{x:AV}{l:List Int}(hb:st.H.b id=some ⟨38,1,[],false,cap⟩)(he:QA st.H x=some (zl l))(h0:l≠[])(hl:l.length≤100000) :
  aappend prog st 37 (.ref id 1 0 0 none) x=some (.ref st.N 1 0 l.length none,⟨st.n,st.env,(st.H.kill id).set st.N ⟨38,1,zl l,false,none⟩,st.N+1⟩):=by
 have h3:prog.underlying 37=some (.slice 38):=by kernel_rfl
 have h1:ZQ prog 38=true:=by kernel_rfl
 have h2:prog.cellsOf 38=1:=by kernel_rfl
 have h4:zlen prog 38=true:=by kernel_rfl
 have h5:prog.bytesOf 38=16:=by kernel_rfl
 have hn:(zl l).length=l.length:=QO l;unfold aappend;rw[h3];cases l with
 | nil=>exact(h0 rfl).elim
 | cons a l =>
 simp only[he];have hq:zl (a::l)=[zs a]::zl l:=rfl;rw[hq];simp only;rw[←hq,if_pos ⟨h1,h4,by omega,by rw[h2];simp[Zp,zl],by simp[Zb,zl]⟩];rw[hb];simp only[h2,h5,List.length_nil];rw[if_pos ⟨trivial,trivial,trivial,by omega,by rw[hn];simp at hl⊢;omega,by rw[hn];simp only[maxLen];omega⟩];simp[Qs,h2,hn]
theorem qmS:Qz prog 37 0 []=some (38,[]):=by kernel_rfl
theorem qhA{st:St}{id m:Nat}:aappend prog st 37 (.ref id 1 0 m none) (.ro [])=some (.ref id 1 0 m none,st):=by
 have h3:prog.underlying 37=some (.slice 38):=by kernel_rfl
 have h1:ZQ prog 38=true:=by kernel_rfl
 unfold aappend;rw[h3];simp[QA,qm6,h1]
theorem qdS{H:Qf}{N:Nat}(l:List Int)(hl:l.length≤100000) :
  Qc prog 33 [.ro (zl l)] H N fun r H' N'=>qtb H N r H' N' l:=by
 have hu:prog.underlying 37=some (.slice 38):=by kernel_rfl
 by_cases h0:l=[]
 ·subst h0;refine⟨⟨_,_,func33,by kernel_rfl,rfl⟩,Qv.QM func33 rfl (by simp[ntmps33]) (Qe.seq (Qd _ _ _ ?_))⟩;simp;refine Qe.seq (Qe.seq (Qe.QW (K:=fun st=>∃env,st=⟨8,env,H,N⟩∧env 0=.ro []∧env 3=.ro []) 1 ?_ ?_))
  ·simp[zl]
  rintro _ ⟨env,rfl,g0,g3⟩;refine Qx.qqT hu (by simp[ev,g3]) rfl (by simp) fun b=>Qx.nil ?_;refine Qe.cond (b:=b) (by simp[ev]) ?_;cases b with
  | true =>refine Qe.seq (Qd _ _ _ ?_);simp;refine Qe.weak (YQ.trans (YQ.room _ 38 1) (YQ.nls (d:=2) (x':=.ref N 1 0 0 none) (.inr ⟨.inl (by simp),N,1,noRoom 38 1,rfl,by simp,rfl⟩))) (Qe.ret ⟨.inr rfl,N,some 0,[],by simp,Nat.le_refl _,Nat.lt_succ_self _,by simp[noRoom,zl],Nat.le_succ _,rfl,fun j hj=>by simp[show ¬j=N by omega]⟩)
  | false =>refine Qe.skip (Qd _ _ _ ?_);simp[g0,qmS,qhA];exact⟨N,some 0,[],rfl,Nat.le_refl _,Nat.lt_succ_self _,by simp[zl],Nat.le_succ _,rfl,fun j hj=>by simp[show ¬j=N by omega]⟩
 ·refine Qc.body func33 ntmps33 ?_;have hne:abinop prog .eql 37 (.ro (zl l)) (.v (.slice none 0 0))=some (.v (.bool false)):=by
   cases l with
   | nil=>exact(h0 rfl).elim
   | cons a l=>exact(by kernel_rfl:abinop prog .eql 37 (.ro ([zs a]::zl l)) (.v (.slice none 0 0))=some (.v (.bool false)))
  simp[hne,qmS];rw[qqk (id:=N) (cap:=some 0) (by simp) rfl h0 hl];simp;exact⟨N+1,none,[],rfl,by omega,by omega,by simp,by omega,rfl,fun j hj=>by simp[show ¬j=N by omega,show ¬j=N+1 by omega]⟩
theorem qgO(z:Int)(hz:nd z.natAbs≤1000000):Qg prog 122 [zs z] (.v (.int .i64 (nd z.natAbs:Nat))):=by
 refine Qg.body func122 ntmps122 ?_;have hl:=Z3 z;obtain⟨b,h1,h2⟩:=qnw z;by_cases h:z<0
 ·rw[if_pos h]at hl;have w:IntKind.i64.wrap (((il z).length:Int)-1)=((nd z.natAbs:Nat):Int):=by rw[Ql (by omega) (by omega)];omega
  have hb:=h2.2 h;simp[zs,str,h1,hb,Num.QB,w];exact .dat _ 9 rfl
 ·rw[if_neg h]at hl;have hb:¬(b:Int)=45:=fun e=>h (h2.1 e);have hb2:¬b=45:=by omega
  simp[zs,str,h1,hb,Num.QB,hl];exact .dat _ 9 rfl
theorem qgU(z:Int)(hz:nd z.natAbs≤100):Qg prog 90 [zs z] (.v (.int .i64 0)):=by refine Qg.body func90 ntmps90 ?_;simp;refine Qc.pv (KQ z (by omega)) (by simp[Qj]) rfl ?_;simp;refine Qc.pv (qgO z (by omega)) (by simp[Qj]) rfl ?_;simp[show ¬(100:Int)<(nd z.natAbs:Int) by omega];exact .dat _ 9 rfl
theorem qhO(z:Int):Qz prog 37 1 [(0,zs z)]=some (38,[[zs z]]):=by unfold zs str;kernel_rfl
theorem qmO{st:St}{id m:Nat}{l:List Int}{t:List (List AV)}{cap:Option Nat}{x:AV}{z:Int}(hm:m=l.length)(hb:st.H.b id=some ⟨38,1,zl l++t,false,cap⟩)(he:QA st.H x=some [[zs z]])(hl:l.length≤100000) :
  aappend prog st 37 (.ref id 1 0 m none) x=some (.ref st.N 1 0 (m+1) none,⟨st.n,st.env,(st.H.kill id).set st.N ⟨38,1,zl (l++[z]),false,none⟩,st.N+1⟩):=by
 have:=qnC (P:=prog) (t:=37) (e:=38) (sz:=1) (st:=st) (id:=id) (m:=m) (es:=zl l) (tl:=t) (cap:=cap) (x:=x) (c:=[zs z]) (by kernel_rfl) (by kernel_rfl) (by kernel_rfl) (by kernel_rfl) (by omega) (by decide +kernel) (by rw[QO];exact hm) rfl rfl hb he (by rw[QO];omega);rw[this,show zl l++[[zs z]]=zl (l++[z]) by simp[zl]]
theorem qlC(z:Int):qdx prog 37 1 [(0,zs z)]=some (.ro [[zs z]]):=by unfold zs str;kernel_rfl
structure FOk(f:Fct)(n:Nat):Prop where
 op:f.op=0∨f.op=1
 l:f.coef.length=n
 c:∀z∈f.coef,nd z.natAbs≤100
 k:nd f.const.natAbs≤100
def CoI(f:Fct)(id N':Nat)(G:Qf)(i:Nat)(st:St):Prop:=i≤f.coef.length+1∧∃env,st=⟨44,env,G,N'⟩∧env 2=.ptr 0 4 0 0∧env 29=.ref id 1 0 (f.coef.length+1) none∧env 30=.v (.int .i64 ((f.coef.length+1:Nat):Int))∧env 31=.v (.int .i64 (i:Nat))
theorem qbd(f:Fct)(n:Nat)(h:FOk f n)(hn:n≤1000):Qg prog 59 [.agg (fcL f),.v (.int .i64 (n:Nat))] (.v (.int .i64 0)):=by
 refine Qg.body func59 ntmps59 ?_;have hl:=h.l;subst hl;have hall:∀z∈f.coef++[f.const],nd z.natAbs≤100:=fun z hz=>by
  rcases List.mem_append.1 hz with h1|h1
  ·exact h.c z h1
  ·simp at h1;rw[h1];exact h.k
 rcases h.op with ho|ho;all_goals
  simp[fcL,ho];refine Qm.cut mixed ([0,1,3,4,5,8]++(2::[6,7])) (by kernel_rfl) (by kernel_rfl) ?_;refine Yp.walk (fun _=>true) _ ?_;simp[qbZ,Q0,qlC];refine sgK.mk (by kernel_rfl) ?_;refine Yp.call [] rfl (by kernel_rfl) (by simp) (S:=fun r H' N'=>qtb _ _ r H' N' f.coef) (by simp;exact qdS f.coef (by omega)) (fun u H' N' h=>by obtain⟨_,_,_,_,_,_,_,hE⟩:=h;exact⟨hE.1,fun id hi _=>hE.2.2 id hi⟩) ?_;rintro r4 G4 N4 ⟨q,cq,tq,rfl,q1,q2,q3,hE4⟩;have e4:=hE4.1;have hb0:=hE4.2.2 0 (by omega);clear hE4;simp at hb0;have happ:∀n env,aappend prog ⟨n,env,G4,N4⟩ 37 (.ref q 1 0 f.coef.length none) (.ro [[zs f.const]])=some (.ref N4 1 0 (f.coef.length+1) none,⟨n,env,(G4.kill q).set N4 ⟨38,1,zl (f.coef++[f.const]),false,none⟩,N4+1⟩):=fun n env =>qmO (st:=⟨n,env,G4,N4⟩) rfl q3 rfl (by omega)
  refine Yp.last (fun _=>false) [6,7] ?_;simp[-Int.natCast_add,qbZ,happ];refine sgK.done (by kernel_rfl) ?_;simp[-Int.natCast_add];have hN4:¬q=N4:=by omega
  refine Qp.of (CoI f N4 (N4+1) ((G4.kill q).set N4 ⟨38,1,zl (f.coef++[f.const]),false,none⟩)) (fun i=>f.coef.length+1-i) 0 ⟨by omega,_,rfl,rfl,rfl,by simp,rfl⟩ ?_;rintro i _ ⟨hi,env,rfl,g2,g29,g30,g31⟩;by_cases hiN:i<f.coef.length+1
  ·have hil:i<(f.coef++[f.const]).length:=by simp;omega
   have hz:=qaf (f.coef++[f.const]) i hil;have hm:=hall _ (List.getElem_mem hil);generalize (f.coef++[f.const])[i]=z at hz hm;obtain⟨hzl,hge⟩:=List.getElem?_eq_some_iff.1 hz;simp[-Int.natCast_add,-QX,g2,g29,g30,g31,hiN,hge,aload];refine Qc.pv (qgU z hm) (by simp[Qj]) rfl ?_;simp[-Int.natCast_add,g31,QH (show i+1<9223372036854775808 by omega)];exact⟨i+1,⟨by omega,_,rfl,by simp[g2],by simp[g29],by simp[g30],by simp⟩,by omega⟩
  ·have hn0:¬0=q:=by omega
   have hn1:¬0=N4:=by omega
   simp[-Int.natCast_add,g2,g29,g30,g31,hiN,hn0,hn1,hb0,aload,zs0,str,bs];exact .dat _ 9 rfl
def qtH(co:List Rat)(c0:Rat)(F:List Fct)(i:Nat)(st:St):Prop:=i≤F.length∧∃env H N,st=⟨32,env,H,N⟩∧1≤N∧env 2=.ptr 0 2 0 0∧env 17=.ro (fl F)∧env 18=.v (.int .i64 (F.length:Nat))∧env 19=.v (.int .i64 (i:Nat))∧H.b 0=some ⟨25,2,[[.ro (ql co),rs c0]],false,some 1⟩
theorem X6(co:List Rat)(c0:Rat)(F:List Fct)(h:Ln co c0)(hF:∀f∈F,FOk f co.length)(hm:F.length≤64):Qg prog 23 [ln co c0,.ro (fl F)] (.v (.int .i64 0)):=by
 refine Qg.body func23 ntmps23 ?_;have hn:=h.1;simp;refine Qc.pv (qiK co c0 h) (by simp[ql,Qn]) rfl ?_;simp[Ji,show ¬(64:Int)<(F.length:Int) by omega];refine Qp.of (qtH co c0 F) (fun i=>F.length-i) 0 ⟨by omega,_,_,_,rfl,by simp,by simp,by simp,by simp,by simp,by simp⟩ ?_;rintro i _ ⟨hi,env,H,N,rfl,hN,g2,g17,g18,g19,hb⟩;by_cases hiN:i<F.length
 ·have hg:=qaF F i hiN;have hfm:=hF _ (List.getElem_mem hiN);generalize F[i]=f at hg hfm;have hcon:=qbd f co.length hfm (by omega);unfold fcL at hg hcon;obtain⟨hzl,hge⟩:=List.getElem?_eq_some_iff.1 hg;simp[g2,g17,g18,g19,hiN,hge,hb,Ji,show ¬0=N by omega];refine Qc.pv hcon (by simp[zl,Qj]) rfl ?_;simp[g19,QH (show i+1<9223372036854775808 by omega)];exact⟨i+1,⟨by omega,_,_,_,rfl,by omega,by simp[g2],by simp[g17],by simp[g18],by simp,by simp[show ¬0=N by omega,hb]⟩,by omega⟩
 ·simp[g17,g18,g19,hiN,Ji];exact .dat _ 9 rfl
end
section
attribute [local simp] Qq Qh Qk Qr QR alen QK Zd qdi X9
structure RF where
 op:Int
 coef:List (List UInt8)
 const:List UInt8
 mod:List UInt8
def rfL(f:RF):List AV:=[.v (.int .i64 f.op),.ro (sl f.coef),str f.const,str f.mod]
theorem qlW(f:RF)(k:Nat):Qu (k+5) (.agg (rfL f))=true:=by simp[rfL,sl,str]
def rfs(l:List RF):List (List AV):=l.map rfL
theorem YT(l:List RF):(rfs l).length=l.length:=by simp[rfs]
theorem Xc(l:List RF)(i:Nat)(h:i<(rfs l).length):(rfs l)[i]=rfL (l[i]'(by simpa[rfs]using h)):=by simp[rfs]
theorem qfy(l:List RF):Qu 9 (.ro (rfs l))=true:=by simp[rfs,rfL,sl,str]
def CkN(s:List UInt8)(e:Int):Prop:=(e=3∧isI s=false)∨∃z,s=il z∧((e=0∧nd z.natAbs≤100)∨(e=10∧¬nd z.natAbs≤100))
theorem qqI(s:List UInt8):∃e,CkN s e:=by
 cases h:isI s with
 | false=>exact⟨3,.inl ⟨rfl,h⟩⟩
 | true =>
  obtain⟨z,rfl⟩:=Jx.1 h;by_cases hz:nd z.natAbs≤100
  ·exact⟨0,.inr ⟨z,rfl,.inl ⟨rfl,hz⟩⟩⟩
  ·exact⟨10,.inr ⟨z,rfl,.inr ⟨rfl,hz⟩⟩⟩
def qdU(E:List UInt8→Int)(f:RF)(n:Nat):Int:=if f.op=0∨f.op=1 then(if f.coef.length=n then(if fnz ((f.coef++[f.const]).map E)=0 then(if f.mod=[48]then 0 else 2)else fnz ((f.coef++[f.const]).map E))else 15)else 1
def CnI(E:List UInt8→Int)(f:RF)(n:Nat)(i:Nat)(st:St):Prop:=i≤n+1∧fnz ((f.coef++[f.const]).map E)=fnz (((f.coef++[f.const]).drop i).map E)∧∃env H,st=⟨49,env,H,1⟩∧H.b 0=some ⟨40,4,[rfL f],false,some 1⟩∧env 1=.v (.int .i64 (n:Nat))∧env 2=.ptr 0 4 0 0∧env 5=.v (.int .i64 (i:Nat))
theorem W3(E:List UInt8→Int)(hE:∀s,CkN s (E s))(f:RF)(n:Nat)(hn:n≤1000000)(hs:∀s∈f.coef++[f.const],s.length≤4096):Qg prog 21 [.agg (rfL f),.v (.int .i64 (n:Nat))] (.v (.int .i64 (qdU E f n))):=by
 refine Qg.body func21 ntmps21 ?_;by_cases hop:f.op=0∨f.op=1
 ·by_cases hl:f.coef.length=n
  ·subst hl;have hop':=hop;rcases hop' with ho|ho;all_goals
    simp[rfL,str,ho,undef,-Qa,-Qb];refine Qp.of (CnI E f f.coef.length) (fun i=>f.coef.length+1-i) 0 ⟨by omega,by simp,_,_,rfl,by simp[rfL,str,ho],by simp,by simp,by simp⟩ ?_;rintro i _ ⟨hi,hf,env,H,rfl,hb,g1,g2,g5⟩;have hb':=hb;unfold rfL at hb';have w1:IntKind.i64.wrap ((i:Int)+1)=((i+1:Nat):Int):=by rw[Ql (by omega) (by omega)];omega
    by_cases hiN:i≤f.coef.length
    ·have hil:i<(f.coef++[f.const]).length:=by simp;omega
     rw[List.drop_eq_getElem_cons hil,List.map_cons,fnz]at hf;have hck:=hE (f.coef++[f.const])[i];have hsl:=hs _ (List.getElem_mem hil);have hch:=KP (f.coef++[f.const])[i] hsl;obtain⟨s,hsE⟩:∃s,s=(f.coef++[f.const])[i]:=⟨_,rfl⟩;rw[←hsE]at hf hck hsl hch;have hiN':(i:Int)≤(f.coef.length:Int):=by omega
     have hcE:∀x,x≠0→fnz ((f.coef++[f.const]).map E)=x→qdU E f f.coef.length=x:=fun x h0 h=>by unfold qdU;rw[if_pos hop,if_pos rfl,h,if_neg h0]
     rcases Nat.lt_or_ge i f.coef.length with hlt|hge;focus
      have hsc:f.coef[i]=s:=by rw[hsE,List.getElem_append_left hlt]
      simp[g1,g2,g5,hiN',hb',hlt,hsc]
     rotate_left 1;focus
      have hie:i=f.coef.length:=by omega
      have hsc:f.const=s:=by subst hie;rw[hsE];simp
      have hlt:¬i<f.coef.length:=by omega
      simp[g1,g2,g5,hiN',hb',hlt,hsc]
     all_goals
      refine Qc.pu hch ?_;rcases hck with⟨he,hI⟩|⟨z,hz,⟨he,hn1⟩|⟨he,hn1⟩⟩
      ·rw[hI];rw[he,if_neg (by decide)]at hf;have e:=hcE 3 (by decide) hf;simp[e];exact .dat _ 9 rfl
      ·have hI:isI s=true:=by rw[hz];exact qcI z
       rw[hI]at hch;rw[hI];rw[he,if_pos rfl]at hf;have hdg:=Zk z (by omega);rw[show zs z=str s by rw[hz];rfl]at hdg;have hn1':¬(100:Int)<((nd z.natAbs:Nat):Int):=by omega
       simp[-Qa,-Qb];refine Qc.pu hch ?_;simp[-Qa,-Qb];refine Qc.pu hdg ?_;simp[-Int.natCast_add,g5,hn1',w1,-Qa,-Qb];exact⟨i+1,⟨by omega,hf,_,_,rfl,hb,by simp[g1],by simp[g2],by simp⟩,by omega⟩
      ·have hI:isI s=true:=by rw[hz];exact qcI z
       rw[hI]at hch;rw[hI];rw[he,if_neg (by decide)]at hf;have e:=hcE 10 (by decide) hf;have hdg:=Zk z (by rw[hz,Z3]at hsl;split at hsl<;>omega);rw[show zs z=str s by rw[hz];rfl]at hdg;have hn1':(100:Int)<((nd z.natAbs:Nat):Int):=by omega
       simp[-Qa,-Qb];refine Qc.pu hch ?_;simp[-Qa,-Qb];refine Qc.pu hdg ?_;simp[g5,hn1',e,-Qa,-Qb];exact .dat _ 9 rfl
    ·have hiN':¬(i:Int)≤(f.coef.length:Int):=by omega
     rw[List.drop_eq_nil_of_le (by simp;omega)]at hf;simp only[List.map_nil,fnz]at hf;by_cases hm:f.mod=[48]
     ·have e:qdU E f f.coef.length=0:=by unfold qdU;rw[if_pos hop,if_pos rfl,if_pos hf,if_pos hm]
      simp[g1,g2,g5,hiN',hb',str,hm,e,bs];exact .dat _ 9 rfl
     ·have e:qdU E f f.coef.length=2:=by unfold qdU;rw[if_pos hop,if_pos rfl,if_pos hf,if_neg hm]
      have hm':¬bs f.mod={ data:=#[48] }:=fun h=>hm ((Z8 (b:=[48])).1 h);simp[g1,g2,g5,hiN',hb',str,hm',e];exact .dat _ 9 rfl
  ·have e:qdU E f n=15:=by unfold qdU;rw[if_pos hop,if_neg hl]
   have hl':¬(f.coef.length:Int)=(n:Int):=by omega
   rw[e];rcases hop with ho|ho;all_goals
    simp[rfL,str,ho,undef,hl',-Qa,-Qb];exact .dat _ 9 rfl
 ·have e:qdU E f n=1:=by unfold qdU;rw[if_neg hop]
  have h0:¬f.op=0:=fun h=>hop (.inl h);have h1:¬f.op=1:=fun h=>hop (.inr h);rw[e];simp[rfL,str,h0,h1,undef,-Qa,-Qb];exact .dat _ 9 rfl
theorem qiG{E:List UInt8→Int}(hE:∀s,CkN s (E s)){l:List (List UInt8)}(h:∀s∈l,E s=0):∃zs':List Int,l=zs'.map il∧∀z∈zs',nd z.natAbs≤100:=by
 induction l with
 | nil=>exact⟨[],rfl,by simp⟩
 | cons s l ih =>
  obtain⟨co,h3,h4⟩:=ih fun x hx=>h x (by simp[hx]);have h0:=h s (by simp);rcases hE s with⟨he,_⟩|⟨z,hz,⟨_,hn⟩|⟨he,_⟩⟩
  ·omega
  ·exact⟨z::co,by rw[hz,h3];rfl,fun x hx=>by
    rcases List.mem_cons.1 hx with h|h
    ·rw[h];exact hn
    ·exact h4 x h⟩
  ·omega
theorem qrL(l:List Int):sl (l.map il)=zl l:=by rw[qnm];rfl
theorem qpu(l:List Rat):sl (l.map rt)=ql l:=by rw[qnm];rfl
theorem qh0{E:List UInt8→Int}(hE:∀s,CkN s (E s)){f:RF}{n:Nat}(h:qdU E f n=0):∃g:Fct,rfL f=fcL g∧FOk g n:=by
 unfold qdU at h;split at h
 ·rename_i hop;split at h
  ·rename_i hl;split at h
   ·rename_i hf;split at h
    ·rename_i hm;have hz:=qe4 hf;obtain⟨co,h1,h2⟩:=qiG hE (l:=f.coef) fun s hs=>hz _ (List.mem_map_of_mem (by simp[hs]));obtain⟨k,h3,h4⟩:=qiG hE (l:=[f.const]) fun s hs=>hz _ (List.mem_map_of_mem (by simp at hs;simp[hs]));cases k with
     | nil=>simp at h3
     | cons k t =>
      have h3':f.const=il k:=by simpa using congrArg List.head? h3
      refine⟨⟨f.op,co,k⟩,?_,⟨hop,?_,h2,h4 k (by simp)⟩⟩
      ·unfold rfL fcL;rw[h1,qrL,h3',hm,←zs0];rfl
      ·have:=congrArg List.length h1;simp at this;show co.length=n;omega
    ·omega
   ·rename_i hf;exact(hf h).elim
  ·omega
 ·omega
theorem qrB{fs:List RF}{n:Nat}(h:∀f∈fs,∃g:Fct,rfL f=fcL g∧FOk g n):∃F:List Fct,rfs fs=fl F∧F.length=fs.length∧∀g∈F,FOk g n:=by
 induction fs with
 | nil=>exact⟨[],rfl,rfl,by simp⟩
 | cons f fs ih =>
  obtain⟨g,h1,h2⟩:=h f (by simp);obtain⟨F,h3,h4,h5⟩:=ih fun x hx=>h x (by simp[hx]);exact⟨g::F,by unfold rfs fl at *;rw[List.map_cons,List.map_cons,h1,h3],by simp[h4],fun x hx=>by
   rcases List.mem_cons.1 hx with h|h
   ·rw[h];exact h2
   ·exact h5 x h⟩
def CkP(cs:List (List UInt8))(k:List UInt8)(fs:List RF)(r:AV):Prop:=∃e:Int,r=.v (.int .i64 e)∧(e=0→∃co c0 F,cs=co.map rt∧k=rt c0∧rfs fs=fl F∧F.length=fs.length∧Ln co c0∧(∀f∈F,FOk f co.length)∧F.length≤64)
theorem qax(cs:List (List UInt8))(k:List UInt8)(fs:List RF)(hs:∀s∈cs,s.length≤4000)(hk:k.length≤4000)(hl:cs.length≤1000000)(hf:∀f∈fs,∀s∈f.coef++[f.const],s.length≤4096)(hm:fs.length<9223372036854775808) :
  Y6 prog 7 [.agg [.ro (sl cs),str k],.ro (rfs fs)] (CkP cs k fs):=by
 obtain⟨e1,h3,h4⟩:=qf9 cs k hs hk hl;obtain⟨E,hE⟩:=Classical.axiomOfChoice qqI;refine⟨⟨_,_,func7,by kernel_rfl,rfl⟩,(Qv.data (Q:=CkP cs k fs) (Qv.QM func7 rfl (by simp[ntmps7]) (Qd _ _ _ ?_))).mono fun r H N h=>h.2.2⟩;have hend:∀(H:Qf) (e:Int),(e=0→∃co c0 F,cs=co.map rt∧k=rt c0∧rfs fs=fl F∧F.length=fs.length∧Ln co c0∧(∀f∈F,FOk f co.length)∧F.length≤64)→∃r',Frz H (fun _=>True) (fun _=>False) (.v (.int .i64 e)) r'∧CkP cs k fs r':=fun H e h=>⟨_,.v _,e,rfl,h⟩;have hsk:acells (.agg [.ro (sl cs),str k])=[.ro (sl cs),str k]:=rfl;simp;refine Qc.pv h3 (by simp[sl,str]) rfl ?_;by_cases h0:e1=0
 ·obtain⟨co,c0,q1,q2,q3⟩:=h4 h0;by_cases h64:64<fs.length
  ·have h64':(64:Int)<(fs.length:Int):=by omega
   simp[h0,YT,h64'];exact hend _ _ fun h=>by omega
  ·have h64':¬(64:Int)<(fs.length:Int):=by omega
   simp[h0,YT,h64'];refine Qp.of (fun(i:Nat) st=>i≤fs.length∧(∀f∈fs.take i,qdU E f cs.length=0)∧∃env H,st=⟨33,env,H,1⟩∧H.b 0=some ⟨25,2,[[.ro (sl cs),str k]],false,some 1⟩∧env 1=.ro (rfs fs)∧env 2=.ptr 0 2 0 0∧env 6=.v (.int .i64 (i:Nat))) (fun i=>fs.length-i) 0 ⟨by omega,by simp,_,_,rfl,by simp,by simp,by simp,by simp⟩ ?_;rintro i _ ⟨hi,hall,env,H,rfl,hb,g1,g2,g6⟩;have w1:IntKind.i64.wrap ((i:Int)+1)=((i+1:Nat):Int):=by rw[Ql (by omega) (by omega)];omega
   by_cases hiN:i<fs.length
   ·have hge:=Xc fs i (by rw[YT];exact hiN);have hcon:=W3 E hE fs[i] cs.length hl (hf _ (List.getElem_mem hiN));have hrl:(rfL fs[i]).length=4:=rfl;have htk:=List.take_succ_eq_append_getElem hiN;generalize fs[i]=f at hge hcon hrl htk;have hda:[AV.agg (rfL f),AV.v (.int .i64 (cs.length:Nat))].all (Qu 9)=true:=by rw[List.all_cons,qlW];rfl
    simp[g1,g6,hiN,YT];refine Qm.walk (fun _=>false) mixed ?_;simp[Q0,g1,g2,g6,hiN,YT,hge,hrl,hb,aload];refine QF.pure (k:=9) hcon ?_ ?_ ?_
    ·exact hda
    ·rfl
    by_cases hc0:qdU E f cs.length=0
    ·simp[-Int.natCast_add,g6,hc0,w1];refine⟨Zg.ofM (by kernel_rfl),i+1,⟨by omega,?_,_,_,⟨rfl,rfl⟩,hb,by simp[g1],by simp[g2],by simp⟩,by omega⟩;intro x hx;rw[htk]at hx;rcases List.mem_append.1 hx with h|h
     ·exact hall x h
     ·simp at h;rw[h];exact hc0
    ·simp[g6,hc0];exact⟨Zg.ofM (by kernel_rfl),hend _ _ fun h=>(hc0 h).elim⟩
   ·rw[List.take_of_length_le (by omega)]at hall;simp[g1,g6,hiN,YT];refine hend _ _ fun _=>?_;obtain⟨F,f1,f2,f3⟩:=qrB (n:=cs.length) fun f hf=>qh0 hE (hall f hf);exact⟨co,c0,F,q1,q2,f1,f2,q3,by have:=congrArg List.length q1;simp at this;rw[←this];exact f3,by omega⟩
 ·simp[h0];exact hend _ _ fun h=>(h0 h).elim
theorem Y2(m:Nat)(z:Int)(hz:nd z.natAbs≤1000000):Qg prog 22 [.v (.int .i64 (m:Nat)),zs z] (.v (.int .i64 (max m (nd z.natAbs):Nat))):=by
 refine Qg.body func22 ntmps22 ?_;have hmx:amax false [.v (.int .i64 (m:Nat)),.v (.int .i64 (nd z.natAbs:Nat))]=some (.v (.int .i64 (max m (nd z.natAbs):Nat))):=by simp only[amax,if_true,Bool.false_eq_true,if_false];congr 3;split<;>omega
 simp;refine Qc.pu (Zk z (by omega)) ?_;simp[hmx];exact .dat _ 9 rfl
end
section
attribute [local simp] Qq Qh Qk Qr QR alen QK Zd qdi X9 QU QO Q4 QX Ji YT Xc QP
def Va(r:AV):Prop:=∃b:Bool,r=.v (.bool b)
theorem Va.data{r:AV}(h:Va r):Qu 9 r=true:=by obtain⟨b,rfl⟩:=h;rfl
theorem Va.frz{H:Qf}{F G:Nat→Prop}(b:Bool):∃r',Frz H F G (.v (.bool b)) r'∧Va r':=⟨_,.v _,b,rfl⟩
def qlA(co:List Rat)(c0:Rat):Blk:=⟨25,2,[[.ro (ql co),rs c0]],false,some 1⟩
def LgJ(co:List Rat)(c0:Rat)(F:List Fct)(env:Nat→AV)(H:Qf):Prop:=H.b 0=some (qlA co c0)∧env 1=.ro (fl F)∧env 2=.ptr 0 2 0 0∧∃m:Nat,env 5=.v (.int .i64 (m:Nat))∧m≤4000
def Lg1(co:List Rat)(c0:Rat)(F:List Fct)(i:Nat)(st:St):Prop:=i≤co.length∧∃env H,st=⟨79,env,H,1⟩∧LgJ co c0 F env H∧env 6=.v (.int .i64 (i:Nat))
def Lg2(co:List Rat)(c0:Rat)(F:List Fct)(i:Nat)(st:St):Prop:=i≤F.length∧∃env H,st=⟨79,env,H,1⟩∧LgJ co c0 F env H∧env 7=.v (.int .i64 (i:Nat))
def Lg3(co:List Rat)(c0:Rat)(F:List Fct)(i k:Nat)(j:Nat)(st:St):Prop:=j≤k∧∃env H,st=⟨79,env,H,1⟩∧LgJ co c0 F env H∧env 7=.v (.int .i64 (i:Nat))∧env 8=.v (.int .i64 (j:Nat))
theorem qfg(co:List Rat)(c0:Rat)(F:List Fct)(hq:∀q∈c0::co,szq q≤4000)(hF:∀f∈F,nd f.const.natAbs≤4000∧(∀z∈f.coef,nd z.natAbs≤4000)∧f.coef.length≤1000)(hn:co.length≤1000)(hm:F.length≤1000) :
  Y6 prog 8 [ln co c0,.ro (fl F)] Va:=by
 refine⟨⟨_,_,func8,by kernel_rfl,rfl⟩,(Qv.data (Q:=Va) (Qv.QM func8 rfl (by simp[ntmps8]) (Qd _ _ _ ?_))).mono fun r H N h=>h.2.2⟩;have hlen:∀q:Rat,szq q≤4000→(rt q).length≤1000000:=fun q h=>by have:=qfA q;omega
 have hnum:∀q:Rat,szq q≤4000→nd q.num.natAbs≤4000∧nd ((q.den:Nat):Int).natAbs≤4000:=fun q h=>by unfold szq at h;rw[Int.natAbs_natCast];omega
 have h0:=hq c0 (by simp);obtain⟨n1,n2⟩:=hnum c0 h0;have g1:=Y2 1 c0.num (by omega);have g2:=Y2 (max 1 (nd c0.num.natAbs)) (c0.den:Nat) (by omega);obtain⟨m1,hm1⟩:∃m,m=max 1 (nd c0.num.natAbs):=⟨_,rfl⟩;rw[←hm1]at g1 g2;obtain⟨m2,hm2⟩:∃m,m=max m1 (nd ((c0.den:Nat):Int).natAbs):=⟨_,rfl⟩;rw[←hm2]at g2;simp only[Int.natCast_one]at g1;simp;refine Qm.walk (fun _=>false) mixed ?_;simp[Q0];refine QF.pure (k:=9) (V0 c0 (hlen _ h0)) ?_ ?_ ?_
 ·simp[Qn]
 ·rfl
 simp;refine QF.pure (k:=9) g1 ?_ ?_ ?_
 ·rfl
 ·rfl
 simp[Q0];refine QF.pure (k:=9) (Vr c0 (hlen _ h0)) ?_ ?_ ?_
 ·simp[Qn]
 ·rfl
 simp;refine QF.pure (k:=9) g2 ?_ ?_ ?_
 ·rfl
 ·rfl
 simp;refine⟨Zg.ofM (by kernel_rfl),?_⟩;refine Qp.of (Lg1 co c0 F) (fun i=>co.length-i) 0 ⟨by omega,_,_,rfl,⟨by simp[qlA],by simp,by simp,m2,by simp,by omega⟩,by simp⟩ ?_;clear g1 g2 hm1 hm2 n1 n2;rintro i _ ⟨hi,env,H,rfl,⟨hb,e1,e2,m,e5,hmm⟩,e6⟩;have hb':=hb;unfold qlA at hb';have w1:IntKind.i64.wrap ((i:Int)+1)=((i+1:Nat):Int):=by rw[Ql (by omega) (by omega)];omega
 by_cases hiN:i<co.length
 ·have hqi:=hq co[i] (by simp);have hge:=Q4 co i (by rw[QU];exact hiN);generalize co[i]=q at hqi hge;obtain⟨n1,n2⟩:=hnum q hqi;have g1:=Y2 m q.num (by omega);have g2:=Y2 (max m (nd q.num.natAbs)) (q.den:Nat) (by omega);obtain⟨m1,hm1⟩:∃x,x=max m (nd q.num.natAbs):=⟨_,rfl⟩;rw[←hm1]at g1 g2;obtain⟨m2,hm2⟩:∃x,x=max m1 (nd ((q.den:Nat):Int).natAbs):=⟨_,rfl⟩;rw[←hm2]at g2;simp[e2,e6,hiN,hb'];refine Qm.walk (fun _=>false) mixed ?_;simp[-Q4,Q0,e2,e5,e6,hiN,hb',hge,aload];refine QF.pure (k:=9) (V0 q (hlen _ hqi)) ?_ ?_ ?_
  ·simp[Qn]
  ·rfl
  simp[-Q4];refine QF.pure (k:=9) g1 ?_ ?_ ?_
  ·rfl
  ·rfl
  simp[-Q4,Q0,e2,e6,hiN,hb',hge,aload];refine QF.pure (k:=9) (Vr q (hlen _ hqi)) ?_ ?_ ?_
  ·simp[Qn]
  ·rfl
  simp[-Q4];refine QF.pure (k:=9) g2 ?_ ?_ ?_
  ·rfl
  ·rfl
  simp[-Int.natCast_add,-Q4,e6,w1];exact⟨Zg.ofM (by kernel_rfl),i+1,⟨by omega,_,_,rfl,⟨hb,by simp[e1],by simp[e2],m2,by simp,by omega⟩,by simp⟩,by omega⟩
 ·simp[e2,e6,hiN,hb'];refine Qp.of (Lg2 co c0 F) (fun i=>F.length-i) 0 ⟨by omega,_,_,rfl,⟨hb,by simp[e1],by simp[e2],m,by simp[e5],hmm⟩,by simp⟩ ?_;clear e1 e2 e5 e6 hmm hb hb' w1 hiN hi;rintro i _ ⟨hi,env,H,rfl,⟨hb,e1,e2,m,e5,hmm⟩,e7⟩;have hb':=hb;unfold qlA at hb';have w1:IntKind.i64.wrap ((i:Int)+1)=((i+1:Nat):Int):=by rw[Ql (by omega) (by omega)];omega
  by_cases hiN:i<F.length
  ·obtain⟨f1,f2,f3⟩:=hF F[i] (List.getElem_mem hiN);have hg:=qaF F i hiN;obtain⟨hzl,hge⟩:=List.getElem?_eq_some_iff.1 hg;generalize F[i]=f at f1 f2 f3 hge;unfold fcL at hge;have g1:=Y2 m f.const (by omega);obtain⟨m1,hm1⟩:∃x,x=max m (nd f.const.natAbs):=⟨_,rfl⟩;rw[←hm1]at g1;simp[e1,e2,e5,e7,hiN,hge,aload];refine Qc.pu g1 ?_;simp;refine Qp.of (Lg3 co c0 F i f.coef.length) (fun j=>f.coef.length-j) 0 ⟨by omega,_,_,rfl,⟨hb,by simp[e1],by simp[e2],m1,by simp,by omega⟩,by simp[e7],by simp⟩ ?_;clear e1 e2 e5 e7 hmm hb hb' g1 hm1;rintro j _ ⟨hj,env,H,rfl,⟨hb,e1,e2,m,e5,hmm⟩,e7,e8⟩;have w2:IntKind.i64.wrap ((j:Int)+1)=((j+1:Nat):Int):=by rw[Ql (by omega) (by omega)];omega
   by_cases hjN:j<f.coef.length
   ·have fz:=f2 f.coef[j] (List.getElem_mem hjN);have hgz:=QX f.coef j (by rw[QO];exact hjN);generalize f.coef[j]=z at fz hgz;have g1:=Y2 m z (by omega);obtain⟨m1,hm1⟩:∃x,x=max m (nd z.natAbs):=⟨_,rfl⟩;rw[←hm1]at g1;simp[-QX,e1,e5,e7,e8,hiN,hge,hjN,hgz,aload];refine Qc.pu g1 ?_;simp[-Int.natCast_add,e8,w2];exact⟨j+1,⟨by omega,_,_,rfl,⟨hb,by simp[e1],by simp[e2],m1,by simp,by omega⟩,by simp[e7],by simp⟩,by omega⟩
   ·simp[-Int.natCast_add,e1,e5,e7,e8,hiN,hge,hjN,aload,w1];exact⟨i+1,⟨by omega,_,_,rfl,⟨hb,by simp[e1],by simp[e2],m,by simp[e5],hmm⟩,by simp⟩,by omega⟩
  ·have w3:IntKind.i64.wrap ((co.length:Int)+1)=((co.length+1:Nat):Int):=by rw[Ql (by omega) (by omega)];omega
   simp[-Int.natCast_add,e1,e2,e5,e7,hiN,hb',w3];exact Va.frz _
end
section
attribute [local simp] Qq Qh Qk Qr QR alen QK Zd qdi X9 YT
theorem qkM(fs:List RF)(hm:fs.length<9223372036854775808)(hc:∀f∈fs,f.coef.length<9223372036854775808) :
  Y6 prog 26 [.ro (rfs fs)] Va:=by
 refine⟨⟨_,_,func26,by kernel_rfl,rfl⟩,(Qv.data (Q:=Va) (Qv.QM func26 rfl (by simp[ntmps26]) (Qd _ _ _ ?_))).mono fun r H N h=>h.2.2⟩;by_cases h4:(fs.length:Int)≤4
 ·simp[h4,undef,-Qa,-Qb];exact Va.frz _
 by_cases h64:(64:Int)<(fs.length:Int)
 ·simp[h4,h64,-Qa,-Qb];exact Va.frz _
 simp[h4,h64,-Qa,-Qb];refine Qp.of (fun(i:Nat) st=>i≤fs.length∧∃env,st=⟨55,env,QQ,0⟩∧env 0=.ro (rfs fs)∧env 3=.v (.int .i64 (i:Nat))) (fun i=>fs.length-i) 0 ⟨by omega,_,rfl,by simp,by simp⟩ ?_;rintro i _ ⟨hi,env,rfl,g0,g3⟩;have w1:IntKind.i64.wrap ((i:Int)+1)=((i+1:Nat):Int):=by rw[Ql (by omega) (by omega)];omega
 by_cases hiN:i<fs.length
 ·have hge:=Xc fs i (by rw[YT];exact hiN);have hcf:=hc fs[i] (List.getElem_mem hiN);generalize fs[i]=f at hge hcf;unfold rfL at hge;by_cases h1:(26:Int)<(f.const.length:Int)
  ·simp[g0,g3,hiN,hge,aload,str,Num.QB,h1,undef,-Qa,-Qb];exact Va.frz _
  by_cases h2:(26:Int)<(f.mod.length:Int)
  ·simp[g0,g3,hiN,hge,aload,str,Num.QB,h1,h2,-Qa,-Qb];exact Va.frz _
  simp[g0,g3,hiN,hge,aload,str,Num.QB,h1,h2,-Qa,-Qb];refine Qp.of (fun(j:Nat) st=>j≤f.coef.length∧∃env,st=⟨55,env,QQ,0⟩∧env 0=.ro (rfs fs)∧env 3=.v (.int .i64 (i:Nat))∧env 4=.v (.int .i64 (j:Nat))) (fun j=>f.coef.length-j) 0 ⟨by omega,_,rfl,by simp[g0],by simp[g3],by simp⟩ ?_;clear g0 g3;rintro j _ ⟨hj,env,rfl,g0,g3,g4⟩;have w2:j<f.coef.length→IntKind.i64.wrap ((j:Int)+1)=((j+1:Nat):Int):=fun hj'=>by rw[Ql (by omega) (by omega)];omega
  by_cases hjN:j<f.coef.length
  ·by_cases h3:(26:Int)<((f.coef[j]).length:Int)
   ·have h3':26<(f.coef[j]).length:=by omega
    simp[g0,g3,g4,hiN,hge,hjN,aload,str,Num.QB,h3];exact Va.frz _
   ·have h3':¬26<(f.coef[j]).length:=by omega
    simp[-Int.natCast_add,g0,g3,g4,hiN,hge,hjN,aload,str,Num.QB,h3,w2 hjN];exact⟨j+1,⟨by omega,rfl⟩,by omega⟩
  ·simp[-Int.natCast_add,g0,g3,g4,hiN,hge,hjN,aload,w1];exact⟨i+1,⟨by omega,rfl⟩,by omega⟩
 ·simp[g0,g3,hiN];exact Va.frz _
def qpX(cs:List (List UInt8))(k:List UInt8)(fs:List RF)(r:AV):Prop:=∃b:Bool,r=.v (.bool b)∧(b=true→cs.length≤40∧(cs.length≤3∨32<cs.length)∧k.length≤450∧(∀s∈cs,s.length≤450)∧fs.length≤70∧∀f∈fs,∀s∈f.coef++[f.const],s.length≤210)
theorem qpX.data{cs:List (List UInt8)}{k:List UInt8}{fs:List RF}{r:AV}(h:qpX cs k fs r):Qu 9 r=true:=by obtain⟨b,rfl,_⟩:=h;rfl
def okF(f:RF):Prop:=∀s∈f.coef++[f.const],s.length≤210
def Fw1(cs:List (List UInt8))(k:List UInt8)(fs:List RF)(i:Nat)(st:St):Prop:=i≤fs.length∧(∀f∈fs.take i,okF f)∧∃env H,st=⟨90,env,H,1⟩∧env 1=.ro (rfs fs)∧env 5=.v (.int .i64 (i:Nat))
def Fw2(fs:List RF)(f:RF)(i j:Nat)(st:St):Prop:=j≤f.coef.length∧(∀s∈f.coef.take j,s.length≤210)∧∃env H,st=⟨90,env,H,1⟩∧env 1=.ro (rfs fs)∧env 5=.v (.int .i64 (i:Nat))∧env 6=.v (.int .i64 (j:Nat))
theorem qll(cs:List (List UInt8))(k:List UInt8)(fs:List RF)(hl:cs.length<9223372036854775808)(hm:fs.length<9223372036854775808)(hc:∀f∈fs,f.coef.length<9223372036854775808) :
  Y6 prog 11 [.agg [.ro (sl cs),str k],.ro (rfs fs)] (qpX cs k fs):=by
 refine⟨⟨_,_,func11,by kernel_rfl,rfl⟩,(Qv.data (Q:=qpX cs k fs) (Qv.QM func11 rfl (by simp[ntmps11]) (Qd _ _ _ ?_))).mono fun r H N h=>h.2.2⟩;have hF:∀H:Qf,∃r',Frz H (fun _=>True) (fun _=>False) (.v (.bool false)) r'∧qpX cs k fs r':=fun H=>⟨_,.v _,false,rfl,fun h=>by cases h⟩;have hfl:=qlk cs k hl;simp[-Qa,-Qb];refine(qkM fs hm hc).call (k:=9) (by rw[List.all_cons,qfy];rfl) (fun r h=>h.data) ?_;rintro r ⟨b,rfl⟩;cases b with
 | false =>simp[undef,-Qa,-Qb];exact hF _
 | true =>
  have hn:(¬(3:Int)<(cs.length:Int)∧¬(40:Int)<(cs.length:Int))∨((3:Int)<(cs.length:Int)∧(cs.length:Int)≤32)∨((3:Int)<(cs.length:Int)∧¬(cs.length:Int)≤32∧¬(40:Int)<(cs.length:Int))∨((3:Int)<(cs.length:Int)∧¬(cs.length:Int)≤32∧(40:Int)<(cs.length:Int)):=by omega
  have hm4:(¬(7:Int)<(fs.length:Int)∧¬(70:Int)<(fs.length:Int))∨((7:Int)<(fs.length:Int)∧(fs.length:Int)≤64)∨((7:Int)<(fs.length:Int)∧¬(fs.length:Int)≤64∧¬(70:Int)<(fs.length:Int))∨((7:Int)<(fs.length:Int)∧¬(fs.length:Int)≤64∧(70:Int)<(fs.length:Int)):=by omega
  have hda:[AV.agg [.ro (sl cs),str k]].all (Qu 9)=true:=by simp[sl,str]
  rcases hn with h|h|h|h<;>rcases hm4 with g|g|g|g;all_goals
   simp[undef,h,g,-Qa,-Qb];first
    | exact hF _
    | skip
  all_goals
   refine Qc.pv hfl hda rfl ?_;cases he:qii cs k with
   | false =>simp[-Qa,-Qb];exact hF _
   | true =>
    have he2:cs.length≤40∧k.length≤450∧∀s∈cs,s.length≤450:=by unfold qii at he;simp only[Bool.and_eq_true,decide_eq_true_eq,List.all_eq_true]at he;exact he
    have hT:(∀f∈fs,okF f)→∀H:Qf,∃r',Frz H (fun _=>True) (fun _=>False) (.v (.bool true)) r'∧qpX cs k fs r':=fun ho H=>⟨_,.v _,true,rfl,fun _=>⟨he2.1,by omega,he2.2.1,he2.2.2,by omega,ho⟩⟩;simp[-Qa,-Qb];refine Qp.of (Fw1 cs k fs) (fun i=>fs.length-i) 0 ⟨by omega,by simp,_,_,rfl,by simp,by simp⟩ ?_;rintro i _ ⟨hi,hall,env,H,rfl,g0,g3⟩;have w1:IntKind.i64.wrap ((i:Int)+1)=((i+1:Nat):Int):=by rw[Ql (by omega) (by omega)];omega
    by_cases hiN:i<fs.length
    ·have hge:=Xc fs i (by rw[YT];exact hiN);have hcf:=hc fs[i] (List.getElem_mem hiN);have htk:=List.take_succ_eq_append_getElem hiN;generalize fs[i]=f at hge hcf htk;unfold rfL at hge;by_cases h1:(40:Int)<(f.coef.length:Int)
     ·simp[g0,g3,hiN,hge,aload,str,h1,undef,-Qa,-Qb];exact hF _
     by_cases h2:(210:Int)<(f.const.length:Int)
     ·simp[g0,g3,hiN,hge,aload,str,Num.QB,h1,h2,-Qa,-Qb];exact hF _
     simp[g0,g3,hiN,hge,aload,str,Num.QB,h1,h2,-Qa,-Qb];refine Qp.of (Fw2 fs f i) (fun j=>f.coef.length-j) 0 ⟨by omega,by simp,_,_,rfl,by simp[g0],by simp[g3],by simp⟩ ?_;clear g0 g3;rintro j _ ⟨hj,hok,env,H,rfl,g0,g3,g4⟩;have w2:j<f.coef.length→IntKind.i64.wrap ((j:Int)+1)=((j+1:Nat):Int):=fun hj'=>by rw[Ql (by omega) (by omega)];omega
     by_cases hjN:j<f.coef.length
     ·have htj:=List.take_succ_eq_append_getElem hjN;by_cases h3:(210:Int)<((f.coef[j]).length:Int)
      ·have h3':210<(f.coef[j]).length:=by omega
       simp[g0,g3,g4,hiN,hge,hjN,aload,str,Num.QB,h3];exact hF _
      ·have h3':¬210<(f.coef[j]).length:=by omega
       simp[-Int.natCast_add,g0,g3,g4,hiN,hge,hjN,aload,str,Num.QB,h3,w2 hjN];refine⟨j+1,⟨by omega,fun s hs=>?_,_,_,rfl,by simp[g0],by simp[g3],by simp⟩,by omega⟩;rw[htj]at hs;rcases List.mem_append.1 hs with h|h
       ·exact hok s h
       ·simp at h;rw[h];omega
     ·rw[List.take_of_length_le (by omega)]at hok;simp[-Int.natCast_add,g0,g3,g4,hiN,hge,hjN,aload,w1];refine⟨i+1,⟨by omega,fun x hx=>?_,_,_,rfl,by simp[g0],by simp⟩,by omega⟩;rw[htk]at hx;rcases List.mem_append.1 hx with h|h
      ·exact hall x h
      ·simp at h;rw[h];intro s hs;rcases List.mem_append.1 hs with h|h
       ·exact hok s h
       ·simp at h;rw[h];omega
    ·rw[List.take_of_length_le (by omega)]at hall;simp[g0,g3,hiN];exact hT hall _
end
section
attribute [local simp] Qq Qh Qk Qr QR alen QK Zd qdi X9 YT QP
def RpR(cs:List (List UInt8))(k:List UInt8)(fs:List RF)(r:AV):Prop:=∃b:Bool,r=.v (.bool b)∧(b=true→∃co c0 F,cs=co.map rt∧k=rt c0∧rfs fs=fl F∧Ln co c0∧(∀f∈F,FOk f co.length)∧co.length≤3∧F.length≤7)
theorem RpR.data{cs:List (List UInt8)}{k:List UInt8}{fs:List RF}{r:AV}(h:RpR cs k fs r):Qu 9 r=true:=by obtain⟨b,rfl,_⟩:=h;rfl
theorem CkP.data{cs:List (List UInt8)}{k:List UInt8}{fs:List RF}{r:AV}(h:CkP cs k fs r):Qu 9 r=true:=by obtain⟨b,rfl,_⟩:=h;rfl
theorem qbK(cs:List (List UInt8))(k:List UInt8)(fs:List RF):[AV.agg [.ro (sl cs),str k],.ro (rfs fs)].all (Qu 9)=true:=by simp[sl,str,rfs,rfL]
theorem qbN(cs:List (List UInt8))(k:List UInt8)(fs:List RF)(hl:cs.length<9223372036854775808)(hm:fs.length<9223372036854775808)(hc:∀f∈fs,f.coef.length<9223372036854775808) :
  Y6 prog 4 [.agg [.ro (sl cs),str k],.ro (rfs fs)] (RpR cs k fs):=by
 refine⟨⟨_,_,func4,by kernel_rfl,rfl⟩,(Qv.data (Q:=RpR cs k fs) (Qv.QM func4 rfl (by simp[ntmps4]) (Qd _ _ _ ?_))).mono fun r H N h=>h.2.2⟩;have hF:∀H:Qf,∃r',Frz H (fun _=>True) (fun _=>False) (.v (.bool false)) r'∧RpR cs k fs r':=fun H=>⟨_,.v _,false,rfl,fun h=>by cases h⟩;simp[-Qa,-Qb];refine(qll cs k fs hl hm hc).call (k:=9) (qbK _ _ _) (fun r h=>h.data) ?_;rintro r ⟨b,rfl,hb⟩;cases b with
 | false =>simp[undef,-Qa,-Qb];exact hF _
 | true =>
  obtain⟨b1,b2,b3,b4,b5,b6⟩:=hb rfl;simp[undef,-Qa,-Qb];refine(qax cs k fs (fun s hs=>Nat.le_trans (b4 s hs) (by omega)) (by omega) (by omega) (fun f hf s hs=>Nat.le_trans (b6 f hf s hs) (by omega)) hm).call (k:=9) (qbK _ _ _) (fun r h=>h.data) ?_;rintro r ⟨e,rfl,he⟩;by_cases h0:e=0
  ·obtain⟨co,c0,F,q1,q2,q3,q4,q5,q6,q7⟩:=he h0;have e1:sl cs=ql co:=by rw[q1,qpu]
   have e2:str k=rs c0:=by rw[q2];rfl
   have hcl:cs.length=co.length:=by rw[q1];simp
   have h32:=q5.1;have hL:=qfg co c0 F (fun q hq=>by
    rcases List.mem_cons.1 hq with h|h
    ·rw[h];have:=q5.2.2;omega
    ·have:=q5.2.1 q h;omega) (fun f hf=>⟨by have:=(q6 f hf).k;omega,fun z hz=>by have:=(q6 f hf).c z hz;omega,by have:=(q6 f hf).l;omega⟩) (by omega) (by omega)
   have hda:[ln co c0,.ro (fl F)].all (Qu 9)=true:=by simp[ln,fl,fcL,zl,ql,Qn,Qj]
   rw[show ln co c0=.agg [.ro (sl cs),str k] by rw[e1,e2];rfl,←q3]at hL hda;simp[h0,-Qa,-Qb];refine hL.call (k:=9) hda (fun r h=>h.data) ?_;rintro r ⟨b,rfl⟩;cases b with
   | true =>simp[undef,-Qa,-Qb];exact hF _
   | false =>
    by_cases h7:(fs.length:Int)≤7
    ·simp[h7,-Qa,-Qb];exact⟨_,.v _,true,rfl,fun _=>⟨co,c0,F,q1,q2,q3,q5,q6,by omega,by omega⟩⟩
    ·simp[h7,-Qa,-Qb];exact hF _
  ·simp[h0,undef,-Qa,-Qb];exact hF _
theorem qkI(q:Nat)(b:List UInt8):abuild prog 40 [(1,.ref q 1 0 1 none),(2,str b),(3,.v (.string { data:=#[48] }))]=some (.agg [.v (.int .i64 0),.ref q 1 0 1 none,str b,.v (.string { data:=#[48] })]):=by unfold str;kernel_rfl
theorem qn2(a:Int):Qz prog 37 1 [(0,zs a)]=some (38,[[zs a]]):=qhO a
theorem Wy(a b:Int):Qg prog 12 [zs a,zs b] (.agg (fcL ⟨0,[a],b⟩)):=by
 refine Qg.body func12 ntmps12 ?_;have hb:=qkI 1 (il b);rw[show str (il b)=zs b from rfl]at hb;simp[Qs,qn2,hb];have h1:∀H:Qf,H.b 1=some ⟨38,1,[[zs a]],false,some 1⟩→Frz H (fun _=>True) (fun _=>False) (.ref 1 1 0 1 none) (.ro (zl [a])):=fun H h=>by have:=Frz.KB (H:=H) (F:=fun _=>True) (G:=fun _=>False) (id:=1) (sz:=1) (off:=0) (len:=1) (mx:=none) trivial h rfl (by simp) (fun e he c hc=>by simp at he;subst he;simp at hc;subst hc;exact .dat _ 9 (by simp[Qj]));simpa[zl]using this
 have key:∀H:Qf,H.b 1=some ⟨38,1,[[zs a]],false,some 1⟩→Frz H (fun _=>True) (fun _=>False) (.agg [.v (.int .i64 0),.ref 1 1 0 1 none,zs b,.v (.string { data:=#[48] })]) (.agg (fcL ⟨0,[a],b⟩)):=fun H h=>by obtain⟨g1,g2,g3⟩:=(show qhe H (fun _=>True) (fun _=>False) [.v (.int .i64 0),.ref 1 1 0 1 none,zs b,.v (.string { data:=#[48] })] [.v (.int .i64 0),.ro (zl [a]),zs b,zs 0] from .cons (.v _) (.cons (h1 H h) (.cons (.dat _ 9 (by simp[Qj])) (.cons (by rw[zs0];exact .v _) .nil)))).get;exact .agg _ _ _ g1 g2 g3
 exact key _ (by simp)
end
section
attribute [local simp] Qq Qh Qk Qr QR QU QO Q4 QX QP QK Zd alen
theorem qrx{H:Qf}{F G:Nat→Prop}{l:List Rat}:∀e∈ql l,∀c∈e,Frz H F G c c:=fun e he c hc=>by obtain⟨z,_,rfl⟩:=List.mem_map.1 he;simp at hc;subst hc;exact .v _
theorem qiO{H:Qf}{G:Nat→Prop}{x:AV}{l:List Rat}{c:Rat}(h:Frz H (fun _=>True) G x (.ro (ql l))):Frz H (fun _=>True) G (.agg [x,rs c]) (ln l c):=by obtain⟨g1,g2,g3⟩:=(show qhe H (fun _=>True) G [x,rs c] [.ro (ql l),rs c] from .cons h (.cons (.v _) .nil)).get;exact .agg _ _ _ g1 g2 g3
theorem qkG(q m:Nat):abuild prog 25 [(0,.ref q 1 0 m none),(1,.v (.string { data:=#[48] }))]=some (.agg [.ref q 1 0 m none,rs 0]):=by rw[rs0];kernel_rfl
theorem qil(n:Nat)(hn:n≤1000):Qg prog 29 [.v (.int .i64 (n:Nat))] (ln (List.replicate n 0) 0):=by
 refine Qg.body func29 ntmps29 ?_;simp;refine(Kg n (by omega)).mono ?_;rintro r H1 N1 ⟨q,cap,t,rfl,q1,q2,q3,hE⟩;have hb:=hE.2.2 0 (by omega);clear hE;simp at hb;have hq0:¬q=0:=by omega
 simp[qkG,hb];refine qiO (SlQ.frz (.inr ⟨q,cap,t,by simp,?_⟩));simp[hq0,q3]
theorem qsD(q:Rat):qdx prog 22 1 [(0,rs q)]=some (.ro [[rs q]]):=by unfold rs str;kernel_rfl
theorem qeT(q:Rat):abuild prog 25 [(1,rs q)]=some (.agg [.v (.slice none 0 0),rs q]):=by unfold rs str;kernel_rfl
theorem qtt:ZQ prog 23=true:=by kernel_rfl
theorem qsd:prog.cellsOf 23=1:=by kernel_rfl
theorem qtu:prog.underlying 22=some (.slice 23):=by kernel_rfl
theorem qtv:zlen prog 23=true:=by kernel_rfl
theorem qts:prog.bytesOf 23=16:=by kernel_rfl
theorem qsM{H:Qf}{lo N:Nat}{x:AV}{l:List Rat}(ho:Yc prog 23 H lo N x (ql l))(hlo:lo≤N)(v:Rat)(hl:l.length≤1000000):∃r H2,(∀n env,aappend prog ⟨n,env,H,N⟩ 22 x (.ro [[rs v]])=some (r,⟨n,env,H2,N+1⟩))∧Yc prog 23 H2 lo (N+1) r (ql (l++[v]))∧∀id,id<lo→H2 id=H id:=by obtain⟨r,H2,h1,h2,h3⟩:=Yc.qrv (t:=22) (c:=[rs v]) ho hlo qtu qtt qtv qsd (by omega) rfl rfl (by rw[QU,qts];omega) (by rw[QU];simp only[maxLen];omega);exact⟨r,H2,h1,by simpa[ql]using h2,h3⟩
def qtz(co:List Rat)(c0:Rat)(i:Nat)(st:St):Prop:=i≤co.length∧∃env H N x,st=⟨26,env,H,N⟩∧3≤N∧env 2=.ptr 1 2 0 0∧env 3=.ptr 2 2 0 0∧env 11=.ro (ql co)∧env 12=.v (.int .i64 (co.length:Nat))∧env 13=.v (.int .i64 (i:Nat))∧H.b 1=some ⟨25,2,[[.v (.slice none 0 0),.v (.string ByteArray.empty)]],false,some 1⟩ ∧
 H.b 2=some ⟨25,2,[[x,rs (-c0)]],false,some 1⟩∧Yc prog 23 H 3 N x (ql ((co.take i).map fun q=>-q))
theorem qel(co:List Rat)(c0:Rat)(h:∀q∈c0::co,Lq q)(hl:co.length≤1000):Qg prog 62 [ln co c0] (ln (co.map fun q=>-q) (-c0)):=by
 refine Qg.body func62 ntmps62 ?_;simp;refine Qc.pv (Y8 c0 (h _ (by simp))) (by simp[Qn]) (by simp[Qn]) ?_;simp[qeT];refine Qp.of (qtz co c0) (fun i=>co.length-i) 0 ⟨by omega,_,_,_,_,rfl,by omega,by simp,by simp,by simp,by simp,by simp,by simp,by simp,.inl ⟨rfl,rfl⟩⟩ ?_;rintro i _ ⟨hi,env,H,N,x,rfl,hN,g2,g3,g11,g12,g13,hb1,hb2,ho⟩;by_cases hiN:i<co.length
 ·obtain⟨r,H2,hr,ho2,hH2⟩:=qsM ho hN (-co[i]) (by simp;omega);have e1:H2.b 1=_:=(hH2 1 (by omega)).trans hb1;have e2:H2.b 2=_:=(hH2 2 (by omega)).trans hb2;simp[g3,g11,g12,g13,hiN];refine Qm.walk (fun _=>true) mixed ?_;simp[Q0,g3,hb2,show 2<N by omega];refine QF.pure (k:=9) (Y8 co[i] (h _ (by simp))) ?_ ?_ ?_
  ·simp[Qn]
  ·simp[Qn]
  simp[Q0,g3,g13,qsD,hr,e2,ho2.one];refine⟨Zg.ofM (by kernel_rfl),i+1,⟨by omega,_,_,_,r,rfl,by omega,by simp[g2],by simp[g3],by simp[g11],by simp[g12],by simp[QH (show i+1<9223372036854775808 by omega)],by simp[e1],by simp,?_⟩,by omega⟩;rw[List.take_succ_eq_append_getElem hiN,List.map_append];exact Yc.other ho2 fun id hid=>by simp[show id≠2 by omega]
 ·have hiE:i=co.length:=by omega
  subst hiE;simp[g2,g3,g11,g12,g13,hb1,hb2,ho.one];rw[List.take_length]at ho;exact qiO ((Yc.other ho fun id hid=>by simp[show id≠1 by omega]).frz (fun _ _ _=>trivial) qrx)
theorem qbY.data{m a:Nat}{v:Rat}{r:AV}(h:qbY m a v r):Qu 9 r=true:=by obtain⟨val,lp,lr,lm,rfl,h1,_⟩:=h;rcases h1 with⟨_,rfl,_⟩|⟨_,rfl⟩<;>simp[qb0,ql,Qn]
theorem qbY.get{m a:Nat}{v:Rat}{r:AV}(h:qbY m a v r):∃s lp lr lm,r=.tup [qb0 a (.v (.string s)) lp lr lm,.v (.int .i64 0)]:=by obtain⟨val,lp,lr,lm,rfl,h1,_⟩:=h;rcases h1 with⟨_,rfl,_⟩|⟨_,rfl⟩<;>exact⟨_,lp,lr,lm,rfl⟩
section
variable{co:List Rat}{c0:Rat}{F:List Fct}{δ a:Nat}{v:Rat}
theorem WS(h:Y6 prog 24 [ln co c0,.ro (fl F)] (qbY F.length a v))(hL:Ln co c0)(hF:∀f∈F,FOk f co.length)(hm:F.length≤64):Y6 prog 9 [ln co c0,.ro (fl F)] (qbY F.length a v):=by refine⟨⟨_,_,func9,by kernel_rfl,rfl⟩,(Qv.data (Q:=qbY F.length a v) (Qv.QM func9 rfl (by simp[ntmps9]) (Qd _ _ _ ?_))).mono fun r H N h=>h.2.2⟩;simp;refine Qc.pv (X6 co c0 F hL hF hm) (by simp[fl,fcL,zl,ql,Qn,Qj]) rfl ?_;simp;refine h.call (k:=9) (by simp[ln,fl,fcL,zl,ql,Qn,Qj]) (fun r hr=>hr.data) ?_;intro r hr;obtain⟨s,lp,lr,lm,rfl⟩:=hr.get;simp[qb0,V1];exact⟨_,.dat _ 9 hr.data,hr⟩
theorem qcQ(h:Y6 prog 24 [ln (co.map fun q=>-q) (-c0),.ro (fl F)] (qbY F.length a v))(ho:∀q∈c0::co,Lq q)(hl:co.length≤1000):Y6 prog 25 [ln co c0,.ro (fl F)] (qbY F.length a (-v)):=by
 refine⟨⟨_,_,func25,by kernel_rfl,rfl⟩,(Qv.data (Q:=qbY F.length a (-v)) (Qv.QM func25 rfl (by simp[ntmps25]) (Qd _ _ _ ?_))).mono fun r H N h=>h.2.2⟩;simp;refine Qc.pv (qel co c0 ho hl) (by simp[ql,Qn]) (by simp[ln,ql,Qn]) ?_;simp;refine h.call (k:=9) (by simp[ln,fl,fcL,zl,ql,Qn,Qj]) (fun r hr=>hr.data) ?_;intro r hr;obtain⟨val,lp,lr,lm,rfl,h1,h2⟩:=hr;rcases h1 with⟨rfl,rfl,hs⟩|⟨ha,rfl⟩
 ·have hne:¬bs (rt v)={ data:=#[] }:=fun e=>by obtain⟨b,l,e1,_⟩:=qbM v;have:=(Z8 (b:=[])).1 e;rw[e1]at this;simp at this
  simp[qb0,V1,rs,str,hne];refine Qc.pv (Y8 v ((YW v).2 (by omega))) (by simp) (by simp[Qn]) ?_;simp[rs,str];refine⟨_,.dat _ 9 ?_,.v (.string (bs (rt (-v)))),lp,lr,lm,rfl,.inl ⟨rfl,rfl,by rw[Kb];exact hs⟩,h2⟩;simp[ql,Qn]
 ·simp[qb0,V1];refine⟨_,.dat _ 9 ?_,_,lp,lr,lm,rfl,.inr ⟨ha,rfl⟩,h2⟩;simp[ql,Qn]
theorem qcR(h:Y6 prog 25 [ln co c0,.ro (fl F)] (qbY F.length a v))(hL:Ln co c0)(hF:∀f∈F,FOk f co.length)(hm:F.length≤64):Y6 prog 10 [ln co c0,.ro (fl F)] (qbY F.length a v):=by refine⟨⟨_,_,func10,by kernel_rfl,rfl⟩,(Qv.data (Q:=qbY F.length a v) (Qv.QM func10 rfl (by simp[ntmps10]) (Qd _ _ _ ?_))).mono fun r H N h=>h.2.2⟩;simp;refine Qc.pv (X6 co c0 F hL hF hm) (by simp[fl,fcL,zl,ql,Qn,Qj]) rfl ?_;simp;refine h.call (k:=9) (by simp[ln,fl,fcL,zl,ql,Qn,Qj]) (fun r hr=>hr.data) ?_;intro r hr;obtain⟨s,lp,lr,lm,rfl⟩:=hr.get;simp[qb0,V1];exact⟨_,.dat _ 9 hr.data,hr⟩
theorem ln0{n:Nat}(h:n≤32):Ln (List.replicate n 0) 0:=⟨by simpa using h,fun q hq=>by rw[List.eq_of_mem_replicate hq,qsT];omega,by rw[qsT];omega⟩
theorem qdP(F:List Fct)(n:Nat)(hn:n≤32)(hF:∀f∈F,FOk f n)(hm:F.length≤64):Qg prog 28 [.ro (fl F),.v (.int .i64 (n:Nat))] (.v (.int .i64 0)):=by refine Qg.body func28 ntmps28 ?_;simp[-Qa,-Qb,undef,show ¬(32:Int)<(n:Int) by omega,show ¬(n:Int)<0 by omega];refine Qc.pv (qil n (by omega)) rfl (by simp[ln,ql,Qn]) ?_;simp;refine Qc.pv (X6 (List.replicate n 0) 0 F (ln0 hn) (by simpa using hF) hm) (by simp[ln,fl,fcL,zl,ql,Qn,Qj]) rfl ?_;simp;exact .dat _ 9 rfl
def qp3(m a:Nat)(r:AV):Prop:=∃lp lm,(a≠2∧r=.tup [.v (.bool true),.ro (ql lp),.ro [],.v (.int .i64 0)])∨(a=2∧lm.length=m∧r=.tup [.v (.bool false),.ro [],.ro (ql lm),.v (.int .i64 0)])
theorem qp3.data{m a:Nat}{r:AV}(h:qp3 m a r):Qu 9 r=true:=by obtain⟨lp,lm,⟨_,rfl⟩|⟨_,_,rfl⟩⟩:=h<;>simp[ql,Qn]
theorem qfK{H:Qf}{F G:Nat→Prop}{a b c d a' b' c' d':AV}(h1:Frz H F G a a')(h2:Frz H F G b b')(h3:Frz H F G c c')(h4:Frz H F G d d'):Frz H F G (.tup [a,b,c,d]) (.tup [a',b',c',d']):=by obtain⟨g1,g2,g3⟩:=(show qhe H F G [a,b,c,d] [a',b',c',d'] from .cons h1 (.cons h2 (.cons h3 (.cons h4 .nil)))).get;exact .tup _ _ _ g1 g2 g3
theorem qd7{n:Nat}(h:Y6 prog 24 [ln (List.replicate n 0) 0,.ro (fl F)] (qbY F.length a v))(hn:n≤32)(hF:∀f∈F,FOk f n)(hm:F.length≤64):Y6 prog 13 [.ro (fl F),.v (.int .i64 (n:Nat))] (qp3 F.length a):=by
 refine⟨⟨_,_,func13,by kernel_rfl,rfl⟩,(Qv.data (Q:=qp3 F.length a) (Qv.QM func13 rfl (by simp[ntmps13]) (Qd _ _ _ ?_))).mono fun r H N h=>h.2.2⟩;simp;refine Qc.pv (qdP F n hn hF hm) (by simp[fl,fcL,zl,Qj]) rfl ?_;simp;refine Qc.pv (qil n (by omega)) rfl (by simp[ln,ql,Qn]) ?_;simp;refine h.call (k:=9) (by simp[ln,fl,fcL,zl,ql,Qn,Qj]) (fun r hr=>hr.data) ?_;intro r hr;obtain⟨s,lp,lr,lm,rfl⟩:=hr.get;have hlm:a=2→lm.length=F.length:=by obtain⟨_,_,_,lm',he,_,h2⟩:=hr;simp[qb0]at he;have:ql lm=ql lm':=he.2.2.2;have:=congrArg List.length this;rw[QU,QU]at this;rw[this];exact h2
 by_cases ha:a=2
 ·simp[qb0,V1,ha];refine Qm.walk (fun _=>false) mixed ?_;simp[Q0];exact⟨Zg.ofM (by kernel_rfl),_,qfK (.v _) .nil (.dat _ 9 (by simp[ql,Qn])) (.v _),[],lm,.inr ⟨rfl,hlm ha,rfl⟩⟩
 ·have ha':¬(a:Int)=2:=by omega
  simp[qb0,V1,ha'];refine Qm.walk (fun _=>false) mixed ?_;simp[Q0];exact⟨Zg.ofM (by kernel_rfl),_,qfK (.v _) (.dat _ 9 (by simp[ql,Qn])) .nil (.v _),lp,[],.inl ⟨ha,rfl⟩⟩
end
end
end Go.AX.Run
