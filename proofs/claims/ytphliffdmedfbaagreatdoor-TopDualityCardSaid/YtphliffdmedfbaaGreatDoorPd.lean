/- Part 4 of the proof: an abstract machine over the model, contracts of the functions, the mathematics of the simplex. -/
import Derived.Test.YtphliffdmedfbaaGreatDoorPc
set_option maxRecDepth 100000
set_option maxHeartbeats 8000000
set_option linter.all false
set_option exponentiation.threshold 5000
namespace Go.AX.Run
open Go.RowKit Go.Proofs Go.AX Go.Num Tryz
section
attribute [local simp] Qq Qh Qk Qr QR alen qaI qaH qhi qai qgs qdw qd8 QJ Q7 at_
theorem qh3(n:Nat):cutz (dl n)=lb 10 n:=by rw[ZO (B:=10) (by decide) _ (Wf n),Jv]
theorem qkX(l:List Nat):(cutz l).length≤l.length:=by have:=JM l l.length (Nat.le_refl _);rw[List.take_length]at this;rw[←this];simp;omega
theorem qee(n:Nat):(lb 10 n).length≤nd n:=by rw[←qh3,←Z9];exact qkX _
theorem qgy{n k:Nat}(hk:0<k)(h:nd n≤k):n<10^k:=(YF hk).1 h
theorem Jn(l:List Nat):[AV.ro (nl l)].all (Qu 9)=true:=by rw[List.all_cons,Qo];rfl
theorem ZY(l m:List Nat):[AV.ro (nl l),AV.ro (nl m)].all (Qu 9)=true:=by rw[List.all_cons,Qo,List.all_cons,Qo];rfl
theorem ZN(l:List Nat)(b:Bool):[AV.ro (nl l),AV.v (.bool b)].all (Qu 9)=true:=by rw[List.all_cons,Qo];rfl
theorem YS(n:Nat)(neg:Bool)(h:nd n≤1000000):Qg prog 51 [.ro (nl (lb 10 n)),.v (.bool neg)] (zs (if neg=true then -((n:Nat):Int)else((n:Nat):Int))):=by have:=qoJ (lb 10 n) neg (YN (by decide) n) (Nat.le_trans (qee n) h);rwa[Yo (by decide)]at this
theorem qaA(n:Nat)(h:nd n≤1000000):Qg prog 83 [.ro (nl (dl n))] (.ro (nl (lb 10 n))):=by have:=JT (dl n) (by rw[Z9];omega);rwa[qh3]at this
theorem bool_beq(x y:Bool):abinop prog .eql 4 (.v (.bool x)) (.v (.bool y))=some (.v (.bool (x==y))):=by cases x<;>cases y<;>rfl
theorem qeU(x y:Bool):abinop prog .neq 4 (.v (.bool x)) (.v (.bool y))=some (.v (.bool (x !=y))):=by cases x<;>cases y<;>rfl
attribute [local simp] bool_beq qeU
theorem qmm(a b:Int)(ha:nd a.natAbs≤400000)(hb:nd b.natAbs≤400000):Qg prog 115 [zs a,zs b] (zs (a+b)):=by
 refine Qg.body func115 ntmps115 ?_;by_cases hs:nd a.natAbs≤17∧nd b.natAbs≤17
 ·have h1:=qgy (by omega) hs.1;have h2:=qgy (by omega) hs.2;have hsa:=Y4 a 17 (by omega);have hsb:=Y4 b 17 (by omega);rw[decide_eq_true hs.1]at hsa;rw[decide_eq_true hs.2]at hsb;have w:IntKind.i64.wrap (a+b)=a+b:=Ql (by omega) (by omega);simp;refine Qc.pu hsa ?_;simp[-Qa,-Qb];refine Qc.pu hsb ?_;simp[-Qa,-Qb];refine Qc.pu (YH a (by omega)) ?_;simp;refine Qc.pu (YH b (by omega)) ?_;simp[w];refine Qc.pu (K4 (a+b) (by omega) (by omega)) ?_;simp;exact .dat _ 9 rfl
 ·have hsa:=Y4 a 17 (by omega);have hsb:=Y4 b 17 (by omega);have da:=Jh a (by omega);have db:=Jh b (by omega);have hsum:=qiU (a:=a.natAbs) (b:=b.natAbs) (k:=400000) ha hb (by omega);have hpl:=qi8 (dl a.natAbs) (dl b.natAbs) (Wf _) (Wf _) (by rw[Z9];omega) (by rw[Z9];omega);rw[Jv,Jv]at hpl;have hor:=Wt a.natAbs b.natAbs (Nat.le_trans (qee _) (by omega)) (Nat.le_trans (qee _) (by omega));have hca:=qaA a.natAbs (by omega);have hcb:=qaA b.natAbs (by omega);have hna:=Yv a;have hnb:=Yv b;have h17:(nd a.natAbs≤17∧¬nd b.natAbs≤17)∨¬nd a.natAbs≤17:=by omega
  rcases h17 with⟨h17,h17'⟩|h17;focus
   simp[-Qa,-Qb];refine Qc.pu hsa ?_;simp[-Qa,-Qb,h17];refine Qc.pu hsb ?_;simp[-Qa,-Qb,h17']
  rotate_left 1;focus
   simp[-Qa,-Qb];refine Qc.pu hsa ?_;simp[-Qa,-Qb,h17,undef]
  all_goals
   refine Qc.pv da rfl (Qo _) ?_;simp;refine Qc.pv db rfl (Qo _) ?_;simp;refine Qc.pu hna ?_;simp;refine Qc.pu hnb ?_;by_cases h1:a<0<;>by_cases h2:b<0
   ·rw[decide_eq_true h1]at hna;simp[h1,h2];refine Qc.pv hpl (ZY _ _) (Qo _) ?_;simp;refine Qc.pu hna ?_;simp;refine Qc.pv (YS (a.natAbs+b.natAbs) true (by omega)) (ZN _ _) rfl ?_;rw[if_pos rfl,show -((a.natAbs+b.natAbs:Nat):Int)=a+b by omega];simp;exact .dat _ 9 rfl
   ·rw[decide_eq_true h1]at hna;rw[decide_eq_false h2]at hnb;simp[h1,h2];refine Qc.pv hca (Jn _) (Qo _) ?_;simp;refine Qc.pv hcb (Jn _) (Qo _) ?_;simp;refine Qc.pv hor (ZY _ _) rfl ?_;by_cases h3:a.natAbs<b.natAbs
    ·have hmi:=JJ (dl b.natAbs) (dl a.natAbs) (Wf _) (Wf _) (by rw[Z9];omega) (by rw[Z9,Z9];exact Zs (by omega)) (by rw[Jv,Jv];omega);rw[Jv,Jv]at hmi;simp[qbc,h3];refine Qc.pv hmi (ZY _ _) (Qo _) ?_;simp;refine Qc.pu hnb ?_;simp;refine Qc.pv (YS (b.natAbs-a.natAbs) false (by have:=Zs (show b.natAbs-a.natAbs≤b.natAbs by omega);omega)) (ZN _ _) rfl ?_;rw[if_neg (by decide),show((b.natAbs-a.natAbs:Nat):Int)=a+b by omega];simp;exact .dat _ 9 rfl
    ·have hmi:=JJ (dl a.natAbs) (dl b.natAbs) (Wf _) (Wf _) (by rw[Z9];omega) (by rw[Z9,Z9];exact Zs (by omega)) (by rw[Jv,Jv];omega);rw[Jv,Jv]at hmi;have hc0:0≤qbc a.natAbs b.natAbs:=by unfold qbc;rw[if_neg h3];split<;>omega
     simp[hc0];refine Qc.pv hmi (ZY _ _) (Qo _) ?_;simp;refine Qc.pu hna ?_;simp;refine Qc.pv (YS (a.natAbs-b.natAbs) true (by have:=Zs (show a.natAbs-b.natAbs≤a.natAbs by omega);omega)) (ZN _ _) rfl ?_;rw[if_pos rfl,show -((a.natAbs-b.natAbs:Nat):Int)=a+b by omega];simp;exact .dat _ 9 rfl
   ·rw[decide_eq_false h1]at hna;rw[decide_eq_true h2]at hnb;simp[h1,h2];refine Qc.pv hca (Jn _) (Qo _) ?_;simp;refine Qc.pv hcb (Jn _) (Qo _) ?_;simp;refine Qc.pv hor (ZY _ _) rfl ?_;by_cases h3:a.natAbs<b.natAbs
    ·have hmi:=JJ (dl b.natAbs) (dl a.natAbs) (Wf _) (Wf _) (by rw[Z9];omega) (by rw[Z9,Z9];exact Zs (by omega)) (by rw[Jv,Jv];omega);rw[Jv,Jv]at hmi;simp[qbc,h3];refine Qc.pv hmi (ZY _ _) (Qo _) ?_;simp;refine Qc.pu hnb ?_;simp;refine Qc.pv (YS (b.natAbs-a.natAbs) true (by have:=Zs (show b.natAbs-a.natAbs≤b.natAbs by omega);omega)) (ZN _ _) rfl ?_;rw[if_pos rfl,show -((b.natAbs-a.natAbs:Nat):Int)=a+b by omega];simp;exact .dat _ 9 rfl
    ·have hmi:=JJ (dl a.natAbs) (dl b.natAbs) (Wf _) (Wf _) (by rw[Z9];omega) (by rw[Z9,Z9];exact Zs (by omega)) (by rw[Jv,Jv];omega);rw[Jv,Jv]at hmi;have hc0:0≤qbc a.natAbs b.natAbs:=by unfold qbc;rw[if_neg h3];split<;>omega
     simp[hc0];refine Qc.pv hmi (ZY _ _) (Qo _) ?_;simp;refine Qc.pu hna ?_;simp;refine Qc.pv (YS (a.natAbs-b.natAbs) false (by have:=Zs (show a.natAbs-b.natAbs≤a.natAbs by omega);omega)) (ZN _ _) rfl ?_;rw[if_neg (by decide),show((a.natAbs-b.natAbs:Nat):Int)=a+b by omega];simp;exact .dat _ 9 rfl
   ·rw[decide_eq_false h1]at hna;simp[h1,h2];refine Qc.pv hpl (ZY _ _) (Qo _) ?_;simp;refine Qc.pu hna ?_;simp;refine Qc.pv (YS (a.natAbs+b.natAbs) false (by omega)) (ZN _ _) rfl ?_;rw[if_neg (by decide),show((a.natAbs+b.natAbs:Nat):Int)=a+b by omega];simp;exact .dat _ 9 rfl
theorem qcr(a b:Int)(ha:nd a.natAbs≤400000)(hb:nd b.natAbs≤400000):Qg prog 84 [zs a,zs b] (zs (a-b)):=by refine Qg.body func84 ntmps84 ?_;simp;refine Qc.pu (qiX b (by omega)) ?_;simp;refine Qc.pu (qmm a (-b) ha (by rw[Int.natAbs_neg];exact hb)) ?_;simp[←Int.sub_eq_add_neg];exact .dat _ 9 rfl
theorem WW(a b:Int)(ha:nd a.natAbs≤200000)(hb:nd b.natAbs≤200000):Qg prog 18 [zs a,zs b] (zs (a*b)):=by
 refine Qg.body func18 ntmps18 ?_;have hda:=Zk a (by omega);have hdb:=Zk b (by omega);have w1:IntKind.i64.wrap (((nd a.natAbs:Nat):Int)+((nd b.natAbs:Nat):Int))=((nd a.natAbs+nd b.natAbs:Nat):Int):=wadd (by omega);have hp1:=YC a.natAbs;have hp2:=YC b.natAbs;simp[-Int.natCast_add];refine Qc.pu hda ?_;simp[-Int.natCast_add];refine Qc.pu hdb ?_;by_cases hs:nd a.natAbs+nd b.natAbs≤18
 ·have hs':((nd a.natAbs+nd b.natAbs:Nat):Int)≤18:=by omega
  have hm:(a*b).natAbs<10^18:=by rw[Int.natAbs_mul];exact Nat.lt_of_lt_of_le (qgy (by have:=YC (a.natAbs*b.natAbs);omega) (VH a.natAbs b.natAbs)) (Nat.pow_le_pow_right (by omega) hs)
  have w2:IntKind.i64.wrap (a*b)=a*b:=Ql (by omega) (by omega);simp[-Int.natCast_add,w1,hs'];refine Qc.pu (YH a (by omega)) ?_;simp;refine Qc.pu (YH b (by omega)) ?_;simp[w2];refine Qc.pu (K4 (a*b) (by omega) (by omega)) ?_;simp;exact .dat _ 9 rfl
 ·have hs':¬((nd a.natAbs+nd b.natAbs:Nat):Int)≤18:=by omega
  have hml:=VH a.natAbs b.natAbs;have htm:=qg1 (dl a.natAbs) (dl b.natAbs) (Wf _) (Wf _) (by rw[Z9];omega) (by rw[Z9];omega);rw[Jv,Jv]at htm;have hna:=Yv a;have hnb:=Yv b;simp[-Int.natCast_add,w1,hs'];refine Qc.pv (Jh a (by omega)) rfl (Qo _) ?_;simp;refine Qc.pv (Jh b (by omega)) rfl (Qo _) ?_;simp;refine Qc.pv htm (ZY _ _) (Qo _) ?_;simp;refine Qc.pu hna ?_;simp;refine Qc.pu hnb ?_;have hab:((a.natAbs*b.natAbs:Nat):Int)=(a.natAbs:Int)*(b.natAbs:Int):=Int.natCast_mul _ _;by_cases h1:a<0<;>by_cases h2:b<0
  ·simp[h1,h2];refine Qc.pv (YS (a.natAbs*b.natAbs) false (by omega)) (ZN _ _) rfl ?_;rw[if_neg (by decide),show((a.natAbs*b.natAbs:Nat):Int)=a*b by rw[hab,show(a.natAbs:Int) = -a by omega,show(b.natAbs:Int) = -b by omega,Int.neg_mul_neg]];simp;exact .dat _ 9 rfl
  ·simp[h1,h2];refine Qc.pv (YS (a.natAbs*b.natAbs) true (by omega)) (ZN _ _) rfl ?_;rw[if_pos rfl,show -((a.natAbs*b.natAbs:Nat):Int)=a*b by rw[hab,show(a.natAbs:Int) = -a by omega,show(b.natAbs:Int)=b by omega,Int.neg_mul,Int.neg_neg]];simp;exact .dat _ 9 rfl
  ·simp[h1,h2];refine Qc.pv (YS (a.natAbs*b.natAbs) true (by omega)) (ZN _ _) rfl ?_;rw[if_pos rfl,show -((a.natAbs*b.natAbs:Nat):Int)=a*b by rw[hab,show(a.natAbs:Int)=a by omega,show(b.natAbs:Int) = -b by omega,Int.mul_neg,Int.neg_neg]];simp;exact .dat _ 9 rfl
  ·simp[h1,h2];refine Qc.pv (YS (a.natAbs*b.natAbs) false (by omega)) (ZN _ _) rfl ?_;rw[if_neg (by decide),show((a.natAbs*b.natAbs:Nat):Int)=a*b by rw[hab,show(a.natAbs:Int)=a by omega,show(b.natAbs:Int)=b by omega]];simp;exact .dat _ 9 rfl
end
section
attribute [local simp] Qq Qh Qk Qr QR alen qaI qaH qhi qai qgs qdw qd8 QJ Q7 at_ bool_beq qeU
theorem qr1(a:Int):zi (decide (a<0)) a.natAbs=a:=by
 unfold zi;by_cases h:a<0
 ·simp[h];omega
 ·simp[h];omega
theorem qd6(a b:Int)(hb:b≠0):a.fdiv b=zi (decide (a<0) !=decide (b<0)) (qgD (decide (a<0)) a.natAbs (decide (b<0)) b.natAbs):=by have:=(qnu (decide (a<0)) (decide (b<0)) a.natAbs b.natAbs (by omega)).1;rw[qr1,qr1]at this;exact this.symm
theorem qpE(a b:Int):a.tdiv b=zi (decide (a<0) !=decide (b<0)) (a.natAbs/b.natAbs):=by
 have h:(a.tdiv b).natAbs=a.natAbs/b.natAbs:=Int.natAbs_tdiv a b;generalize a.natAbs/b.natAbs=q at *;unfold zi;by_cases h1:a<0<;>by_cases h2:b<0
 ·have:0≤a.tdiv b:=by rw[←Int.neg_tdiv_neg];exact Int.tdiv_nonneg (by omega) (by omega)
  simp[h1,h2];omega
 ·have:0≤(-a).tdiv b:=Int.tdiv_nonneg (by omega) (by omega);rw[Int.neg_tdiv]at this;simp[h1,h2];omega
 ·have:0≤a.tdiv (-b):=Int.tdiv_nonneg (by omega) (by omega);rw[Int.tdiv_neg]at this;simp[h1,h2];omega
 ·have:0≤a.tdiv b:=Int.tdiv_nonneg (by omega) (by omega);simp[h1,h2];omega
theorem qim(a b:Int)(ha:a.natAbs<10^17)(hbn:b.natAbs<10^17)(hb:b≠0):Qg prog 81 [.v (.int .i64 a),.v (.int .i64 b)] (.v (.int .i64 (a.fdiv b))):=by
 refine Qg.body func81 ntmps81 ?_;have hq:=qpE a b;have hf:=qd6 a b hb;have hr:=Int.natAbs_tmod a b;have hr0:(a.tmod b=0)=(a.natAbs%b.natAbs=0):=propext ⟨fun h=>by rw[←hr,h];rfl,fun h=>by rw[h]at hr;omega⟩;have hdl:a.natAbs/b.natAbs≤a.natAbs:=Nat.div_le_self _ _;unfold qgD at hf;generalize a.natAbs/b.natAbs=q at *;generalize a.natAbs%b.natAbs=r at *;have w1:IntKind.i64.wrap (a.tdiv b)=a.tdiv b:=by rw[hq];unfold zi;exact Ql (by split<;>omega) (by split<;>omega)
 have w2:IntKind.i64.wrap (a.tdiv b-1)=a.tdiv b-1:=by rw[hq];unfold zi;exact Ql (by split<;>omega) (by split<;>omega)
 by_cases hr1:r=0
 ·have hr2:a.tmod b=0:=hr0▸hr1;have e:a.fdiv b=a.tdiv b:=by rw[hf,hq];congr 1;rw[if_pos hr1];split<;>rfl
  simp[-Qa,-Qb,Ze,Zj,hb,w1,hr2,undef];rw[e];exact .dat _ 9 rfl
 ·have hr2:¬a.tmod b=0:=fun h=>hr1 (hr0▸h);by_cases h1:a<0<;>by_cases h2:b<0
  ·have e:a.fdiv b=a.tdiv b:=by rw[hf,hq];simp[h1,h2]
   simp[-Qa,-Qb,Ze,Zj,hb,w1,hr2,undef,h1,h2];rw[e];exact .dat _ 9 rfl
  ·have e:a.fdiv b=a.tdiv b-1:=by rw[hf,hq];simp[h1,h2,hr1,zi];omega
   simp[-Qa,-Qb,Ze,Zj,hb,w1,hr2,undef,h1,h2,w2];rw[e];exact .dat _ 9 rfl
  ·have e:a.fdiv b=a.tdiv b-1:=by rw[hf,hq];simp[h1,h2,hr1,zi];omega
   simp[-Qa,-Qb,Ze,Zj,hb,w1,hr2,undef,h1,h2,w2];rw[e];exact .dat _ 9 rfl
  ·have e:a.fdiv b=a.tdiv b:=by rw[hf,hq];simp[h1,h2]
   simp[-Qa,-Qb,Ze,Zj,hb,w1,hr2,undef,h1,h2];rw[e];exact .dat _ 9 rfl
theorem qiV(a b:Int)(hb:b≠0):nd (a.fdiv b).natAbs≤nd a.natAbs+1:=by
 have hf:=qd6 a b hb;have h:(a.fdiv b).natAbs≤a.natAbs+1:=by have hdl:a.natAbs/b.natAbs≤a.natAbs:=Nat.div_le_self _ _;rw[hf];unfold zi qgD;generalize a.natAbs/b.natAbs=q at *;split<;>split<;>(try split)<;>omega
 refine Nat.le_trans (Zs h) ?_;exact qiU (Zs (Nat.le_refl _)) (by rw[Zo (by omega)];exact YC _) (YC _)
theorem Wj(a b:Int)(ha:nd a.natAbs≤150000)(hbn:nd b.natAbs≤150000)(hb:b≠0):Qg prog 47 [zs a,zs b] (zs (a.fdiv b)):=by
 refine Qg.body func47 ntmps47 ?_;have hsa:=Y4 a 17 (by omega);have hsb:=Y4 b 17 (by omega);by_cases hs:nd a.natAbs≤17∧nd b.natAbs≤17
 ·have h1:=qgy (by omega) hs.1;have h2:=qgy (by omega) hs.2;have hfn:=qgy (n:=(a.fdiv b).natAbs) (k:=18) (by omega) (by have:=qiV a b hb;omega);rw[decide_eq_true hs.1]at hsa;rw[decide_eq_true hs.2]at hsb;simp;refine Qc.pu hsa ?_;simp[-Qa,-Qb];refine Qc.pu hsb ?_;simp[-Qa,-Qb];refine Qc.pu (YH a (by omega)) ?_;simp;refine Qc.pu (YH b (by omega)) ?_;simp;refine Qc.pu (qim a b h1 h2 hb) ?_;simp;refine Qc.pu (K4 (a.fdiv b) (by omega) (by omega)) ?_;simp;exact .dat _ 9 rfl
 ·have da:=Jh a (by omega);have db:=Jh b (by omega);have hca:=qaA a.natAbs (by omega);have hcb:=qaA b.natAbs (by omega);have hna:=Yv a;have hnb:=Yv b;have hsp:=qgV a.natAbs b.natAbs (by omega) (Nat.le_trans (qee _) (by omega)) (Nat.le_trans (qee _) (by omega));have hf:=qd6 a b hb;have hql:=Zs (Nat.div_le_self a.natAbs b.natAbs);unfold qgD at hf;generalize a.natAbs/b.natAbs=q at *;generalize a.natAbs%b.natAbs=r at *;have hrl:∀h:¬r=0,0<(lb 10 r).length:=fun h=>by rw[Zy (by decide) (by omega)];simp
  have h17:(nd a.natAbs≤17∧¬nd b.natAbs≤17)∨¬nd a.natAbs≤17:=by omega
  rcases h17 with⟨h17,h17'⟩|h17;focus
   simp[-Qa,-Qb];refine Qc.pu hsa ?_;simp[-Qa,-Qb,h17];refine Qc.pu hsb ?_;simp[-Qa,-Qb,h17']
  rotate_left 1;focus
   simp[-Qa,-Qb];refine Qc.pu hsa ?_;simp[-Qa,-Qb,h17,undef]
  all_goals
   refine Qc.pv da rfl (Qo _) ?_;simp;refine Qc.pv hca (Jn _) (Qo _) ?_;simp;refine Qc.pv db rfl (Qo _) ?_;simp;refine Qc.pv hcb (Jn _) (Qo _) ?_;simp;refine Qc.pv hsp (ZY _ _) (by simp[nl]) ?_;simp;refine Qc.pu hna ?_;simp;refine Qc.pu hnb ?_;by_cases hd:decide (a<0)=decide (b<0)
   ·rw[if_pos hd]at hf;have hbn0:(decide (a<0) !=decide (b<0))=false:=by rw[hd];simp
    rw[hbn0]at hf;simp only[zi,Bool.false_eq_true,if_false]at hf;simp[hbn0];refine Qc.pv (YS q false (by omega)) (ZN _ _) rfl ?_;rw[if_neg (by decide),←hf];simp[-Qa,-Qb];refine Qc.pu hna ?_;simp[-Qa,-Qb];refine Qc.pu hnb ?_;simp[-Qa,-Qb,hbn0,undef];exact .dat _ 9 rfl
   ·rw[if_neg hd]at hf;have hbn1:(decide (a<0) !=decide (b<0))=true:=by simpa using hd
    rw[hbn1]at hf;simp only[zi,if_true]at hf;simp[hbn1];refine Qc.pv (YS q true (by omega)) (ZN _ _) rfl ?_;rw[if_pos rfl];simp[-Qa,-Qb];refine Qc.pu hna ?_;simp[-Qa,-Qb];refine Qc.pu hnb ?_;by_cases hr:r=0
    ·rw[if_pos hr]at hf;rw[←hf];simp[-Qa,-Qb,hbn1,hr,undef,Zh];exact .dat _ 9 rfl
    ·rw[if_neg hr]at hf;have hdf:=qcr (-(q:Int)) 1 (by rw[Int.natAbs_neg,Int.natAbs_natCast];omega) (by rw[show(1:Int).natAbs=1 from rfl,Zo (by omega)];omega);rw[show -(q:Int)-1=a.fdiv b by rw[hf];omega,zs1]at hdf;simp[-Qa,-Qb,hbn1,hrl hr];refine Qc.pu hdf ?_;simp;exact .dat _ 9 rfl
theorem qjo(a b:Int)(ha:nd a.natAbs≤100000)(hbn:nd b.natAbs≤100000)(hb:b≠0):Qg prog 79 [zs a,zs b] (zs (a.fmod b)):=by refine Qg.body func79 ntmps79 ?_;have h1:=qiV a b hb;have h2:=VH b.natAbs (a.fdiv b).natAbs;have hd:=qcr a (b*a.fdiv b) (by omega) (by rw[Int.natAbs_mul];omega);rw[←Int.fmod_def]at hd;simp;refine Qc.pu (Wj a b (by omega) (by omega) hb) ?_;simp;refine Qc.pu (WW b (a.fdiv b) (by omega) (by omega)) ?_;simp;refine Qc.pu hd ?_;simp;exact .dat _ 9 rfl
def cmI(g:Nat)(y:Nat)(st:St):Prop:=∃env x,st=⟨18,env,QQ,0⟩∧env 5=zs ((x:Nat):Int)∧env 6=zs ((y:Nat):Int)∧Nat.gcd x y=g∧nd x≤100000∧nd y≤100000
theorem Xx(a b:Int)(ha:nd a.natAbs≤100000)(hb:nd b.natAbs≤100000):Qg prog 46 [zs a,zs b] (zs ((Int.gcd a b:Nat):Int)):=by
 refine Qg.body func46 ntmps46 ?_;simp;refine Qc.pu (qfi a (by omega)) ?_;simp;refine Qc.pu (qfi b (by omega)) ?_;simp;refine Qp.of (cmI (Int.gcd a b)) (fun y=>y) b.natAbs ⟨_,a.natAbs,rfl,by simp,by simp,rfl,ha,hb⟩ ?_;rintro y _ ⟨env,x,rfl,g5,g6,hg,hx,hy⟩;by_cases h0:y=0
 ·subst h0;rw[Nat.gcd_zero_right]at hg;simp[g5,g6,zs,str,KK];rw[hg];exact .dat _ 9 rfl
 ·have hr:=qjo (x:Int) (y:Int) hx hy (by omega);rw[Int.fmod_eq_emod_of_nonneg _ (by omega),←Int.natCast_emod]at hr;have hlt:=Nat.mod_lt x (show y>0 by omega);have hge:¬(y:Int)=0:=by omega
  simp[g5,g6,zs,str,KK,h0];refine Qc.pu hr ?_;simp[-Int.natCast_emod];refine⟨x%y,⟨_,y,rfl,by simp[zs,str],by simp[-Int.natCast_emod],?_,hy,Nat.le_trans (Zs (Nat.le_of_lt hlt)) hy⟩,hlt⟩;rw[←hg,Nat.gcd_comm x y,Nat.gcd_rec y x,Nat.gcd_comm]
end
section
attribute [local simp] Qq Qh Qk Qr QR alen
theorem qou(z:Int)(i:Nat)(h:i<(il z).length):isD (il z)[i]=true∨(i=0∧(il z)[i]=45):=by
 by_cases hz:z<0
 ·have e:il z=45::dg z.natAbs:=by rw[il,if_pos hz]
  cases i with
  | zero=>exact .inr ⟨rfl,by simp[e]⟩
  | succ i =>simp only[e,List.getElem_cons_succ];exact .inl (YA _ _ (List.getElem_mem _))
 ·have e:il z=dg z.natAbs:=by rw[il,if_neg hz]
  simp only[e];exact .inl (YA _ _ (List.getElem_mem _))
noncomputable def isI(s:List UInt8):Bool:=@decide (∃z,s=il z) (Classical.propDecidable _)
theorem Jx{s:List UInt8}:isI s=true↔∃z,s=il z:=by unfold isI;exact @decide_eq_true_iff _ (Classical.propDecidable _)
theorem qcJ{s:List UInt8}(h:∀z,s≠il z):isI s=false:=by
 cases he:isI s with
 | false=>rfl
 | true=>obtain⟨z,hz⟩:=Jx.1 he;exact(h z hz).elim
theorem qcI(z:Int):isI (il z)=true:=Jx.2 ⟨z,rfl⟩
theorem qcF{t:List UInt8}{z:Int}(h:48::t=il z):t=[]:=by
 by_cases hz:z<0
 ·rw[il,if_pos hz]at h;injection h with h _;cases h
 ·rw[il,if_neg hz]at h;rcases Nat.eq_zero_or_pos z.natAbs with h0|h0
  ·rw[h0,QN (by omega)]at h;injection h
  ·obtain⟨b,l,e,h1,_⟩:=XA h0;rw[e]at h;injection h with h _;subst h;simp at h1
theorem VC{t:List UInt8}{z:Int}(h:45::t=il z):∃b u,t=b::u∧b≠48:=by
 by_cases hz:z<0
 ·rw[il,if_pos hz]at h;injection h with _ h;obtain⟨b,l,e,h1,_⟩:=XA (n:=z.natAbs) (by omega);exact⟨b,l,by rw[h,e],by rintro rfl;simp at h1⟩
 ·rw[il,if_neg hz]at h;exact(JU h.symm).elim
theorem qcE{b:UInt8}{u:List UInt8}(h:∀x∈b::u,isD x=true)(hb:b≠48):(∃z,b::u=il z)∧∃z,45::b::u=il z:=by
 have hb':b.toNat≠48:=fun e=>hb (by apply UInt8.toNat_inj.1;rw[e];rfl);have e:=qmX h ⟨b,u,rfl,.inl hb'⟩;have hv:0<Num.val (b::u):=by
  rcases Nat.eq_zero_or_pos (Num.val (b::u))with h0|h0
  ·rw[h0,QN (by omega)]at e;injection e with e1 _;exact(hb e1.symm).elim
  ·exact h0
 exact⟨⟨(Num.val (b::u):Nat),by rw[il,if_neg (by omega),Int.natAbs_natCast,e]⟩,⟨-(Num.val (b::u):Nat),by rw[il,if_pos (by omega),Int.natAbs_neg,Int.natAbs_natCast,e]⟩⟩
theorem KL(s:List UInt8)(i:Nat)(h:i<s.length):aindex prog 38 (.v (.string (bs s))) (i:Int)=some (.v (.int .u8 (s[i].toNat:Int))):=by rw[YZ,if_pos (by omega)];simp[h]
def fmJ(s:List UInt8)(k i:Nat)(st:St):Prop:=k≤i∧i≤s.length∧∃env,st=⟨42,env,QQ,0⟩∧env 0=str s∧env 4=.v (.int .i64 (i:Nat))∧∀j (hj:j<s.length),k≤j→j<i→isD s[j]=true
theorem qor(s:List UInt8)(hl:s.length≤1000000):Qg prog 87 [str s] (.v (.bool (isI s))):=by
 refine Qg.body func87 ntmps87 ?_;have hfin:∀k,(∀j (hj:j<s.length),k≤j→isD s[j]=true)→∀b u,s.drop k=b::u→b≠48→(k=0∨(k=1∧∃t,s=45::t))→isI s=true:=fun k hd b u hbu hb hk=>by
  have hmem:∀x∈b::u,isD x=true:=fun x hx=>by rw[←hbu]at hx;obtain⟨j,hj,rfl⟩:=List.getElem_of_mem hx;rw[List.getElem_drop];exact hd _ _ (by omega)
  obtain⟨h1,h2⟩:=qcE hmem hb;rcases hk with rfl|⟨rfl,t,ht⟩
  ·rw[List.drop_zero]at hbu;rw[hbu];exact Jx.2 h1
  ·rw[ht]at hbu;simp at hbu;rw[ht,hbu];exact Jx.2 h2
 have hbad:∀j (hj:j<s.length),isD s[j]=false→(j=0→s[j]≠45)→isI s=false:=fun j hj hd h0=>qcJ fun z hz=>by
  subst hz;rcases qou z j hj with h|⟨h,h'⟩
  ·rw[h]at hd;cases hd
  ·exact h0 h h'
 have heq:(bs s={ data:=#[48] })=(s=[48]):=propext (Z8 (b:=[48]));cases s with
 | nil =>
  rw[qcJ fun z hz=>by obtain⟨b,l,e,_⟩:=W8 z;rw[e]at hz;cases hz];have he:¬ByteArray.empty={ data:=#[48] }:=by decide
  simp[str,heq,Num.QB,undef,-Qa,-Qb];exact .dat _ 9 rfl
 | cons b t =>
  by_cases h48:b=48
  ·subst h48;by_cases ht:t=[]
   ·subst ht;rw[show isI [48]=true from Jx.2 ⟨0,il0.symm⟩];simp[str,heq];exact .dat _ 9 rfl
   ·rw[qcJ fun z hz=>ht (qcF hz)];have hi0:=KL (48::t) 0 (by simp);simp at hi0;have hl0:¬((0:Int)=(t.length:Int)+1):=by omega
    simp[str,heq,ht,Num.QB,hi0,undef,hl0,-Qa,-Qb,show(0:Int)<(t.length:Int)+1 by omega];exact .dat _ 9 rfl
  ·have hi0:=KL (b::t) 0 (by simp);simp only[List.getElem_cons_zero,Int.natCast_zero]at hi0;have hbn:(b.toNat:Int)=45↔b=45:=⟨fun h=>by apply UInt8.toNat_inj.1;have:(45:UInt8).toNat=45:=rfl;omega,fun h=>by rw[h];rfl⟩;by_cases hbad1:b=45∧t=[]
   ·obtain⟨rfl,rfl⟩:=hbad1;rw[qcJ fun z hz=>by obtain⟨_,_,h,_⟩:=VC hz;cases h];simp at hi0;simp[str,heq,Num.QB,hi0,undef,-Qa,-Qb];exact .dat _ 9 rfl
   obtain⟨k,hk⟩:∃k,(b=45∧k=1)∨(b≠45∧k=0):=by
    by_cases h:b=45
    ·exact⟨1,.inl ⟨h,rfl⟩⟩
    ·exact⟨0,.inr ⟨h,rfl⟩⟩
   have hkl:k<(b::t).length:=by
    rcases hk with⟨h,rfl⟩|⟨_,rfl⟩
    ·have:t≠[]:=fun e=>hbad1 ⟨h,e⟩;have:=List.length_pos_iff.2 this;simp;omega
    ·simp
   have hik:=KL (b::t) k hkl;obtain⟨c,hc⟩:∃c,c=(b::t)[k]:=⟨_,rfl⟩;have hdrop:(b::t).drop k=c::(b::t).drop (k+1):=by rw[hc];exact List.drop_eq_getElem_cons hkl
   rw[←hc]at hik;have hcn:(c.toNat:Int)=48↔c=48:=⟨fun h=>by apply UInt8.toNat_inj.1;have:(48:UInt8).toNat=48:=rfl;omega,fun h=>by rw[h];rfl⟩;have hb01:¬(b::t)=[48]:=fun e=>by injection e with e _;exact h48 e
   have hlen0:(0:Int)<((b::t).length:Int):=by simp only[List.length_cons];omega
   have hlen1:0<(b::t).length:=by simp
   have hkI:¬(k:Int)=((b::t).length:Int):=by omega
   have hk1:k=0∨(k=1∧∃u,b::t=45::u):=by
    rcases hk with⟨rfl,rfl⟩|⟨_,rfl⟩
    ·exact .inr ⟨rfl,t,rfl⟩
    ·exact .inl rfl
   have hz0:k=0→∀h:0<(b::t).length,(b::t)[0]≠45:=fun h _=>by
    rcases hk with⟨_,rfl⟩|⟨h,_⟩
    ·cases h
    ·exact h
   generalize hs:b::t=s at *;obtain⟨bn,hbE⟩:∃bn:Nat,bn=b.toNat:=⟨_,rfl⟩;rw[←hbE]at hi0 hbn;rcases hk with⟨hb,hkE⟩|⟨hb,hkE⟩;focus
    have hb':=hbn.2 hb;have hik':=hik;have hkI':=hkI;rw[hkE]at hik' hkI';simp only[Int.natCast_one]at hik' hkI';simp[-Qa,-Qb,str,heq,hb01,Num.QB,hlen1,hi0,hb'];by_cases hc48:c=48
    ·have hI:isI s=false:=qcJ fun z hz=>by rw[←hs,hb]at hz;obtain⟨b',u',h1,h2⟩:=VC hz;rw[hkE,←hs,h1]at hdrop;simp at hdrop;exact h2 (hdrop.trans hc48)
     have hc':=hcn.2 hc48;simp[-Qa,-Qb,hkI',hik',hc',undef,hI];exact .dat _ 9 rfl
    have hc':¬(c.toNat:Int)=48:=fun h=>hc48 (hcn.1 h);simp[-Qa,-Qb,hkI',hik',hc',undef]
   rotate_left 1;focus
    have hb':¬(bn:Int)=45:=fun h=>hb (hbn.1 h);have hik':=hik;have hkI':=hkI;rw[hkE]at hik' hkI';simp only[Int.natCast_zero]at hik' hkI';simp[-Qa,-Qb,str,heq,hb01,Num.QB,hlen1,hi0,hb'];have hc48:¬c=48:=fun e=>by rw[hkE,←hs]at hdrop;simp at hdrop;exact h48 (hdrop.trans e)
    have hc':¬(c.toNat:Int)=48:=fun h=>hc48 (hcn.1 h);simp[-Qa,-Qb,hkI',hik',hc',undef]
   all_goals
    refine Qp.of (fmJ s k) (fun i=>s.length-i) k ⟨Nat.le_refl _,by omega,_,rfl,by simp[str],by simp[hkE],fun j hj h1 h2=>by omega⟩ ?_;rintro i _ ⟨hki,hi,env,rfl,g0,g4,hdig⟩;have w1:IntKind.i64.wrap ((i:Int)+1)=((i+1:Nat):Int):=by rw[Ql (by omega) (by omega)];omega
    by_cases hiN:i<s.length
    ·have hix:=KL s i hiN;have hbd:=hbad i hiN;by_cases hd:isD s[i]=true
     ·have hd2:=ZW.1 hd;have hn1:¬((s[i].toNat:Nat):Int)<48:=by omega
      have hn2:¬(57:Int)<((s[i].toNat:Nat):Int):=by omega
      generalize s[i].toNat=v at hix hn1 hn2;simp[-Int.natCast_add,g0,g4,str,Num.QB,hiN,hix,hn1,hn2,w1,-Qa,-Qb];refine⟨i+1,⟨by omega,by omega,_,rfl,by simp[g0,str],by simp,fun j hj h1 h2=>?_⟩,by omega⟩;by_cases hji:j=i
      ·subst hji;exact hd
      ·exact hdig j hj h1 (by omega)
     ·have hI:=hbd (by simpa using hd) fun h0=>by have:=hz0 (by omega) hlen1;subst h0;exact this
      have hd2:¬(48≤s[i].toNat∧s[i].toNat≤57):=fun h=>hd (ZW.2 h);rw[hI];generalize s[i].toNat=v at hix hd2;by_cases hv:v<48
      ·have hv':(v:Int)<48:=by omega
       simp[-Int.natCast_add,g0,g4,str,Num.QB,hiN,hix,hv',undef,-Qa,-Qb];exact .dat _ 9 rfl
      ·have hv':¬(v:Int)<48:=by omega
       have hv2:(57:Int)<(v:Int):=by omega
       have hv3:57<v:=by omega
       simp[-Int.natCast_add,g0,g4,str,Num.QB,hiN,hix,hv',hv2,-Qa,-Qb];exact .dat _ 9 rfl
    ·rw[hfin k (fun j hj h=>hdig j hj h (by omega)) c _ hdrop (by assumption) hk1];simp[-Int.natCast_add,g0,g4,str,Num.QB,hiN];exact .dat _ 9 rfl
end
section
attribute [local simp] Qq Qh Qk Qr QR alen QK Zd
theorem KP(s:List UInt8)(hl:s.length≤4096):Qg prog 57 [str s] (.v (.int .i64 (if isI s=true then 0 else 3))):=by
 refine Qg.body func57 ntmps57 ?_;simp;refine Qc.pu (qor s (by omega)) ?_;cases hI:isI s with
 | false =>simp;exact .dat _ 9 rfl
 | true =>
  obtain⟨z,rfl⟩:=Jx.1 hI;have hz:nd z.natAbs≤4096:=by rw[Z3]at hl;split at hl<;>omega
  have hd:=Zk z (by omega);unfold zs at hd;simp;refine Qc.pu hd ?_;simp[show ¬(4096:Int)<(nd z.natAbs:Int) by omega];exact .dat _ 9 rfl
def qhV(a b:Int):Int:=if a<b then -1 else if a=b then 0 else 1
theorem qi4(a b:Int)(ha:nd a.natAbs≤400000)(hb:nd b.natAbs≤400000):Qg prog 157 [zs a,zs b] (.v (.int .i64 (qhV a b))):=by
 refine Qg.body func157 ntmps157 ?_;simp;refine Qc.pu (X8 a) ?_;simp;refine Qc.pu (X8 b) ?_;have hsa:a.sign=if a<0 then -1 else if a=0 then 0 else 1:=by
  rcases Int.lt_trichotomy a 0 with h|h|h
  ·rw[Int.sign_eq_neg_one_of_neg h,if_pos h]
  ·subst h;rfl
  ·rw[Int.sign_eq_one_of_pos h,if_neg (by omega),if_neg (by omega)]
 have hsb:b.sign=if b<0 then -1 else if b=0 then 0 else 1:=by
  rcases Int.lt_trichotomy b 0 with h|h|h
  ·rw[Int.sign_eq_neg_one_of_neg h,if_pos h]
  ·subst h;rfl
  ·rw[Int.sign_eq_one_of_pos h,if_neg (by omega),if_neg (by omega)]
 by_cases hs:a.sign=b.sign
 ·have hor:=Wt a.natAbs b.natAbs (Nat.le_trans (qee _) (by omega)) (Nat.le_trans (qee _) (by omega));have hm:b.sign*qbc a.natAbs b.natAbs=qhV a b:=by
   rw[←hs];rw[←hs]at hsb;unfold qbc qhV;rcases Int.lt_trichotomy a 0 with h|h|h
   ·rw[if_pos h]at hsa;have hb0:b<0:=by
     rw[hsa]at hsb;split at hsb
     ·assumption
     ·split at hsb<;>omega
    rw[hsa];repeat' split;all_goals omega
   ·rw[if_neg (by omega),if_pos h]at hsa;have hb0:b=0:=by
     rw[hsa]at hsb;split at hsb
     ·omega
     ·split at hsb
      ·assumption
      ·omega
    rw[hsa];repeat' split;all_goals omega
   ·rw[if_neg (by omega),if_neg (by omega)]at hsa;have hb0:0<b:=by
     rw[hsa]at hsb;split at hsb
     ·omega
     ·split at hsb<;>omega
    rw[hsa];repeat' split;all_goals omega
  have w:IntKind.i64.wrap (b.sign*qbc a.natAbs b.natAbs)=qhV a b:=by rw[hm];unfold qhV;exact Ql (by split<;>(try split)<;>omega) (by split<;>(try split)<;>omega)
  simp[hs];refine Qc.pv (Jh a (by omega)) rfl (Qo _) ?_;simp;refine Qc.pv (qaA a.natAbs (by omega)) (Jn _) (Qo _) ?_;simp;refine Qc.pv (Jh b (by omega)) rfl (Qo _) ?_;simp;refine Qc.pv (qaA b.natAbs (by omega)) (Jn _) (Qo _) ?_;simp;refine Qc.pv hor (ZY _ _) rfl ?_;simp[w];exact .dat _ 9 rfl
 ·have e:qhV a b=if a.sign<b.sign then -1 else 1:=by
   unfold qhV;rw[hsa,hsb]at hs⊢;repeat' split;all_goals (try omega)
   all_goals (simp_all;try omega)
  rw[e];by_cases hlt:a.sign<b.sign
  ·simp[hs,hlt];exact .dat _ 9 rfl
  ·simp[hs,hlt];exact .dat _ 9 rfl
theorem qhx(s:List UInt8)(i:Nat)(h:i<s.length):aindex prog 23 (.v (.string (bs s))) (i:Int)=some (.v (.int .u8 (s[i].toNat:Int))):=by rw[V8,if_pos (by omega)];simp[h]
def slI(s:List UInt8):Int:=if(47:UInt8)∈s then((s.takeWhile (·≠47)).length:Int)else -1
theorem qfE{s:List UInt8}(h:(47:UInt8) ∉ s):slI s = -1:=if_neg h
theorem qaS{a b:List UInt8}(h:(47:UInt8) ∉ a):slI (a++47::b)=a.length:=by
 unfold slI;rw[if_pos (by simp),List.takeWhile_append_of_pos (by intro x hx;simp only[ne_eq,decide_eq_true_eq];rintro rfl;exact h hx)]
 simp
theorem KZ(s:List UInt8)(hl:s.length≤1000000):Qg prog 48 [str s] (.v (.int .i64 (slI s))):=by
 refine Qg.body func48 ntmps48 ?_;simp;refine Qp.of (fun(i:Nat) st=>i≤s.length∧(47:UInt8) ∉ s.take i∧∃env,st=⟨15,env,QQ,0⟩∧env 0=str s∧env 3=.v (.int .i64 (i:Nat))) (fun i=>s.length-i) 0 ⟨by omega,by simp,_,rfl,rfl,rfl⟩ ?_;rintro i _ ⟨hi,hno,env,rfl,g0,g3⟩;have w1:IntKind.i64.wrap ((i:Int)+1)=((i+1:Nat):Int):=by rw[Ql (by omega) (by omega)];omega
 by_cases hiN:i<s.length
 ·have hix:=qhx s i hiN;have hbn:(s[i].toNat:Int)=47↔s[i]=47:=⟨fun h=>by apply UInt8.toNat_inj.1;have:(47:UInt8).toNat=47:=rfl;omega,fun h=>by rw[h];rfl⟩;by_cases h47:s[i]=47
  ·have e:s=s.take i++47::s.drop (i+1):=by rw[←h47,←List.drop_eq_getElem_cons hiN,List.take_append_drop]
   have hsl:slI s=(i:Int):=by rw[e,qaS hno,List.length_take,Nat.min_eq_left (by omega)]
   have hv:=hbn.2 h47;generalize s[i].toNat=v at hix hv;rw[hsl];simp[g0,g3,str,Num.QB,hiN,hix,hv];exact .dat _ 9 rfl
  ·have hv:¬(s[i].toNat:Int)=47:=fun h=>h47 (hbn.1 h);have hno2:(47:UInt8) ∉ s.take (i+1):=by rw[List.take_succ_eq_append_getElem hiN];simp only[List.mem_append,List.mem_singleton,not_or];exact⟨hno,fun h=>h47 h.symm⟩
   generalize s[i].toNat=v at hix hv;have hv2:¬v=47:=by omega
   simp[-Int.natCast_add,g0,g3,str,Num.QB,hiN,hix,hv,w1];exact⟨i+1,⟨by omega,hno2,rfl⟩,by omega⟩
 ·rw[List.take_of_length_le (by omega)]at hno;rw[qfE hno];simp[g0,g3,str,Num.QB,hiN];exact .dat _ 9 rfl
end
section
attribute [local simp] Qq Qh Qk Qr QR alen QK Zd
theorem qpv{a b a' b':List UInt8}(h:(47:UInt8) ∉ a)(h':(47:UInt8) ∉ a')(e:a++47::b=a'++47::b'):a=a'∧b=b':=by have h1:=qaS (b:=b) h;rw[e,qaS h']at h1;obtain⟨e1,e2⟩:=List.append_inj e (by omega);injection e2 with _ e2;exact⟨e1,e2⟩
theorem qmi{s:List UInt8}(h:(47:UInt8)∈s):∃a b,s=a++47::b∧(47:UInt8) ∉ a:=by
 induction s with
 | nil=>cases h
 | cons c t ih =>
  by_cases hc:c=47
  ·exact⟨[],t,by rw[hc];rfl,by simp⟩
  ·rcases List.mem_cons.1 h with h1|h1
   ·exact(hc h1.symm).elim
   ·obtain⟨a,b,e,hn⟩:=ih h1;exact⟨c::a,b,by rw[e];rfl,by simp only[List.mem_cons,not_or];exact⟨fun e=>hc e.symm,hn⟩⟩
section
variable{s a b:List UInt8}
theorem qnq(h:(47:UInt8) ∉ s)(hl:s.length≤1000000):Qg prog 17 [str s] (str s):=by refine Qg.body func17 ntmps17 ?_;simp;refine Qc.pu (KZ s hl) ?_;simp[qfE h];exact .dat _ 9 rfl
theorem qjQ(h:(47:UInt8) ∉ a)(hl:(a++47::b).length≤1000000):Qg prog 17 [str (a++47::b)] (str a):=by refine Qg.body func17 ntmps17 ?_;have hsl:=Y0 (a++47::b) none (some (.v (.int .i64 (a.length:Int))));rw[V5 rfl (by simp)]at hsl;simp only[List.take_left,List.drop_zero]at hsl;simp;refine Qc.pu (KZ _ hl) ?_;simp[qaS h,str,hsl];exact .dat _ 9 rfl
theorem qqz(h:(47:UInt8) ∉ s)(hl:s.length≤1000000):Qg prog 19 [str s] (zs 1):=by refine Qg.body func19 ntmps19 ?_;rw[zs1];simp;refine Qc.pu (KZ s hl) ?_;simp[qfE h];exact .dat _ 9 rfl
theorem qmR(h:(47:UInt8) ∉ a)(hl:(a++47::b).length≤1000000):Qg prog 19 [str (a++47::b)] (str b):=by
 refine Qg.body func19 ntmps19 ?_;have hle:(a++47::b).length=a.length+(b.length+1):=by simp
 have w:IntKind.i64.wrap ((a.length:Int)+1)=((a.length+1:Nat):Int):=by rw[Ql (by omega) (by omega)];omega
 have hsl:=Y0 (a++47::b) (some (.v (.int .i64 ((a.length+1:Nat):Int)))) none;have hb:abounds (a++47::b).length (some (.v (.int .i64 ((a.length+1:Nat):Int)))) none=some (a.length+1,(a++47::b).length):=by simp only[abounds,idx];rw[if_pos ⟨by omega,by rw[hle];omega,by omega⟩];rfl
 rw[hb]at hsl;have hd:((a++47::b).take (a++47::b).length).drop (a.length+1)=b:=by rw[List.take_length,List.drop_append];simp
 simp only[hd]at hsl;simp[-Int.natCast_add];refine Qc.pu (KZ _ hl) ?_;simp[-Int.natCast_add,qaS h,str,w,hsl];exact .dat _ 9 rfl
end
theorem V0(q:Rat)(hl:(rt q).length≤1000000):Qg prog 17 [rs q] (zs q.num):=by
 unfold rs zs;unfold rt at hl⊢;split at hl
 ·rename_i h1;rw[if_pos h1];exact qnq (Jl _) hl
 ·rename_i h1;rw[if_neg h1];exact qjQ (Jl _) hl
theorem Vr(q:Rat)(hl:(rt q).length≤1000000):Qg prog 19 [rs q] (zs (q.den:Nat)):=by
 unfold rs;unfold rt at hl⊢;split at hl
 ·rename_i h1;rw[if_pos h1,h1];exact qqz (Jl _) hl
 ·rename_i h1;rw[if_neg h1,show zs ((q.den:Nat):Int)=str (dg q.den) by unfold zs;rw[VD]];exact qmR (Jl _) hl
theorem qfA(q:Rat):(rt q).length≤2*szq q+2:=by have:=qjr q;unfold szq;omega
theorem qjN(q:Rat):szq q≤(rt q).length:=by
 unfold szq rt;have h1:=Z3 q.num;have h3:=YC q.num.natAbs;split
 ·rename_i h;rw[h,Zo (n:=1) (by omega)];refine Nat.max_le.2 ⟨by omega,by omega⟩
 ·rw[List.length_append,List.length_cons];unfold nd at *;exact Nat.max_le.2 ⟨by omega,by omega⟩
theorem qdY(q:Rat)(hl:(rt q).length≤1000000):Qg prog 117 [rs q] (.v (.int .i64 (szq q:Nat))):=by
 refine Qg.body func117 ntmps117 ?_;have hz:=qjN q;have hz2:nd q.num.natAbs≤szq q∧nd q.den≤szq q:=by unfold szq;omega
 have hmx:amax false [.v (.int .i64 (nd q.num.natAbs:Nat)),.v (.int .i64 (nd q.den:Nat))]=some (.v (.int .i64 (szq q:Nat))):=by unfold szq;simp only[amax,if_true,Bool.false_eq_true,if_false];congr 3;split<;>omega
 have hdd:=Zk (q.den:Nat) (by rw[Int.natAbs_natCast];omega);rw[Int.natAbs_natCast]at hdd;simp;refine Qc.pv (V0 q hl) (by simp[Qn]) rfl ?_;simp;refine Qc.pu (Zk q.num (by omega)) ?_;simp;refine Qc.pv (Vr q hl) (by simp[Qn]) rfl ?_;simp;refine Qc.pu hdd ?_;simp[hmx];exact .dat _ 9 rfl
noncomputable def isQ(s:List UInt8):Bool:=@decide (∃q,s=rt q) (Classical.propDecidable _)
theorem Wo{s:List UInt8}:isQ s=true↔∃q,s=rt q:=by unfold isQ;exact @decide_eq_true_iff _ (Classical.propDecidable _)
theorem JS{x y:Bool}(h:x=true↔y=true):x=y:=by cases x<;>cases y<;>simp_all
theorem qoy{s:List UInt8}(h:(47:UInt8) ∉ s):isQ s=isI s:=JS ⟨fun hq=>by
  obtain⟨q,rfl⟩:=Wo.1 hq;by_cases hd:q.den=1
  ·rw[rt,if_pos hd];exact qcI _
  ·rw[rt,if_neg hd]at h;exact(h (by simp)).elim,fun hi=>by
  obtain⟨z,rfl⟩:=Jx.1 hi;exact Wo.2 ⟨(z:Rat),by rw[rt,if_pos (Rat.den_intCast z),Rat.num_intCast]⟩⟩
theorem VE{a b:List UInt8}(h:(47:UInt8) ∉ a)(hq:isQ (a++47::b)=true):∃x y:Int,a=il x∧b=il y∧1<y∧Int.gcd x y=1:=by
 obtain⟨q,e⟩:=Wo.1 hq;by_cases hd:q.den=1
 ·rw[rt,if_pos hd]at e;have:=Jl q.num;rw[←e]at this;exact(this (by simp)).elim
 ·rw[rt,if_neg hd]at e;obtain⟨e1,e2⟩:=qpv h (Jl _) e;have:=q.den_pos;exact⟨q.num,(q.den:Nat),e1,by rw[VD];exact e2,by omega,q.reduced⟩
theorem qlx{x y:Int}(hy:1<y)(hg:Int.gcd x y=1):isQ (il x++47::il y)=true:=by refine Wo.2 ⟨⟨x,y.natAbs,by omega,hg⟩,?_⟩;rw[rt,if_neg (show ¬y.natAbs=1 by omega)];congr 2;rw[il,if_neg (by omega)]
theorem qio(s:List UInt8)(hl:s.length≤4000):Qg prog 116 [str s] (.v (.bool (isQ s))):=by
 refine Qg.body func116 ntmps116 ?_;by_cases h47:(47:UInt8)∈s
 ·obtain⟨a,b,rfl,hn⟩:=qmi h47;have hal:a.length≤4000:=by simp at hl;omega
  have hbl:b.length≤4000:=by simp at hl;omega
  have hsl:=KZ (a++47::b) (by omega);rw[qaS hn]at hsl;have hch:=KP a (by omega);simp;refine Qc.pu (qjQ hn (by omega)) ?_;simp;refine Qc.pu hch ?_;cases hI:isI a with
  | false =>
   have hQ:isQ (a++47::b)=false:=by
    cases hq:isQ (a++47::b)with
    | false=>rfl
    | true=>obtain⟨x,y,rfl,_⟩:=VE hn hq;rw[qcI]at hI;cases hI
   simp[hQ,-Qa,-Qb];exact .dat _ 9 rfl
  | true =>
   obtain⟨x,rfl⟩:=Jx.1 hI;have hch2:=KP b (by omega);simp[-Qa,-Qb,undef];refine Qc.pu hsl ?_;simp[-Qa,-Qb,show ¬((il x).length:Int)<0 by omega];refine Qc.pu (qmR (b:=b) hn (by omega)) ?_;simp[-Qa,-Qb];refine Qc.pu hch2 ?_;cases hJ:isI b with
   | false =>
    have hQ:isQ (il x++47::b)=false:=by
     cases hq:isQ (il x++47::b)with
     | false=>rfl
     | true=>obtain⟨_,y,_,rfl,_⟩:=VE hn hq;rw[qcI]at hJ;cases hJ
    simp[hQ,-Qa,-Qb];exact .dat _ 9 rfl
   | true =>
    obtain⟨y,rfl⟩:=Jx.1 hJ;have hnx:nd x.natAbs≤4000:=by rw[Z3]at hal;split at hal<;>omega
    have hny:nd y.natAbs≤4000:=by rw[Z3]at hbl;split at hbl<;>omega
    have hord:=qi4 y 1 (by omega) (by rw[show(1:Int).natAbs=1 from rfl,Zo (by omega)];omega);rw[zs1]at hord;have hcm:=Xx x y (by omega) (by omega);unfold zs at hcm hord;simp[-Qa,-Qb,undef];refine Qc.pu hord ?_;by_cases hy:1<y
    ·have hcz:qhV y 1=1:=by unfold qhV;rw[if_neg (by omega),if_neg (by omega)]
     rw[hcz];simp[-Qa,-Qb];refine Qc.pu (qjQ hn (by omega)) ?_;simp[-Qa,-Qb];refine Qc.pu hcm ?_;have hQ:isQ (il x++47::il y)=decide (((Int.gcd x y:Nat):Int)=1):=JS ⟨fun hq=>by obtain⟨x',y',e1,e2,_,hg⟩:=VE hn hq;rw[K7 e1,K7 e2,hg];rfl,fun hd=>qlx hy (by have:=of_decide_eq_true hd;omega)⟩
     rw[hQ];simp[-Qa,-Qb,str,qr2];exact .dat _ 9 rfl
    ·have hcz:¬0<qhV y 1:=by unfold qhV;split<;>(try split)<;>omega
     have hQ:isQ (il x++47::il y)=false:=by
      cases hq:isQ (il x++47::il y)with
      | false=>rfl
      | true =>obtain⟨x',y',e1,e2,h1,hg⟩:=VE hn hq;rw[K7 e2]at hy;exact(hy h1).elim
     rw[hQ];simp[-Qa,-Qb,hcz,undef];exact .dat _ 9 rfl
 ·have hsl:=KZ s (by omega);rw[qfE h47]at hsl;rw[qoy h47];simp;refine Qc.pu (qnq h47 (by omega)) ?_;simp;refine Qc.pu (KP s (by omega)) ?_;cases hI:isI s with
  | false =>simp[-Qa,-Qb];exact .dat _ 9 rfl
  | true =>simp[-Qa,-Qb,undef];refine Qc.pu hsl ?_;simp[-Qa,-Qb];exact .dat _ 9 rfl
theorem qf8(s:List UInt8)(hl:s.length≤4000):Qg prog 85 [str s] (.v (.int .i64 (if isQ s=true then 0 else 3))):=by
 refine Qg.body func85 ntmps85 ?_;simp;refine Qc.pu (qio s hl) ?_;cases hQ:isQ s with
 | false =>simp;exact .dat _ 9 rfl
 | true =>obtain⟨q,rfl⟩:=Wo.1 hQ;have hz:=qjN q;have hd:=qdY q (by omega);unfold rs at hd;simp;refine Qc.pu hd ?_;simp[show ¬(4096:Int)<(szq q:Int) by omega];exact .dat _ 9 rfl
end
section
attribute [local simp] Qq Qh Qk Qr QR alen QK Zd
def sl(l:List (List UInt8)):List (List AV):=l.map fun s=>[str s]
theorem qdi(l:List (List UInt8)):(sl l).length=l.length:=by simp[sl]
theorem X9(l:List (List UInt8))(i:Nat)(h:i<(sl l).length):(sl l)[i]=[str (l[i]'(by simpa[sl]using h))]:=by simp[sl]
theorem qpt(l:List (List UInt8))(k:Nat):Qu (k+3) (.ro (sl l))=true:=by simp[sl,str]
theorem qnm{α:Type}(f:α→List UInt8)(l:List α):sl (l.map f)=l.map fun a=>[str (f a)]:=by simp[sl]
attribute [local simp] qdi X9
theorem qgS(q:Rat)(hl:(rt q).length≤1000000):Qg prog 86 [rs q] (.v (.bool (decide (szq q≤100)))):=by
 refine Qg.body func86 ntmps86 ?_;have hz2:nd q.num.natAbs≤szq q∧nd q.den≤szq q:=by unfold szq;omega
 have hz:=qjN q;have hdd:=Zk (q.den:Nat) (by rw[Int.natAbs_natCast];omega);rw[Int.natAbs_natCast]at hdd;simp;refine Qc.pv (V0 q hl) (by simp[Qn]) rfl ?_;simp;refine Qc.pu (Zk q.num (by omega)) ?_;by_cases h1:nd q.num.natAbs≤100
 ·have h1':((nd q.num.natAbs:Nat):Int)≤100:=by omega
  simp[-Qa,-Qb,h1'];refine Qc.pv (Vr q hl) (by simp[Qn]) rfl ?_;simp[-Qa,-Qb];refine Qc.pu hdd ?_;have e:decide (szq q≤100)=decide (((nd q.den:Nat):Int)≤100):=by apply JS;simp only[decide_eq_true_eq];unfold szq;omega
  rw[e];simp[-Qa,-Qb];exact .dat _ 9 rfl
 ·have h1':¬((nd q.num.natAbs:Nat):Int)≤100:=by omega
  have e:decide (szq q≤100)=false:=decide_eq_false (by omega);rw[e];simp[-Qa,-Qb,h1',undef];exact .dat _ 9 rfl
theorem XZ(s:List UInt8)(hl:s.length≤4000):∃e:Int,Qg prog 56 [str s] (.v (.int .i64 e))∧(e=0→∃q,s=rt q∧szq q≤100):=by
 have hch:=qf8 s hl;cases hQ:isQ s with
 | false =>rw[hQ]at hch;refine⟨3,⟨⟨_,_,func56,by kernel_rfl,rfl⟩,(Qv.data (Q:=fun r=>r=(.v (.int .i64 3))) (Qv.QM func56 rfl (by simp[ntmps56]) (Qd _ _ _ ?_))).mono fun r H N h=>h.2.2⟩,fun h=>by omega⟩;simp;refine Qc.pu hch ?_;simp;exact .dat _ 9 rfl
 | true =>
  obtain⟨q,rfl⟩:=Wo.1 hQ;have hsh:=qgS q (by omega);unfold rs at hsh;rw[hQ]at hch;by_cases h100:szq q≤100
  ·rw[decide_eq_true h100]at hsh;refine⟨0,⟨⟨_,_,func56,by kernel_rfl,rfl⟩,(Qv.data (Q:=fun r=>r=(.v (.int .i64 0))) (Qv.QM func56 rfl (by simp[ntmps56]) (Qd _ _ _ ?_))).mono fun r H N h=>h.2.2⟩,fun _=>⟨q,rfl,h100⟩⟩;simp;refine Qc.pu hch ?_;simp;refine Qc.pu hsh ?_;simp;exact .dat _ 9 rfl
  ·rw[decide_eq_false h100]at hsh;refine⟨10,⟨⟨_,_,func56,by kernel_rfl,rfl⟩,(Qv.data (Q:=fun r=>r=(.v (.int .i64 10))) (Qv.QM func56 rfl (by simp[ntmps56]) (Qd _ _ _ ?_))).mono fun r H N h=>h.2.2⟩,fun h=>by omega⟩;simp;refine Qc.pu hch ?_;simp;refine Qc.pu hsh ?_;simp;exact .dat _ 9 rfl
def fnz:List Int→Int|[]=>0|x::l=>if x=0 then fnz l else x
theorem qe4:∀{l:List Int},fnz l=0→∀x∈l,x=0:=by
 intro l;induction l with
 | nil=>intro _ x hx;cases hx
 | cons a l ih =>
  intro h x hx;simp only[fnz]at h;split at h
  ·rename_i ha;rcases List.mem_cons.1 hx with h1|h1
   ·rw[h1];exact ha
   ·exact ih h x h1
  ·rename_i ha;exact(ha h).elim
theorem qcX(l:List (List UInt8))(hs:∀s∈l,s.length≤4000)(hl:l.length≤1000000):∃e:Int,Qg prog 55 [.ro (sl l)] (.v (.int .i64 e))∧(e=0→∀s∈l,∃q,s=rt q∧szq q≤100):=by
 obtain⟨E,hE⟩:=Classical.axiomOfChoice (r:=fun(s:List UInt8) (e:Int)=>s.length≤4000→Qg prog 56 [str s] (.v (.int .i64 e))∧(e=0→∃q,s=rt q∧szq q≤100)) fun s=>by
  by_cases h:s.length≤4000
  ·obtain⟨e,he⟩:=XZ s h;exact⟨e,fun _=>he⟩
  ·exact⟨0,fun h'=>(h h').elim⟩
 refine⟨fnz (l.map E),⟨⟨_,_,func55,by kernel_rfl,rfl⟩,(Qv.data (Q:=fun r=>r=(.v (.int .i64 (fnz (l.map E))))) (Qv.QM func55 rfl (by simp[ntmps55]) (Qd _ _ _ ?_))).mono fun r H N h=>h.2.2⟩,fun h s hm=>(hE s (hs s hm)).2 (qe4 h _ (List.mem_map_of_mem hm))⟩;simp;refine Qp.of (fun(i:Nat) st=>i≤l.length∧fnz (l.map E)=fnz ((l.drop i).map E)∧∃env,st=⟨19,env,QQ,0⟩∧env 0=.ro (sl l)∧env 3=.v (.int .i64 (i:Nat))) (fun i=>l.length-i) 0 ⟨by omega,by simp,_,rfl,rfl,rfl⟩ ?_;rintro i _ ⟨hi,hf,env,rfl,g0,g3⟩;have w1:IntKind.i64.wrap ((i:Int)+1)=((i+1:Nat):Int):=by rw[Ql (by omega) (by omega)];omega
 by_cases hiN:i<l.length
 ·have hc:=(hE l[i] (hs _ (List.getElem_mem hiN))).1;rw[List.drop_eq_getElem_cons hiN,List.map_cons,fnz]at hf;generalize E l[i]=e at hc hf;simp[g0,g3,hiN,aload];refine Qc.pu hc ?_;by_cases h0:e=0
  ·rw[if_pos h0]at hf;simp[-Int.natCast_add,g0,g3,h0,w1];exact⟨i+1,⟨by omega,by rw[hf];simp,rfl⟩,by omega⟩
  ·rw[if_neg h0]at hf;simp[g0,g3,h0,hf];exact .dat _ 9 rfl
 ·rw[List.drop_eq_nil_of_le (by omega)]at hf;simp[g0,g3,hiN,hf,fnz];exact .dat _ 9 rfl
theorem qrE{l:List (List UInt8)}(h:∀s∈l,∃q,s=rt q∧szq q≤100):∃co:List Rat,l=co.map rt∧∀q∈co,szq q≤100:=by
 induction l with
 | nil=>exact⟨[],rfl,by simp⟩
 | cons s l ih =>
  obtain⟨q,h1,h2⟩:=h s (by simp);obtain⟨co,h3,h4⟩:=ih fun x hx=>h x (by simp[hx]);exact⟨q::co,by rw[h1,h3];rfl,fun x hx=>by
   rcases List.mem_cons.1 hx with h|h
   ·rw[h];exact h2
   ·exact h4 x h⟩
theorem qf9(l:List (List UInt8))(k:List UInt8)(hs:∀s∈l,s.length≤4000)(hk:k.length≤4000)(hl:l.length≤1000000):∃e:Int,Qg prog 20 [.agg [.ro (sl l),str k]] (.v (.int .i64 e))∧(e=0→∃co c0,l=co.map rt∧k=rt c0∧Ln co c0):=by
 obtain⟨e1,hn,h1⟩:=qcX l hs hl;obtain⟨e2,hk2,h2⟩:=XZ k hk;have hstr:∃x,str k=.v x:=⟨_,rfl⟩;by_cases h32:32<l.length
 ·refine⟨5,⟨⟨_,_,func20,by kernel_rfl,rfl⟩,(Qv.data (Q:=fun r=>r=(.v (.int .i64 5))) (Qv.QM func20 rfl (by simp[ntmps20]) (Qd _ _ _ ?_))).mono fun r H N h=>h.2.2⟩,fun h=>by omega⟩;have h32':(32:Int)<(l.length:Int):=by omega
  simp[str,h32'];exact .dat _ 9 rfl
 ·have h32':¬(32:Int)<(l.length:Int):=by omega
  refine⟨if e1=0 then e2 else e1,⟨⟨_,_,func20,by kernel_rfl,rfl⟩,(Qv.data (Q:=fun r=>r=(.v (.int .i64 (if e1=0 then e2 else e1)))) (Qv.QM func20 rfl (by simp[ntmps20]) (Qd _ _ _ ?_))).mono fun r H N h=>h.2.2⟩,fun h=>?_⟩
  ·simp[str,h32'];refine Qc.pv hn (by rw[List.all_cons,qpt];rfl) rfl ?_;by_cases h0:e1=0
   ·simp[h0];refine Qc.pu hk2 ?_;simp;exact .dat _ 9 rfl
   ·simp[h0];exact .dat _ 9 rfl
  ·by_cases h0:e1=0
   ·rw[if_pos h0]at h;obtain⟨co,h3,h4⟩:=qrE (h1 h0);obtain⟨c0,h5,h6⟩:=h2 h;exact⟨co,c0,h3,h5,by have:=congrArg List.length h3;simp at this;omega,h4,h6⟩
   ·rw[if_neg h0]at h;exact(h0 h).elim
theorem qaE(s:List UInt8):Qg prog 64 [str s] (.v (.bool (decide (s.length≤450)))):=by
 refine Qg.body func64 ntmps64 ?_;have e:decide (s.length≤450)=decide ((s.length:Int)≤450):=by apply JS;simp only[decide_eq_true_eq];omega
 rw[e];simp[str,Num.QB];exact .dat _ 9 rfl
def qii(l:List (List UInt8))(k:List UInt8):Bool:=decide (l.length≤40)&&(decide (k.length≤450)&&l.all fun s=>decide (s.length≤450))
theorem qlk(l:List (List UInt8))(k:List UInt8)(hl:l.length<9223372036854775808):Qg prog 27 [.agg [.ro (sl l),str k]] (.v (.bool (qii l k))):=by
 refine Qg.body func27 ntmps27 ?_;by_cases h40:40<l.length
 ·have h40':(40:Int)<(l.length:Int):=by omega
  have e:qii l k=false:=by unfold qii;rw[decide_eq_false (by omega)];rfl
  rw[e];simp[str,h40',undef,-Qa,-Qb];exact .dat _ 9 rfl
 ·have h40':¬(40:Int)<(l.length:Int):=by omega
  have hft:=qaE k;by_cases hk:k.length≤450
  ·have e:qii l k=l.all fun s=>decide (s.length≤450):=by unfold qii;rw[decide_eq_true (by omega),decide_eq_true hk];simp
   rw[decide_eq_true hk]at hft;simp[str,h40',-Qa,-Qb];refine Qc.pu hft ?_;simp[-Qa,-Qb];refine Qp.of (fun(i:Nat) st=>i≤l.length∧(∀s∈l.take i,s.length≤450)∧∃env,st=⟨28,env,QQ.set 0 ⟨25,2,[[.ro (sl l),str k]],false,some 1⟩,1⟩∧env 1=.ptr 0 2 0 0∧env 3=.v (.int .i64 (i:Nat))) (fun i=>l.length-i) 0 ⟨by omega,by simp,_,rfl,by simp,by simp⟩ ?_;rintro i _ ⟨hi,hall,env,rfl,g1,g3⟩;have w1:IntKind.i64.wrap ((i:Int)+1)=((i+1:Nat):Int):=by rw[Ql (by omega) (by omega)];omega
   by_cases hiN:i<l.length
   ·have hfi:=qaE l[i];simp[g1,g3,hiN];refine Qc.pu hfi ?_;by_cases hsi:l[i].length≤450
    ·simp[-Int.natCast_add,g1,g3,hsi,w1];refine⟨i+1,⟨by omega,?_,rfl⟩,by omega⟩;intro s hs;rw[List.take_succ_eq_append_getElem hiN]at hs;rcases List.mem_append.1 hs with h|h
     ·exact hall s h
     ·simp at h;rw[h];exact hsi
    ·have e2:qii l k=false:=by
      rw[e];cases hq:l.all fun s=>decide (s.length≤450)with
      | false=>rfl
      | true=>exact(hsi (by simpa using List.all_eq_true.1 hq _ (List.getElem_mem hiN))).elim
     rw[e2];simp[g1,g3,hsi];exact .dat _ 9 rfl
   ·rw[List.take_of_length_le (by omega)]at hall;have e2:qii l k=true:=by rw[e,List.all_eq_true];intro s hs;exact decide_eq_true (hall s hs)
    rw[e2];simp[g1,g3,hiN];exact .dat _ 9 rfl
  ·have e:qii l k=false:=by unfold qii;rw[decide_eq_false hk];simp
   rw[decide_eq_false hk]at hft;rw[e];simp[str,h40',-Qa,-Qb];refine Qc.pu hft ?_;simp[-Qa,-Qb];exact .dat _ 9 rfl
end
end Go.AX.Run
namespace Go.AX.Run
open Go.RowKit Go.Proofs Go.AX Go.Num
structure Tb where
 basis:List Nat
 rows:List (Rat×List Rat)
 cols:List Nat
 goals:List (Rat×List Rat)
inductive Loc
 | tab|basis|rows|cols|goals
 | rc (i:Nat)|gp (i:Nat)|gc (i:Nat)
 deriving DecidableEq
def Tb.row(T:Tb)(i:Nat):Rat×List Rat:=T.rows.getD i (0,[])
def Tb.goal(T:Tb)(i:Nat):Rat×List Rat:=T.goals.getD i (0,[])
def YU(T:Tb)(loc:Loc→Nat):List (List AV):=(List.range T.rows.length).map fun i=>Yb (T.row i).1 (loc (.rc i)) T.cols.length
def Q8(T:Tb)(loc:Loc→Nat):List (List AV):=(List.range T.goals.length).map fun i=>[.ptr (loc (.gp i)) 2 0 0]
def Tb.valid(T:Tb):Loc→Prop
 | .rc i=>i<T.rows.length
 | .gp i=>i<T.goals.length
 | .gc i=>i<T.goals.length
 | _=>True
def tref(T:Tb)(loc:Loc→Nat)(n:Nat)(F:List Fct):Blk:=Z5 n F (.ref (loc .basis) 1 0 T.basis.length none) (.ref (loc .rows) 2 0 T.rows.length none) (.ref (loc .cols) 1 0 T.cols.length none) (.ref (loc .goals) 1 0 T.goals.length none)
structure Rep(n:Nat)(F:List Fct)(H:Qf)(N:Nat)(loc:Loc→Nat)(T:Tb):Prop where
 hbl:T.basis.length=T.rows.length
 hrl:∀i,i<T.rows.length→(T.row i).2.length=T.cols.length
 hgl:∀i,i<T.goals.length→(T.goal i).2.length=T.cols.length
 lt:∀L,T.valid L→loc L<N
 inj:∀L L',T.valid L→T.valid L'→loc L=loc L'→L=L'
 tab:H.b (loc .tab)=some (tref T loc n F)
 basis:∃cap t,H.b (loc .basis)=some ⟨3,1,nl T.basis++t,false,cap⟩
 rows:∃cap t,H.b (loc .rows)=some ⟨121,2,YU T loc++t,false,cap⟩
 cols:∃cap t,H.b (loc .cols)=some ⟨3,1,nl T.cols++t,false,cap⟩
 goals:∃cap t,H.b (loc .goals)=some ⟨122,1,Q8 T loc++t,false,cap⟩
 rc:∀i,i<T.rows.length→JA H (loc (.rc i)) (T.row i).2
 gp:∀i,i<T.goals.length→∃cap t,H.b (loc (.gp i))=some ⟨121,2,Yb (T.goal i).1 (loc (.gc i)) T.cols.length::t,false,cap⟩
 gc:∀i,i<T.goals.length→JA H (loc (.gc i)) (T.goal i).2
theorem ZF(T:Tb)(loc:Loc→Nat)(t:List (List AV))(i:Nat)(h:i<T.rows.length):(YU T loc++t)[i]?=some (Yb (T.row i).1 (loc (.rc i)) T.cols.length):=by rw[List.getElem?_append_left (by simp[YU,h])];simp[YU,h]
theorem KR(T:Tb)(loc:Loc→Nat)(t:List (List AV))(i:Nat)(h:i<T.goals.length):(Q8 T loc++t)[i]?=some [.ptr (loc (.gp i)) 2 0 0]:=by rw[List.getElem?_append_left (by simp[Q8,h])];simp[Q8,h]
theorem Zq(l:List Nat)(t:List (List AV))(i:Nat)(h:i<l.length):(nl l++t)[i]?=some [.v (.int .i64 (l[i]:Int))]:=by rw[List.getElem?_append_left (by rw[QJ];exact h),K8 l i h]
theorem Rep.ne{n:Nat}{F:List Fct}{H:Qf}{N:Nat}{loc:Loc→Nat}{T:Tb}(h:Rep n F H N loc T){L L':Loc}(v:T.valid L)(v':T.valid L')(hne:L≠L'):loc L≠loc L':=fun e=>hne (h.inj L L' v v' e)
theorem Rep.ext{n:Nat}{F:List Fct}{H H':Qf}{N N':Nat}{loc:Loc→Nat}{T:Tb}(h:Rep n F H N loc T)(e:Ext H N H' N'):Rep n F H' N' loc T:=by
 have hb:∀L,T.valid L→H'.b (loc L)=H.b (loc L):=fun L v=>e.2.2 _ (h.lt L v);exact⟨h.hbl,h.hrl,h.hgl,fun L v=>Nat.lt_of_lt_of_le (h.lt L v) e.1,h.inj,by rw[hb .tab trivial];exact h.tab,by rw[hb .basis trivial];exact h.basis,by rw[hb .rows trivial];exact h.rows,by rw[hb .cols trivial];exact h.cols,by rw[hb .goals trivial];exact h.goals,
  fun i hi=>by unfold JA;rw[hb (.rc i) hi];exact h.rc i hi,fun i hi=>by rw[hb (.gp i) hi];exact h.gp i hi,fun i hi=>by unfold JA;rw[hb (.gc i) hi];exact h.gc i hi⟩
theorem KI(T:Tb)(j:Nat)(r:Rat×List Rat)(i:Nat)(hj:j<T.rows.length):Tb.row { T with rows:=T.rows.set j r } i=if i=j then r else T.row i:=by
 unfold Tb.row;simp only[List.getD_eq_getElem?_getD,List.getElem?_set];by_cases h:i=j
 ·subst h;simp[hj]
 ·simp[h,show ¬j=i from fun e=>h e.symm]
theorem qjq(T:Tb)(loc:Loc→Nat)(t:List (List AV))(j:Nat)(r:Rat×List Rat)(hj:j<T.rows.length):(YU T loc++t).set j (Yb r.1 (loc (.rc j)) T.cols.length)=YU { T with rows:=T.rows.set j r } loc++t:=by
 rw[List.set_append_left _ _ (by simp[YU,hj])];congr 1;apply List.ext_getElem?;intro i;rw[List.getElem?_set];by_cases hi:i<T.rows.length
 ·simp only[YU,List.length_map,List.length_range,List.getElem?_map,List.length_set,List.getElem?_range hi,Option.map_some,KI T j r i hj];by_cases h:j=i
  ·subst h;simp[hj]
  ·simp[h,show ¬i=j from fun e=>h e.symm]
 ·have h1:(List.range T.rows.length)[i]?=none:=by simp;omega
  simp only[YU,List.length_map,List.length_range,List.getElem?_map,List.length_set,h1,Option.map_none];by_cases h:j=i
  ·subst h;exact absurd hj hi
  ·simp[h]
theorem Rep.qrC{n:Nat}{F:List Fct}{H H':Qf}{N N':Nat}{loc:Loc→Nat}{T:Tb}(h:Rep n F H N loc T){j:Nat}(hj:j<T.rows.length)(r:Rat×List Rat)(hr:r.2.length=T.cols.length){cap cap2:Option Nat}{t t2:List (List AV)}
  (e:Ext ((H.set (loc .rows) ⟨121,2,(YU T loc++t).set j (Yb r.1 (loc (.rc j)) T.cols.length),false,cap⟩).set (loc (.rc j)) ⟨23,1,ql r.2++t2,false,cap2⟩) N H' N'):Rep n F H' N' loc { T with rows:=T.rows.set j r }:=by
 refine Rep.ext ?_ e;have vj:T.valid (.rc j):=hj;have hv:∀L,Tb.valid { T with rows:=T.rows.set j r } L→T.valid L:=fun L v=>by cases L<;>simp only[Tb.valid,List.length_set]at v⊢<;>exact v
 have ho:∀L,T.valid L→L≠.rows→L≠.rc j→((H.set (loc .rows) ⟨121,2,(YU T loc++t).set j (Yb r.1 (loc (.rc j)) T.cols.length),false,cap⟩).set (loc (.rc j)) ⟨23,1,ql r.2++t2,false,cap2⟩).b (loc L)=H.b (loc L):=fun L v h1 h2=>by simp[h.ne v (L':=.rows) trivial h1,h.ne v vj h2]
 refine⟨by simpa using h.hbl,fun i hi=>?_,h.hgl,fun L v=>h.lt L (hv L v),fun L L' v v'=>h.inj L L' (hv L v) (hv L' v'),?_,?_,?_,?_,?_,fun i hi=>?_,fun i hi=>?_,fun i hi=>?_⟩
 ·rw[KI T j r i hj];split
  ·exact hr
  ·exact h.hrl i (by simpa using hi)
 ·rw[ho .tab trivial (by simp) (by simp),h.tab];simp[tref]
 ·rw[ho .basis trivial (by simp) (by simp)];exact h.basis
 ·refine⟨cap,t,?_⟩;rw[←qjq T loc t j r hj];simp[h.ne (L:=.rows) (L':=.rc j) trivial vj (by simp)]
 ·rw[ho .cols trivial (by simp) (by simp)];exact h.cols
 ·rw[ho .goals trivial (by simp) (by simp)];exact h.goals
 ·have hi':i<T.rows.length:=by simpa using hi
  rw[KI T j r i hj];by_cases hij:i=j
  ·subst hij;exact⟨cap2,t2,by simp⟩
  ·rw[if_neg hij];unfold JA;rw[ho (.rc i) hi' (by simp) (by simpa using hij)];exact h.rc i hi'
 ·rw[ho (.gp i) hi (by simp) (by simp)];exact h.gp i hi
 ·unfold JA;rw[ho (.gc i) hi (by simp) (by simp)];exact h.gc i hi
theorem VB(T:Tb)(j:Nat)(r:Rat×List Rat)(i:Nat)(hj:j<T.goals.length):Tb.goal { T with goals:=T.goals.set j r } i=if i=j then r else T.goal i:=by
 unfold Tb.goal;simp only[List.getD_eq_getElem?_getD,List.getElem?_set];by_cases h:i=j
 ·subst h;simp[hj]
 ·simp[h,show ¬j=i from fun e=>h e.symm]
theorem Rep.qot{n:Nat}{F:List Fct}{H H':Qf}{N N':Nat}{loc:Loc→Nat}{T:Tb}(h:Rep n F H N loc T){j:Nat}(hj:j<T.goals.length)(r:Rat×List Rat)(hr:r.2.length=T.cols.length){cap cap2:Option Nat}{t t2:List (List AV)}
  (e:Ext ((H.set (loc (.gp j)) ⟨121,2,Yb r.1 (loc (.gc j)) T.cols.length::t,false,cap⟩).set (loc (.gc j)) ⟨23,1,ql r.2++t2,false,cap2⟩) N H' N'):Rep n F H' N' loc { T with goals:=T.goals.set j r }:=by
 refine Rep.ext ?_ e;have vp:T.valid (.gp j):=hj;have vc:T.valid (.gc j):=hj;have hv:∀L,Tb.valid { T with goals:=T.goals.set j r } L→T.valid L:=fun L v=>by cases L<;>simp only[Tb.valid,List.length_set]at v⊢<;>exact v
 have ho:∀L,T.valid L→L≠.gp j→L≠.gc j→((H.set (loc (.gp j)) ⟨121,2,Yb r.1 (loc (.gc j)) T.cols.length::t,false,cap⟩).set (loc (.gc j)) ⟨23,1,ql r.2++t2,false,cap2⟩).b (loc L)=H.b (loc L):=fun L v h1 h2=>by simp[h.ne v vp h1,h.ne v vc h2]
 have hgl:Q8 { T with goals:=T.goals.set j r } loc=Q8 T loc:=by simp[Q8]
 refine⟨h.hbl,h.hrl,fun i hi=>?_,fun L v=>h.lt L (hv L v),fun L L' v v'=>h.inj L L' (hv L v) (hv L' v'),?_,?_,?_,?_,?_,fun i hi=>?_,fun i hi=>?_,fun i hi=>?_⟩
 ·rw[VB T j r i hj];split
  ·exact hr
  ·exact h.hgl i (by simpa using hi)
 ·rw[ho .tab trivial (by simp) (by simp),h.tab];simp[tref]
 ·rw[ho .basis trivial (by simp) (by simp)];exact h.basis
 ·rw[ho .rows trivial (by simp) (by simp)];exact h.rows
 ·rw[ho .cols trivial (by simp) (by simp)];exact h.cols
 ·rw[ho .goals trivial (by simp) (by simp),hgl];exact h.goals
 ·unfold JA;rw[ho (.rc i) hi (by simp) (by simp)];exact h.rc i hi
 ·have hi':i<T.goals.length:=by simpa using hi
  rw[VB T j r i hj];by_cases hij:i=j
  ·subst hij;refine⟨cap,t,?_⟩;simp[h.ne (L:=.gp i) (L':=.gc i) vp vc (by simp)]
  ·rw[if_neg hij,ho (.gp i) hi' (by simpa using hij) (by simp)];exact h.gp i hi'
 ·have hi':i<T.goals.length:=by simpa using hi
  rw[VB T j r i hj];by_cases hij:i=j
  ·subst hij;exact⟨cap2,t2,by simp⟩
  ·rw[if_neg hij];unfold JA;rw[ho (.gc i) hi' (by simp) (by simpa using hij)];exact h.gc i hi'
def relocate(loc:Loc→Nat)(i q:Nat):Loc→Nat:=fun L=>if L=.rc i then q else loc L
theorem qnc(l:List Nat)(t:List (List AV))(i x:Nat)(h:i<l.length):(nl l++t).set i [.v (.int .i64 (x:Int))]=nl (l.set i x)++t:=by rw[List.set_append_left _ _ (by rw[QJ];exact h),K9]
theorem qeo(T:Tb)(loc:Loc→Nat)(t:List (List AV))(i q:Nat)(bx:Rat)(bl:List Rat)(hi:i<T.rows.length):(YU T loc++t).set i (Yb bx q T.cols.length)=YU { T with rows:=T.rows.set i (bx,bl) } (relocate loc i q)++t:=by
 rw[List.set_append_left _ _ (by simp[YU,hi])];congr 1;apply List.ext_getElem?;intro j;rw[List.getElem?_set];by_cases hj:j<T.rows.length
 ·simp only[YU,List.length_map,List.length_range,List.getElem?_map,List.length_set,List.getElem?_range hj,Option.map_some,KI T i (bx,bl) j hi];by_cases h:i=j
  ·subst h;simp[hi,relocate]
  ·simp[h,show ¬j=i from fun e=>h e.symm,relocate]
 ·have h1:(List.range T.rows.length)[j]?=none:=by simp;omega
  simp only[YU,List.length_map,List.length_range,List.getElem?_map,List.length_set,h1,Option.map_none];by_cases h:i=j
  ·subst h;exact absurd hi hj
  ·simp[h]
theorem Rep.fin{n:Nat}{F:List Fct}{G:Qf}{N':Nat}{loc:Loc→Nat}{T:Tb}{i k q:Nat}{bx:Rat}{bl:List Rat}{c1 c2 c3:Option Nat}{t1 t2 t3:List (List AV)}(h:Rep n F G N' loc T)(hi:i<T.rows.length)(hk:k<T.cols.length)(hq:q<N')(hqL:∀L,T.valid L→loc L≠q)(hbl:bl.length=T.cols.length)(hGq:JA G q bl) :
  Rep n F (((G.set (loc .rows) ⟨121,2,(YU T loc++t1).set i (Yb bx q T.cols.length),false,c1⟩).set (loc .basis) ⟨3,1,nl (T.basis.set i (T.cols.getD k 0))++t2,false,c2⟩).set (loc .cols) ⟨3,1,nl (T.cols.set k (T.basis.getD i 0))++t3,false,c3⟩) N' (relocate loc i q)
   { basis:=T.basis.set i (T.cols.getD k 0),rows:=T.rows.set i (bx,bl),cols:=T.cols.set k (T.basis.getD i 0),goals:=T.goals }:=by
 have hv:∀L,Tb.valid { basis:=T.basis.set i (T.cols.getD k 0),rows:=T.rows.set i (bx,bl),cols:=T.cols.set k (T.basis.getD i 0),goals:=T.goals } L→T.valid L:=fun L v=>by cases L<;>simp only[Tb.valid,List.length_set]at v⊢<;>exact v
 have hrl:∀L,T.valid L→relocate loc i q L=q∨relocate loc i q L=loc L:=fun L v=>by unfold relocate;split<;>simp
 have ho:∀L,T.valid L→L≠.rows→L≠.basis→L≠.cols→(((G.set (loc .rows) ⟨121,2,(YU T loc++t1).set i (Yb bx q T.cols.length),false,c1⟩).set (loc .basis) ⟨3,1,nl (T.basis.set i (T.cols.getD k 0))++t2,false,c2⟩).set (loc .cols) ⟨3,1,nl (T.cols.set k (T.basis.getD i 0))++t3,false,c3⟩).b (loc L)=G.b (loc L):=fun L v h1 h2 h3=>by simp[h.ne v (L':=.rows) trivial h1,h.ne v (L':=.basis) trivial h2,h.ne v (L':=.cols) trivial h3]
 have hoq:(((G.set (loc .rows) ⟨121,2,(YU T loc++t1).set i (Yb bx q T.cols.length),false,c1⟩).set (loc .basis) ⟨3,1,nl (T.basis.set i (T.cols.getD k 0))++t2,false,c2⟩).set (loc .cols) ⟨3,1,nl (T.cols.set k (T.basis.getD i 0))++t3,false,c3⟩).b q=G.b q:=by simp[Ne.symm (hqL .rows trivial),Ne.symm (hqL .basis trivial),Ne.symm (hqL .cols trivial)]
 have rl:∀L,L≠.rc i→relocate loc i q L=loc L:=fun L hL=>by simp[relocate,hL]
 refine⟨by simpa using h.hbl,fun j hj=>?_,fun j hj=>by rw[List.length_set];exact h.hgl j hj,fun L v=>?_,fun L L' v v' e=>?_,?_,?_,?_,?_,?_,fun j hj=>?_,fun j hj=>?_,fun j hj=>?_⟩
 ·have hj':j<T.rows.length:=by simpa using hj
  have:=KI T i (bx,bl) j hi;rw[List.length_set];show(Tb.row { T with rows:=T.rows.set i (bx,bl) } j).2.length=_;rw[this];split
  ·exact hbl
  ·exact h.hrl j hj'
 ·rcases hrl L (hv L v)with e|e<;>rw[e]
  ·exact hq
  ·exact h.lt L (hv L v)
 ·by_cases h1:L=.rc i
  ·by_cases h2:L'=.rc i
   ·rw[h1,h2]
   ·rw[rl L' h2]at e;subst h1;simp[relocate]at e;exact absurd e.symm (hqL L' (hv L' v'))
  ·by_cases h2:L'=.rc i
   ·rw[rl L h1]at e;subst h2;simp[relocate]at e;exact absurd e (hqL L (hv L v))
   ·rw[rl L h1,rl L' h2]at e;exact h.inj L L' (hv L v) (hv L' v') e
 ·rw[rl .tab (by simp),ho .tab trivial (by simp) (by simp) (by simp),h.tab];simp[tref,relocate]
 ·refine⟨c2,t2,?_⟩;rw[rl .basis (by simp)];simp[h.ne (L:=.basis) (L':=.cols) trivial trivial (by simp)]
 ·refine⟨c1,t1,?_⟩;rw[rl .rows (by simp),qeo T loc t1 i q bx bl hi];simp[h.ne (L:=.rows) (L':=.cols) trivial trivial (by simp),h.ne (L:=.rows) (L':=.basis) trivial trivial (by simp)];simp[YU,Tb.row]
 ·refine⟨c3,t3,?_⟩;rw[rl .cols (by simp)];simp
 ·rw[rl .goals (by simp),ho .goals trivial (by simp) (by simp) (by simp)];have:Q8 { basis:=T.basis.set i (T.cols.getD k 0),rows:=T.rows.set i (bx,bl),cols:=T.cols.set k (T.basis.getD i 0),goals:=T.goals } (relocate loc i q)=Q8 T loc:=by simp[Q8,relocate]
  rw[this];exact h.goals
 ·have hj':j<T.rows.length:=by simpa using hj
  show JA _ _ (Tb.row { T with rows:=T.rows.set i (bx,bl) } j).2;rw[KI T i (bx,bl) j hi];by_cases hji:j=i
  ·subst hji;rw[if_pos rfl,show relocate loc j q (.rc j)=q by simp[relocate]];unfold JA;rw[hoq];exact hGq
  ·rw[if_neg hji,rl (.rc j) (by simpa using hji)];unfold JA;rw[ho (.rc j) hj' (by simp) (by simp) (by simp)];exact h.rc j hj'
 ·rw[rl (.gp j) (by simp),rl (.gc j) (by simp),ho (.gp j) hj (by simp) (by simp) (by simp),List.length_set];exact h.gp j hj
 ·rw[rl (.gc j) (by simp)];unfold JA;rw[ho (.gc j) hj (by simp) (by simp) (by simp)];exact h.gc j hj
end Go.AX.Run
namespace Go.AX.Run
open Go.RowKit Go.Proofs Go.AX Go.Num Tryz
section
attribute [local simp] Qq Qh Qk Qr QR QU QO Q4 QX QP QK Zd alen
def byL(l:List Rat)(k:Nat):List Rat:=(List.range l.length).map fun j=>if j=k then 1/l.getD k 0 else -(l.getD j 0)/l.getD k 0
def byX(x:Rat)(l:List Rat)(k:Nat):Rat:=-x/l.getD k 0
def qdz(r:Rat×List Rat)(k:Nat)(by':Rat×List Rat):Rat×List Rat:=(r.1+r.2.getD k 0*by'.1,W4 r.2 k by'.2 r.2.length)
def Tb.by'(T:Tb)(i k:Nat):Rat×List Rat:=(byX (T.row i).1 (T.row i).2 k,byL (T.row i).2 k)
def Tb.pivot(T:Tb)(i k:Nat):Tb :=
 { basis:=T.basis.set i (T.cols.getD k 0),rows:=(List.range T.rows.length).map fun j=>if j=i then T.by' i k else qdz (T.row j) k (T.by' i k),cols:=T.cols.set k (T.basis.getD i 0),goals:=T.goals.map fun g=>qdz g k (T.by' i k) }
theorem qdD(m:Int)(h0:0≤m)(h:m≤10000000000):amake prog 22 (.v (.int .i64 m)) (.v (.int .i64 m))=some (23,m.toNat,m.toNat,[.v (.string { data:=#[] })]):=by simp[amake,h0];exact⟨by omega,rfl⟩
theorem qdJ(q:Rat)(id c:Nat):abuild prog 121 [(0,rs q),(1,.ref id 1 0 c none)]=some (.agg [rs q,.ref id 1 0 c none]):=by unfold rs str;kernel_rfl
attribute [local simp] qdJ
def qtA(H:Qf)(N tab rci i k c:Nat)(x a:Rat)(st:St):Prop:=∃env G p q,st=⟨142,env,G,N+3⟩∧p≠q∧N<p∧N<q∧p<N+3∧q<N+3∧env 0=.ptr tab 7 0 0∧env 1=.v (.int .i64 (i:Nat))∧env 2=.v (.int .i64 (k:Nat))∧env 6=.ptr N 2 0 0∧env 7=rs a∧env 8=.ptr p 2 0 0 ∧
 G.b N=some ⟨121,2,[[rs x,.ref rci 1 0 c none]],false,some 1⟩∧G.b p=some ⟨121,2,[[rs (-x/a),.ref q 1 0 c none]],false,some 1⟩∧G.b q=some ⟨23,1,List.replicate c [.v (.string { data:=#[] })],false,some c⟩∧(∀j,j<N→G.b j=H.b j)∧G.L=H.L
def byP(l:List Rat)(a:Rat)(j:Nat):List (List AV):=(List.range l.length).map fun t=>if t<j then[rs (-(l.getD t 0)/a)]else[.v (.string { data:=#[] })]
theorem qa8(l:List Rat)(a:Rat)(j:Nat):(byP l a j).length=l.length:=by simp[byP]
theorem qeV(l:List Rat)(a:Rat)(j t:Nat)(h:t<(byP l a j).length):(byP l a j)[t].tail=[]:=by simp only[byP,List.getElem_map];split<;>rfl
theorem qkQ(l:List Rat)(a:Rat):byP l a 0=List.replicate l.length [.v (.string { data:=#[] })]:=by
 apply List.ext_getElem
 ·simp[byP]
 ·intro i h1 h2;simp[byP]
theorem qkP(l:List Rat)(a:Rat)(j:Nat)(hj:j<l.length):byP l a (j+1)=(byP l a j).set j [rs (-l[j]/a)]:=by
 apply List.ext_getElem
 ·simp[byP]
 ·intro i h1 h2;simp only[byP,List.length_map,List.length_range]at h1;simp only[byP,List.getElem_set,List.getElem_map,List.getElem_range];by_cases hi:j=i
  ·subst hi;simp[List.getD_eq_getElem?_getD,hj]
  ·simp[hi,show(i<j+1)=(i<j) by simp;omega]
theorem qn5(l:List Rat)(k:Nat)(hk:k<l.length):(byP l l[k] l.length).set k [rs (1/l[k])]=ql (byL l k):=by
 apply List.ext_getElem
 ·simp[byP,byL,ql]
 ·intro i h1 h2;simp only[List.length_set,byP,List.length_map,List.length_range]at h1;simp only[byP,byL,ql,List.getElem_set,List.getElem_map,List.getElem_range,List.getD_eq_getElem?_getD,List.getElem?_eq_getElem hk,List.getElem?_eq_getElem h1,Option.getD_some];by_cases hi:k=i
  ·subst hi;simp
  ·simp[hi,h1,show ¬i=k from fun e=>hi e.symm]
def qtd(H:Qf)(N tab i k c:Nat)(x a:Rat)(bc:List (List AV))(st:St):Prop:=∃env G p q,st=⟨142,env,G,N+3⟩∧p≠q∧N<p∧N<q∧p<N+3∧q<N+3∧env 0=.ptr tab 7 0 0∧env 1=.v (.int .i64 (i:Nat))∧env 2=.v (.int .i64 (k:Nat))∧env 6=.ptr N 2 0 0∧env 7=rs a∧env 8=.ptr p 2 0 0 ∧
 G.b p=some ⟨121,2,[[rs (-x/a),.ref q 1 0 c none]],false,some 1⟩∧G.b q=some ⟨23,1,bc,false,some c⟩∧(∀j,j<N→G.b j=H.b j)∧G.L=H.L
def Tb.upto(T:Tb)(i k j:Nat):Tb:={ T with rows:=(List.range T.rows.length).map fun t=>if t<j∧t≠i then qdz (T.row t) k (T.by' i k)else T.row t }
theorem qmx(T:Tb)(i k j t:Nat)(ht:t<T.rows.length):(T.upto i k j).row t=if t<j∧t≠i then qdz (T.row t) k (T.by' i k)else T.row t:=by simp[Tb.row,Tb.upto,List.getD_eq_getElem?_getD,ht]
theorem qfM(T:Tb)(i k j:Nat):(T.upto i k j).rows.length=T.rows.length:=by simp[Tb.upto]
theorem qjZ(T:Tb)(i k:Nat):T.upto i k 0=T:=by
 cases T with|mk b r c g =>
 simp only[Tb.upto,Tb.mk.injEq,true_and,and_true];apply List.ext_getElem
 ·simp
 ·intro t h1 h2;simp[Tb.row,List.getD_eq_getElem?_getD];rw[List.getElem?_eq_getElem (by simpa using h2)];rfl
theorem qjY(T:Tb)(i k j:Nat)(hj:j<T.rows.length)(hji:j≠i):T.upto i k (j+1)={ T.upto i k j with rows:=(T.upto i k j).rows.set j (qdz (T.row j) k (T.by' i k)) }:=by
 simp only[Tb.upto,Tb.mk.injEq,true_and,and_true];apply List.ext_getElem
 ·simp
 ·intro t h1 h2;simp only[List.getElem_set,List.getElem_map,List.getElem_range];by_cases h:j=t
  ·subst h;simp[hji]
  ·rw[if_neg h];have:(t<j+1)=(t<j):=by simp;omega
   simp[this]
theorem qjX(T:Tb)(i k:Nat):T.upto i k (i+1)=T.upto i k i:=by
 simp only[Tb.upto,Tb.mk.injEq,true_and,and_true];refine List.map_congr_left fun t ht=>?_;by_cases h:t=i
 ·simp[h]
 ·have:(t<i+1)=(t<i):=by simp;omega
  simp[h,this]
def qr6(n:Nat)(F:List Fct)(H:Qf)(N:Nat)(loc:Loc→Nat)(T T':Tb)(i k:Nat)(x a:Rat)(bl:List Rat)(env:Nat→AV)(G:Qf)(N' p q:Nat):Prop:=p≠q∧N<p∧N<q∧p<N'∧q<N'∧env 0=.ptr (loc .tab) 7 0 0∧env 1=.v (.int .i64 (i:Nat))∧env 2=.v (.int .i64 (k:Nat))∧env 8=.ptr p 2 0 0 ∧
 G.b p=some ⟨121,2,[[rs (-x/a),.ref q 1 0 T.cols.length none]],false,some 1⟩∧G.b q=some ⟨23,1,ql bl,false,some T.cols.length⟩∧Rep n F G N' loc T'∧N≤N'∧G.L=H.L∧(∀t,t<N→(∀L,T.valid L→loc L≠t)→G.b t=H.b t)
def Tb.YV(T:Tb)(b:Rat×List Rat)(k j:Nat):Tb:={ T with goals:=(List.range T.goals.length).map fun t=>if t<j then qdz (T.goal t) k b else T.goal t }
theorem qg4(T:Tb)(b:Rat×List Rat)(k j t:Nat)(ht:t<T.goals.length):(T.YV b k j).goal t=if t<j then qdz (T.goal t) k b else T.goal t:=by simp[Tb.goal,Tb.YV,List.getD_eq_getElem?_getD,ht]
theorem qjW(T:Tb)(b:Rat×List Rat)(k j:Nat):(T.YV b k j).goals.length=T.goals.length:=by simp[Tb.YV]
theorem qg6(T:Tb)(b:Rat×List Rat)(k:Nat):T.YV b k 0=T:=by
 cases T with|mk bs r c g =>
 simp only[Tb.YV,Tb.mk.injEq,true_and];apply List.ext_getElem
 ·simp
 ·intro t h1 h2;simp[Tb.goal,List.getD_eq_getElem?_getD];rw[List.getElem?_eq_getElem (by simpa using h2)];rfl
theorem qg5(T:Tb)(b:Rat×List Rat)(k j:Nat)(hj:j<T.goals.length):T.YV b k (j+1)={ T.YV b k j with goals:=(T.YV b k j).goals.set j (qdz (T.goal j) k b) }:=by
 simp only[Tb.YV,Tb.mk.injEq,true_and];apply List.ext_getElem
 ·simp
 ·intro t h1 h2;simp only[List.getElem_set,List.getElem_map,List.getElem_range];by_cases h:j=t
  ·subst h;simp
  ·rw[if_neg h];have:(t<j+1)=(t<j):=by simp;omega
   simp[this]
def qtC(n:Nat)(F:List Fct)(H:Qf)(N:Nat)(loc:Loc→Nat)(T T':Tb)(i k:Nat)(x a:Rat)(bl:List Rat)(gl:Nat)(j:Nat)(st:St):Prop:=j≤T.goals.length∧∃env G N' p q,st=⟨142,env,G,N'⟩∧env 95=.ref gl 1 0 T.goals.length none∧env 96=.v (.int .i64 (T.goals.length:Nat))∧env 97=.v (.int .i64 (j:Nat))∧qr6 n F H N loc T (T'.YV (-x/a,bl) k j) i k x a bl env G N' p q
def qtB(n:Nat)(F:List Fct)(H:Qf)(N:Nat)(loc:Loc→Nat)(T T':Tb)(i k:Nat)(x a:Rat)(bl:List Rat)(st:St):Prop:=∃env G0 N' p q es cap,st=⟨142,env,G0.set (loc .rows) ⟨121,2,es.set i [rs (-x/a),.ref q 1 0 T.cols.length none],false,cap⟩,N'⟩∧G0.b (loc .rows)=some ⟨121,2,es,false,cap⟩∧qr6 n F H N loc T T' i k x a bl env G0 N' p q
def qtD(n:Nat)(F:List Fct)(H:Qf)(N:Nat)(loc:Loc→Nat)(T:Tb)(i k:Nat)(x a:Rat)(bl:List Rat)(j:Nat)(st:St):Prop:=j≤T.rows.length∧∃env G N' p q,st=⟨142,env,G,N'⟩∧env 72=.v (.int .i64 (T.rows.length:Nat))∧env 73=.v (.int .i64 (j:Nat))∧qr6 n F H N loc T (T.upto i k j) i k x a bl env G N' p q
def qte(n:Nat)(F:List Fct)(H:Qf)(N:Nat)(loc:Loc→Nat)(T T':Tb)(i k:Nat)(x a:Rat)(bl:List Rat)(st:St):Prop:=∃env G N' p q,st=⟨142,env,G,N'⟩∧qr6 n F H N loc T T' i k x a bl env G N' p q
theorem qlQ(T:Tb)(i k:Nat)(b:Rat×List Rat)(hb:T.by' i k=b)(hi:i<T.rows.length):T.pivot i k =
  { basis:=T.basis.set i (T.cols.getD k 0),rows:=((T.upto i k T.rows.length).YV b k T.goals.length).rows.set i b,cols:=T.cols.set k (T.basis.getD i 0),goals:=((T.upto i k T.rows.length).YV b k T.goals.length).goals }:=by
 subst hb;simp only[Tb.pivot,Tb.YV,Tb.upto,Tb.mk.injEq,true_and];constructor
 ·apply List.ext_getElem
  ·simp
  ·intro t h1 h2;simp only[List.length_map,List.length_range]at h1;simp only[List.getElem_set,List.getElem_map,List.getElem_range,h1,true_and];by_cases h:i=t
   ·subst h;simp
   ·simp[h,show ¬t=i from fun e=>h e.symm]
 ·apply List.ext_getElem
  ·simp
  ·intro t h1 h2;simp only[List.length_map]at h1;simp[Tb.goal,List.getD_eq_getElem?_getD,h1]
def qtE(n:Nat)(F:List Fct)(H:Qf)(N:Nat)(loc:Loc→Nat)(T T':Tb)(H':Qf)(N':Nat):Prop:=∃loc',Rep n F H' N' loc' T'∧N≤N'∧H'.L=H.L∧(∀t,t<N→(∀L,T.valid L→loc L≠t)→H'.b t=H.b t)∧(∀L,loc' L=loc L∨N<loc' L)∧∀L,(∀j,L≠.rc j)→loc' L=loc L
theorem qoZ{n:Nat}{F:List Fct}{H:Qf}{N:Nat}{loc:Loc→Nat}{T:Tb}(hR:Rep n F H N loc T)(i k:Nat)(hi:i<T.rows.length)(hk:k<T.cols.length)(ha:(T.row i).2.getD k 0≠0)(hl:T.cols.length≤1000)
  (hm:T.rows.length≤1000) (hg:T.goals.length≤1000) (sr:∀j,j<T.rows.length→szq (T.row j).1≤1510∧∀q∈(T.row j).2,szq q≤1510) (sg:∀j,j<T.goals.length→szq (T.goal j).1≤1510∧∀q∈(T.goal j).2,szq q≤1510)
  (sb:szq (T.by' i k).1≤1000∧∀q∈(T.by' i k).2,szq q≤1000) :
  Qc prog 127 [.ptr (loc .tab) 7 0 0,.v (.int .i64 (i:Nat)),.v (.int .i64 (k:Nat))] H N fun r H' N'=>qtE n F H N loc T (T.pivot i k) H' N':=by
 refine⟨⟨_,_,func127,by kernel_rfl,rfl⟩,Qv.QM func127 rfl (by simp[ntmps127]) (Qe.seq (Qd _ _ _ ?_))⟩;obtain⟨capr,tr,hrows⟩:=hR.rows;obtain⟨capc,tc,hrc⟩:=hR.rc i hi;have hcal:∀H1:Qf,H1.b (loc .tab)=H.b (loc .tab)→Calc H1 (loc .tab) 7:=fun H1 e=>Ju (e.trans hR.tab);have htab:=hR.tab;unfold tref Z5 at htab;have hrlen:=hR.hrl i hi;have hrg:=ZF T loc tr i hi;have s1:=(sr i hi).1;have s2:=(sr i hi).2;have hby0:T.by' i k=(byX (T.row i).1 (T.row i).2 k,byL (T.row i).2 k):=rfl;generalize T.row i=R at hrc hrlen hrg ha s1 s2 hby0;obtain⟨x,l⟩:=R;simp only at hrc hrlen hrg ha s1 s2 hby0;have hkl:k<l.length:=by omega
 have m1:¬loc .tab=N:=by have:=hR.lt .tab trivial;omega
 have m2:¬loc .rows=N:=by have:=hR.lt .rows trivial;omega
 have m3:¬loc (.rc i)=N:=by have:=hR.lt (.rc i) hi;omega
 have n1:=hR.lt .tab trivial;have n2:=hR.lt .rows trivial;have n3:=hR.lt (.rc i) hi;have hak:l.getD k 0=l[k]:=by rw[List.getD_eq_getElem?_getD,List.getElem?_eq_getElem hkl];rfl
 rw[hak]at ha;have hby:T.by' i k=(-x/l[k],byL l k):=by rw[hby0,byX,hak]
 rw[hby]at sb;unfold Yb at hrg;simp[htab,hrows,hrg,hi];refine Qe.seq (Qd _ _ _ ?_);simp[m3,hrc,hkl,hk,ZI];refine Qe.qjx (qtA H N (loc .tab) (loc (.rc i)) i k T.cols.length x l[k]) ?_ fun s hs=>?_
 ·refine Qm.quu mixed [0,1,2,3,4,5,6,7,8,9,10] [12,14] 11 13 ?_;refine QI.of (lit:=fun _=>false) ?_;simp[Ws,Q0];refine QF.pure (k:=9) (Y8 x ((YW x).2 (by omega))) ?_ ?_ ?_
  ·simp[Qn]
  ·simp[Qn]
  simp;refine QF.look (loc .tab) (sz:=7) (i:=0) (off:=0) (u:=rs (-x/l[k])) ?_ ?_ (fun H1 N1 e=>Vb (hcal H1 (e.trans ?_)) _ _ ?_ ha) ?_
  ·simp
  ·show loc .tab<N+1;omega
  ·simp[m1]
  ·rw[Kb];have:=s2 l[k] (List.getElem_mem _);omega
  simp[Q0];refine QI.of (lit:=fun _=>false) ?_;simp[Q0,qdD (T.cols.length:Int) (by omega) (by omega)];refine QI.of (lit:=fun _=>false) ?_;simp[Q0,qdD (T.cols.length:Int) (by omega) (by omega)];refine qqb.of (by kernel_rfl) (by kernel_rfl) (by kernel_rfl) (by simp) (by kernel_rfl) ?_ ?_
  ·refine⟨_,_,N+2,N+1,rfl,by omega,by omega,by omega,by omega,by omega,by simp,by simp,by simp,by simp,by simp,by simp,by simp[show ¬N=N+1+1 by omega],by simp,by simp,fun j hj=>?_,rfl⟩;simp[show ¬j=N by omega,show ¬j=N+1 by omega,show ¬j=N+2 by omega]
  ·refine⟨_,_,N+1,N+2,rfl,by omega,by omega,by omega,by omega,by omega,by simp,by simp,by simp,by simp,by simp,by simp,by simp[show ¬N=N+1+1 by omega],by simp,by simp,fun j hj=>?_,rfl⟩;simp[show ¬j=N by omega,show ¬j=N+1 by omega,show ¬j=N+2 by omega]
 ·obtain⟨env,G,p,q,rfl,hpq,hp1,hq1,hp2,hq2,g0,g1,g2,g6,g7,g8,hGN,hGp,hGq,hGo,hGL⟩:=hs;have hGt:G.b (loc .tab)=H.b (loc .tab):=hGo _ n1;have hGr:=(hGo _ n3).trans hrc;refine Qe.qdy (qtd H N (loc .tab) i k T.cols.length x l[k] (byP l l[k] l.length)) (Qd _ _ _ ?_) fun s hs=>?_
  ·simp[g6,hGN];refine Qp.of (fun(j:Nat) st=>j≤l.length∧∃env G,st=⟨142,env,G,N+3⟩∧env 0=.ptr (loc .tab) 7 0 0∧env 1=.v (.int .i64 (i:Nat))∧env 2=.v (.int .i64 (k:Nat))∧env 6=.ptr N 2 0 0∧env 7=rs l[k]∧env 8=.ptr p 2 0 0∧env 40=.ref (loc (.rc i)) 1 0 T.cols.length none∧env 41=.v (.int .i64 (T.cols.length:Nat))∧env 42=.v (.int .i64 (j:Nat)) ∧
     G.b p=some ⟨121,2,[[rs (-x/l[k]),.ref q 1 0 T.cols.length none]],false,some 1⟩∧G.b q=some ⟨23,1,byP l l[k] j,false,some T.cols.length⟩∧(∀j,j<N→G.b j=H.b j)∧G.L=H.L) (fun j=>l.length-j) 0
    ⟨by omega,_,_,rfl,by simp[g0],by simp[g1],by simp[g2],by simp[g6],by simp[g7],by simp[g8],by simp,by simp,by simp,hGp,by rw[qkQ,hrlen];exact hGq,hGo,hGL⟩ ?_
   rintro j _ ⟨hj,env,G,rfl,g0,g1,g2,g6,g7,g8,g40,g41,g42,hGp,hGq,hGo,hGL⟩;by_cases hjN:j<l.length
   ·have hGr:=(hGo _ n3).trans hrc;have hGt:G.b (loc .tab)=H.b (loc .tab):=hGo _ n1;have hjc:j<T.cols.length:=by omega
    have hjb:j<(byP l l[k] j).length:=by rw[qa8];exact hjN
    simp[g40,g41,g42,hjc,hGr,ZI l tc j hjN];refine Qm.walk (fun _=>false) mixed ?_;simp[Q0,g0,g8,hGp,show p<N+3 by omega];have hlz:=s2 l[j] (List.getElem_mem _);have hlk:=s2 l[k] (List.getElem_mem _);refine QF.pure (k:=9) (Y8 l[j] ((YW _).2 (by omega))) ?_ ?_ ?_
    ·simp[Qn]
    ·simp[Qn]
    simp[g7];refine QF.look (loc .tab) (sz:=7) (i:=0) (off:=0) (u:=rs (-l[j]/l[k])) ?_ ?_ (fun H1 N1 e=>Vb (hcal H1 (e.trans ?_)) _ _ ?_ ha) ?_
    ·simp
    ·show loc .tab<N+3;omega
    ·exact hGt
    ·rw[Kb];omega
    simp[Q0,g42,hGq,hjc,qa8,hjN,QH (show j+1<9223372036854775808 by omega)];refine⟨Zg.ofM (by kernel_rfl),?_⟩;refine⟨j+1,⟨by omega,_,_,⟨rfl,rfl⟩,by simp[g0],by simp[g1],by simp[g2],by simp[g6],by simp[g7],by simp[g8],by simp[g40],by simp[g41],by simp,by simp[hpq,hGp],by simp[qkP l l[k] j hjN,qeV],fun t ht=>by simp[show ¬t=q by omega,hGo t ht],hGL⟩,by omega⟩
   ·have hjE:j=l.length:=by omega
    subst hjE;simp[g40,g41,g42,hrlen];rw[hrlen]at hGq;exact⟨_,_,p,q,rfl,hpq,hp1,hq1,hp2,hq2,by simp[g0],by simp[g1],by simp[g2],by simp[g6],by simp[g7],by simp[g8],hGp,hGq,hGo,hGL⟩
  ·obtain⟨env,G,p,q,rfl,hpq,hp1,hq1,hp2,hq2,g0,g1,g2,g6,g7,g8,hGp,hGq,hGo,hGL⟩:=hs;have hGt:G.b (loc .tab)=H.b (loc .tab):=hGo _ n1;have hlk:=s2 l[k] (List.getElem_mem _);have hkb:k<(byP l l[k] l.length).length:=by rw[qa8];exact hkl
   have e1:AV.v (.string { data:=#[49] })=rs 1:=rs1.symm;refine Qe.qjx (qtd H N (loc .tab) i k T.cols.length x l[k] (ql (byL l k))) ?_ fun s hs=>?_
   ·refine Qm.walk (fun _=>false) mixed ?_;simp[Q0,g0,g2,g7,g8,hGp,e1,show p<N+3 by omega];refine QF.look (loc .tab) (sz:=7) (i:=0) (off:=0) (u:=rs (1/l[k])) ?_ ?_ (fun H1 N1 e=>Vb (hcal H1 (e.trans ?_)) _ _ ?_ ha) ?_
    ·simp
    ·show loc .tab<N+3;omega
    ·exact hGt
    ·rw[qsU];omega
    simp[Q0,hGq,hk,qa8,hkl];refine⟨Zg.ofM (by kernel_rfl),?_⟩;exact⟨_,_,p,q,rfl,hpq,hp1,hq1,hp2,hq2,by simp[g0],by simp[g1],by simp[g2],by simp[g6],by simp[g7],by simp[g8],by simp[hpq,hGp],by simp[qeV,qn5 l k hkl],fun t ht=>by simp[show ¬t=q by omega,hGo t ht],hGL⟩
   ·obtain⟨env,G,p,q,rfl,hpq,hp1,hq1,hp2,hq2,g0,g1,g2,g6,g7,g8,hGp,hGq,hGo,hGL⟩:=hs;have hE:Ext H N G (N+3):=⟨by omega,hGL,hGo⟩;have hRG:=hR.ext hE;refine Qe.qdy (qte n F H N loc T (T.upto i k T.rows.length) i k x l[k] (byL l k)) (Qd _ _ _ ?_) fun s hs=>?_
    ·have htabG:=hRG.tab;unfold tref Z5 at htabG;simp[g0,htabG];refine Qp.of (qtD n F H N loc T i k x l[k] (byL l k)) (fun j=>T.rows.length-j) 0
      ⟨by omega,_,_,_,p,q,rfl,by simp,by simp,hpq,hp1,hq1,hp2,hq2,by simp[g0],by simp[g1],by simp[g2],by simp[g8],hGp,hGq,by rw[qjZ];exact hRG,by omega,hGL,fun t ht _=>hGo t ht⟩ ?_
     rintro j _ ⟨hj,env,G,N',p,q,rfl,g72,g73,hpq,hp1,hq1,hp2,hq2,g0,g1,g2,g8,hGp,hGq,hRj,hNN,hGL,hGo⟩;by_cases hjN:j<T.rows.length
     ·by_cases hji:j=i
      ·subst hji;simp[g72,g73,hi,g1,QH (show j+1<9223372036854775808 by omega)];refine⟨j+1,⟨by omega,_,_,_,p,q,rfl,by simp[g72],by simp,hpq,hp1,hq1,hp2,hq2,by simp[g0],by simp[g1],by simp[g2],by simp[g8],hGp,hGq,by rw[qjX];exact hRj,hNN,hGL,hGo⟩,by omega⟩
      ·have hji':¬(j:Int)=(i:Int):=by omega
       simp[g72,g73,hjN,g1,hji'];refine Qm.qrP mixed (by kernel_rfl) ?_;have hrj:(T.upto i k j).row j=T.row j:=by rw[qmx T i k j j hjN];simp
       have hjU:j<(T.upto i k j).rows.length:=by rw[qfM];exact hjN
       obtain⟨cr,tr2,hrowsj⟩:=hRj.rows;have hcj:=hRj.rc j hjU;have hgj:=ZF (T.upto i k j) loc tr2 j hjU;have htabj:=hRj.tab;rw[hrj]at hcj hgj;have hlj:=hR.hrl j hjN;unfold tref Z5 at htabj;rw[qfM]at htabj;simp[g0,g2,g8,htabj,hGp,hjN];have hbl:(byL l k).length=T.cols.length:=by simp[byL,hrlen]
       have hGU:∀L,T.valid L→loc L≠q:=fun L v=>by have:=hR.lt L v;omega
       have hs:=qfI (N:=N') (l:=(T.row j).2) (bc:=byL l k) (x:=(T.row j).1) (bx:=-x/l[k]) (cb:=loc (.rc j)) (bb:=q) (i:=j) (rb:=loc .rows) (es:=YU (T.upto i k j) loc++tr2) (cap:=cr) (tid:=loc .tab) (tsz:=7) (H:=G) k (Ju hRj.tab) hrowsj (by rw[hgj,hlj];rfl) hcj ⟨_,[],by rw[List.append_nil];exact hGq⟩ (by rw[hbl,hlj]) (by omega) (by omega)
        (hR.ne (L:=.tab) (L':=.rows) trivial trivial (by simp)) (hR.ne (L:=.tab) (L':=.rc j) trivial hjN (by simp)) (hR.ne (L:=.rows) (L':=.rc j) trivial hjN (by simp)) (Ne.symm (hGU .rows trivial)) (Ne.symm (hGU (.rc j) hjN))
        (by have:=hR.lt .tab trivial;omega) (by have:=hR.lt .rows trivial;omega) (by have:=hR.lt (.rc j) hjN;omega) hq2 (sr j hjN).1 (sr j hjN).2 sb.1 sb.2
       rw[hbl]at hs;refine hs.mono ?_;rintro r H2 N2 ⟨cap2,t2,hE2⟩;simp[g73,QH (show j+1<9223372036854775808 by omega)];have hR2:=hRj.qrC (j:=j) hjU (qdz (T.row j) k (T.by' i k)) (by rw[qdz,VZ];exact hlj) (cap:=cr) (t:=tr2) (cap2:=cap2) (t2:=t2) (by have e1:(T.upto i k j).cols.length=(T.row j).2.length:=hlj.symm;rw[e1,qdz,hby];exact hE2)
       rw[←qjY T i k j hjN hji]at hR2;have hGU2:∀L,T.valid L→loc L≠p:=fun L v=>by have:=hR.lt L v;omega
       have hH2:∀t,t<N'→t≠loc .rows→t≠loc (.rc j)→H2.b t=G.b t:=fun t ht h1 h2=>by rw[hE2.2.2 t ht];simp[h1,h2]
       exact⟨j+1,⟨by omega,_,_,_,p,q,rfl,by simp[g72],by simp,hpq,hp1,hq1,by have:=hE2.1;omega,by have:=hE2.1;omega,by simp[g0],by simp[g1],by simp[g2],by simp[g8],by rw[hH2 p hp2 (Ne.symm (hGU2 .rows trivial)) (Ne.symm (hGU2 (.rc j) hjN))];exact hGp,by rw[hH2 q hq2 (Ne.symm (hGU .rows trivial)) (Ne.symm (hGU (.rc j) hjN))];exact hGq,hR2,by have:=hE2.1;omega,hE2.2.1.trans hGL,
        fun t ht hL=>by rw[hH2 t (by omega) (Ne.symm (hL .rows trivial)) (Ne.symm (hL (.rc j) hjN))];exact hGo t ht hL⟩,by omega⟩
     ·have hjE:j=T.rows.length:=by omega
      subst hjE;simp[g72,g73];exact⟨_,_,_,p,q,rfl,hpq,hp1,hq1,hp2,hq2,by simp[g0],by simp[g1],by simp[g2],by simp[g8],hGp,hGq,hRj,hNN,hGL,hGo⟩
    ·obtain⟨env,G,N',p,q,rfl,hpq,hp1,hq1,hp2,hq2,g0,g1,g2,g8,hGp,hGq,hRj,hNN,hGL,hGo⟩:=hs;refine Qe.qdy (qte n F H N loc T ((T.upto i k T.rows.length).YV (-x/l[k],byL l k) k T.goals.length) i k x l[k] (byL l k)) (Qd _ _ _ ?_) fun s hs=>?_
     ·have htabG:=hRj.tab;unfold tref Z5 at htabG;have hgU:(T.upto i k T.rows.length).goals=T.goals:=rfl;rw[hgU]at htabG;simp[g0,htabG];refine Qp.of (qtC n F H N loc T (T.upto i k T.rows.length) i k x l[k] (byL l k) (loc .goals)) (fun j=>T.goals.length-j) 0
       ⟨by omega,_,_,_,p,q,rfl,by simp,by simp,by simp,hpq,hp1,hq1,hp2,hq2,by simp[g0],by simp[g1],by simp[g2],by simp[g8],hGp,hGq,by rw[qg6];exact hRj,hNN,hGL,hGo⟩ ?_
      rintro j _ ⟨hj,env,G,N',p,q,rfl,g95,g96,g97,hpq,hp1,hq1,hp2,hq2,g0,g1,g2,g8,hGp,hGq,hRj,hNN,hGL,hGo⟩;by_cases hjN:j<T.goals.length
      ·have hjU:j<((T.upto i k T.rows.length).YV (-x/l[k],byL l k) k j).goals.length:=by rw[qjW];exact hjN
       obtain⟨cg,tg,hgoals⟩:=hRj.goals;have hgg:=KR _ loc tg j hjU;simp[g95,g96,g97,hjN,hgoals,hgg];refine Qm.qrP mixed (by kernel_rfl) ?_;have hTU:T.upto i k T.rows.length={ T with rows:=(T.upto i k T.rows.length).rows }:=rfl;have hgj:((T.upto i k T.rows.length).YV (-x/l[k],byL l k) k j).goal j=T.goal j:=by rw[qg4 (T.upto i k T.rows.length) _ k j j hjN,if_neg (Nat.lt_irrefl j)];rfl
       obtain⟨cp,tp,hgp⟩:=hRj.gp j hjU;have hgc:=hRj.gc j hjU;rw[hgj]at hgp hgc;have hlj:=hR.hgl j hjN;have hcl:((T.upto i k T.rows.length).YV (-x/l[k],byL l k) k j).cols=T.cols:=rfl;rw[hcl]at hgp;have htabj:=hRj.tab;unfold tref Z5 at htabj;simp[g0,g2,g8,hGp];have hbl:(byL l k).length=T.cols.length:=by simp[byL,hrlen]
       have hGU:∀L,T.valid L→loc L≠q:=fun L v=>by have:=hR.lt L v;omega
       have hs:=qfI (N:=N') (l:=(T.goal j).2) (bc:=byL l k) (x:=(T.goal j).1) (bx:=-x/l[k]) (cb:=loc (.gc j)) (bb:=q) (i:=0) (rb:=loc (.gp j)) (es:=Yb (T.goal j).1 (loc (.gc j)) T.cols.length::tp) (cap:=cp) (tid:=loc .tab) (tsz:=7) (H:=G) k (Ju hRj.tab) hgp (by rw[hlj];rfl) hgc ⟨_,[],by rw[List.append_nil];exact hGq⟩ (by rw[hbl,hlj]) (by omega) (by omega)
        (hR.ne (L:=.tab) (L':=.gp j) trivial hjN (by simp)) (hR.ne (L:=.tab) (L':=.gc j) trivial hjN (by simp)) (hR.ne (L:=.gp j) (L':=.gc j) hjN hjN (by simp)) (Ne.symm (hGU (.gp j) hjN)) (Ne.symm (hGU (.gc j) hjN))
        (by have:=hR.lt .tab trivial;omega) (by have:=hR.lt (.gp j) hjN;omega) (by have:=hR.lt (.gc j) hjN;omega) hq2 (sg j hjN).1 (sg j hjN).2 sb.1 sb.2
       rw[hbl]at hs;refine hs.mono ?_;rintro r H2 N2 ⟨cap2,t2,hE2⟩;simp[g97,QH (show j+1<9223372036854775808 by omega)];have hR2:=hRj.qot (j:=j) hjU (qdz (T.goal j) k (-x/l[k],byL l k)) (by rw[qdz,VZ];exact hlj) (cap:=cp) (t:=tp) (cap2:=cap2) (t2:=t2) (by rw[hcl,←hlj];exact hE2)
       rw[show T.goal j=(T.upto i k T.rows.length).goal j from rfl,←qg5 (T.upto i k T.rows.length) (-x/l[k],byL l k) k j hjN]at hR2;have hGU2:∀L,T.valid L→loc L≠p:=fun L v=>by have:=hR.lt L v;omega
       have hH2:∀t,t<N'→t≠loc (.gp j)→t≠loc (.gc j)→H2.b t=G.b t:=fun t ht h1 h2=>by rw[hE2.2.2 t ht];simp[h1,h2]
       exact⟨j+1,⟨by omega,_,_,_,p,q,rfl,by simp[g95],by simp[g96],by simp,hpq,hp1,hq1,by have:=hE2.1;omega,by have:=hE2.1;omega,by simp[g0],by simp[g1],by simp[g2],by simp[g8],by rw[hH2 p hp2 (Ne.symm (hGU2 (.gp j) hjN)) (Ne.symm (hGU2 (.gc j) hjN))];exact hGp,by rw[hH2 q hq2 (Ne.symm (hGU (.gp j) hjN)) (Ne.symm (hGU (.gc j) hjN))];exact hGq,hR2,by have:=hE2.1;omega,hE2.2.1.trans hGL,
        fun t ht hL=>by rw[hH2 t (by omega) (Ne.symm (hL (.gp j) hjN)) (Ne.symm (hL (.gc j) hjN))];exact hGo t ht hL⟩,by omega⟩
      ·have hjE:j=T.goals.length:=by omega
       subst hjE;simp[g95,g96,g97];exact⟨_,_,_,p,q,rfl,hpq,hp1,hq1,hp2,hq2,by simp[g0],by simp[g1],by simp[g2],by simp[g8],hGp,hGq,hRj,hNN,hGL,hGo⟩
     ·obtain⟨env,G,N',p,q,rfl,hpq,hp1,hq1,hp2,hq2,g0,g1,g2,g8,hGp,hGq,hRj,hNN,hGL,hGo⟩:=hs;have htabj:=hRj.tab;obtain⟨cr,tr2,hrowsj⟩:=hRj.rows;obtain⟨cb,tb,hbas⟩:=hRj.basis;obtain⟨cc,tcs,hcols⟩:=hRj.cols;have hlenU:((T.upto i k T.rows.length).YV (-x/l[k],byL l k) k T.goals.length).rows.length=T.rows.length:=by simp[Tb.YV,Tb.upto]
      have hgj:=ZF _ loc tr2 i (by rw[hlenU];exact hi);unfold tref Z5 at htabj;rw[hlenU]at htabj;refine Qe.qjx (qtB n F H N loc T ((T.upto i k T.rows.length).YV (-x/l[k],byL l k) k T.goals.length) i k x l[k] (byL l k)) ?_ fun s hs=>?_
      ·refine Qm.walk (fun _=>false) mixed ?_;simp[Q0,g0,g1,g8,htabj,hGp,hi,hrowsj,hgj,show loc .tab<N' by have:=hR.lt .tab trivial;omega,show p<N' by omega];refine⟨Zg.ofM (by kernel_rfl),?_⟩;exact⟨_,G,N',p,q,_,cr,rfl,hrowsj,hpq,hp1,hq1,hp2,hq2,by simp[g0],by simp[g1],by simp[g2],by simp[g8],hGp,hGq,hRj,hNN,hGL,hGo⟩
      ·obtain⟨env,G0,N',p,q,es,cap,rfl,hG0,hpq,hp1,hq1,hp2,hq2,g0,g1,g2,g8,hGp,hGq,hRj,hNN,hGL,hGo⟩:=hs;have htabj:=hRj.tab;obtain⟨cb,tb,hbas⟩:=hRj.basis;obtain⟨cc,tcs,hcols⟩:=hRj.cols;unfold tref Z5 at htabj;rw[hlenU]at htabj;have hbE:((T.upto i k T.rows.length).YV (-x/l[k],byL l k) k T.goals.length).basis=T.basis:=rfl;have hcE:((T.upto i k T.rows.length).YV (-x/l[k],byL l k) k T.goals.length).cols=T.cols:=rfl;rw[hbE]at htabj hbas;rw[hcE]at htabj hcols;have d1:=hR.ne (L:=.tab) (L':=.rows) trivial trivial (by simp);have d2:=hR.ne (L:=.basis) (L':=.rows) trivial trivial (by simp);have d3:=hR.ne (L:=.cols) (L':=.rows) trivial trivial (by simp);have d4:=hR.ne (L:=.cols) (L':=.basis) trivial trivial (by simp);have hib:i<T.basis.length:=by rw[hR.hbl];exact hi
       have b1:=Zq T.basis tb i hib;have b2:=Zq T.cols tcs k hk;refine Qd _ _ _ ?_;simp;refine Qm.walk (fun _=>false) mixed ?_;simp[Q0,g0,g1,g2,htabj,hbas,hcols,d1,d2,d3,d4,hib,hk,b1,b2,show loc .tab<N' by have:=hR.lt .tab trivial;omega,show loc .basis<N' by have:=hR.lt .basis trivial;omega,show loc .cols<N' by have:=hR.lt .cols trivial;omega];refine⟨Zg.ofM (by kernel_rfl),?_⟩;obtain⟨cr3,tr3,hrows3⟩:=hRj.rows;rw[hG0]at hrows3;simp only[Option.some.injEq,Blk.mk.injEq,true_and]at hrows3;obtain⟨hes,hcap⟩:=hrows3;have hb1:T.basis[i]=T.basis.getD i 0:=by rw[List.getD_eq_getElem?_getD,List.getElem?_eq_getElem hib];rfl
       have hb2:T.cols[k]=T.cols.getD k 0:=by rw[List.getD_eq_getElem?_getD,List.getElem?_eq_getElem hk];rfl
       have hbl:(byL l k).length=T.cols.length:=by simp[byL,hrlen]
       have hvU:∀L,Tb.valid ((T.upto i k T.rows.length).YV (-x/l[k],byL l k) k T.goals.length) L→T.valid L:=fun L v=>by cases L<;>simp only[Tb.valid,Tb.YV,Tb.upto,List.length_map,List.length_range]at v⊢<;>exact v
       have hfin:=hRj.fin (i:=i) (k:=k) (q:=q) (bx:=-x/l[k]) (bl:=byL l k) (c1:=cap) (c2:=cb) (c3:=cc) (t1:=tr3) (t2:=tb) (t3:=tcs) (by rw[hlenU];exact hi) hk hq2 (fun L v=>by have:=hR.lt L (hvU L v);omega) hbl ⟨_,[],by rw[List.append_nil];exact hGq⟩;refine⟨relocate loc i q,?_,hNN,hGL,fun t ht hL=>?_,fun L=>?_,fun L hL=>by simp[relocate,hL i]⟩
       ·rw[qlQ T i k _ hby hi];rw[qnc _ _ _ _ hib,qnc _ _ _ _ hk,hb1,hb2,hes];exact hfin
       ·simp[Ne.symm (hL .rows trivial),Ne.symm (hL .basis trivial),Ne.symm (hL .cols trivial)];exact hGo t ht hL
       ·unfold relocate;split
        ·exact .inr hq1
        ·exact .inl rfl
end
end Go.AX.Run
namespace Go.LP
abbrev Vec(α:Type):=Nat→α
def shv{α:Type}(r:Vec α):Vec α:=fun c=>r (c+1)
section Ring
variable{α:Type}[Lean.Grind.CommRing α]
def sgn(p:Nat):α:=if p%2=0 then 1 else -1
theorem qmg(p:Nat):(sgn (p+1):α) =-sgn p:=by
 unfold sgn;by_cases h:p%2=0
 ·rw[if_pos h,if_neg (by omega)]
 ·rw[if_neg h,if_pos (by omega)];grind
def sm(n:Nat)(f:Nat→α):α:=match n with|0=>0|n+1=>sm n f+f n
theorem Qy{n:Nat}{f g:Nat→α}(h:∀i,i<n→f i=g i):sm n f=sm n g:=by
 induction n with
 | zero=>rfl
 | succ n ih=>simp only[sm];rw[ih fun i hi=>h i (by omega),h n (by omega)]
theorem VW(n:Nat)(f g:Nat→α):sm n (fun i=>f i+g i)=sm n f+sm n g:=by
 induction n with
 | zero=>simp only[sm];grind
 | succ n ih=>simp only[sm];rw[ih];grind
theorem Ja(n:Nat)(a:α)(f:Nat→α):sm n (fun i=>a*f i)=a*sm n f:=by
 induction n with
 | zero=>simp only[sm];grind
 | succ n ih=>simp only[sm];rw[ih];grind
theorem Jc{n:Nat}{f:Nat→α}(h:∀i,i<n→f i=0):sm n f=0:=by
 induction n with
 | zero=>rfl
 | succ n ih=>simp only[sm];rw[ih fun i hi=>h i (by omega),h n (by omega)];grind
theorem Jb{n:Nat}{f:Nat→α}{j:Nat}(hj:j<n)(h:∀i,i<n→i≠j→f i=0):sm n f=f j:=by
 induction n with
 | zero=>omega
 | succ n ih =>
  simp only[sm];by_cases e:j=n
  ·subst e;rw[Jc fun i hi=>h i (by omega) (by omega)];grind
  ·rw[ih (by omega) fun i hi=>h i (by omega),h n (by omega) (by omega)];grind
theorem qrM{n:Nat}{f:Nat→α}{p q:Nat}(hp:p<n)(hq:q<n)(hpq:p≠q)(h:∀i,i<n→i≠p→i≠q→f i=0):sm n f=f p+f q:=by
 induction n with
 | zero=>omega
 | succ n ih =>
  simp only[sm];by_cases e:q=n
  ·subst e;rw[Jb (j:=p) (by omega) fun i hi hne=>h i (by omega) hne (by omega)]
  ·by_cases e':p=n
   ·subst e';rw[Jb (j:=q) (by omega) fun i hi hne=>h i (by omega) (by omega) hne];grind
   ·rw[ih (by omega) (by omega) fun i hi=>h i (by omega),h n (by omega) (by omega) (by omega)];grind
def mnr(A:Nat→Vec α)(i:Nat):Nat→Vec α:=fun k=>shv (A (if k<i then k else k+1))
def det:Nat→(Nat→Vec α)→α
 | 0,_=>1
 | n+1,A=>sm (n+1) fun i=>sgn i*A i 0*det n (mnr A i)
theorem qcq:∀{n:Nat} {A B:Nat→Vec α},(∀i,i<n→∀c,c<n→A i c=B i c)→det n A=det n B:=by
 intro n;induction n with
 | zero=>intro A B _;rfl
 | succ n ih =>
  intro A B h;simp only[det];refine Qy fun i hi=>?_;rw[h i hi 0 (by omega),ih fun k hk c hc=>?_];simp only[mnr,shv];split
  ·exact h _ (by omega) _ (by omega)
  ·exact h _ (by omega) _ (by omega)
def rep(A:Nat→Vec α)(p:Nat)(u:Vec α):Nat→Vec α:=fun i=>if i=p then u else A i
theorem VR(A:Nat→Vec α)(p:Nat)(u:Vec α):rep A p u p=u:=if_pos rfl
theorem VQ{A:Nat→Vec α}{p i:Nat}{u:Vec α}(h:i≠p):rep A p u i=A i:=if_neg h
theorem qcU(A:Nat→Vec α)(p:Nat)(u:Vec α):mnr (rep A p u) p=mnr A p:=by funext k;simp only[mnr,rep];split<;>rw[if_neg (by omega)]
theorem qei{A:Nat→Vec α}{p i:Nat}{u:Vec α}(h:i≠p):mnr (rep A p u) i=rep (mnr A i) (if p<i then p else p-1) (shv u):=by
 funext k;simp only[mnr,rep];by_cases h1:k<i<;>by_cases h2:p<i<;>simp only[h1,h2,if_true,if_false]
 ·by_cases e:k=p<;>simp[e]
 ·rw[if_neg (by omega),if_neg (by omega)]
 ·rw[if_neg (by omega),if_neg (by omega)]
 ·by_cases e:k+1=p
  ·rw[if_pos e,if_pos (by omega)]
  ·rw[if_neg e,if_neg (by omega)]
theorem qbi:∀{n:Nat} {A:Nat→Vec α} {p:Nat} (hp:p<n) (a b:α) (u v:Vec α),det n (rep A p (fun c=>a*u c+b*v c))=a*det n (rep A p u)+b*det n (rep A p v):=by
 intro n;induction n with
 | zero=>intro A p hp;omega
 | succ n ih =>
  intro A p hp a b u v;simp only[det];rw[←Ja,←Ja,←VW];refine Qy fun i hi=>?_;by_cases e:i=p
  ·subst e;simp only[VR,qcU];grind
  ·rw[qei e,qei e,qei e,VQ e,VQ e,VQ e];have hsh:shv (fun c=>a*u c+b*v c)=fun c=>a*shv u c+b*shv v c:=rfl;rw[hsh,ih (by split<;>omega)];grind
def swp(A:Nat→Vec α)(p:Nat):Nat→Vec α:=fun i=>A (if i=p then p+1 else if i=p+1 then p else i)
theorem qh9:∀{n:Nat} {A:Nat→Vec α} {p:Nat},p+1<n→det n (swp A p) =-det n A:=by
 intro n;induction n with
 | zero=>intro A p hp;omega
 | succ n ih =>
  intro A p hp;have key:∀i,i<n+1→i≠p→i≠p+1→det n (mnr (swp A p) i) =-det n (mnr A i):=by
   intro i hi h1 h2;have:mnr (swp A p) i=swp (mnr A i) (if p<i then p else p-1):=by
    funext k;simp only[mnr,swp];congr 2;by_cases h:p<i
    ·simp only[h,if_true];(repeat' split)<;>omega
    ·simp only[h,if_false];(repeat' split)<;>omega
   rw[this,ih (by split<;>omega)]
  have e1:mnr (swp A p) p=mnr A (p+1):=by funext k;simp only[mnr,swp];congr 2;(repeat' split)<;>omega
  have e2:mnr (swp A p) (p+1)=mnr A p:=by funext k;simp only[mnr,swp];congr 2;(repeat' split)<;>omega
  have s0:swp A p p=A (p+1):=by simp[swp]
  have s1:swp A p (p+1)=A p:=by simp[swp]
  have hsum:det (n+1) (swp A p)+det (n+1) A=0:=by
   simp only[det];rw[←VW,qrM (p:=p) (q:=p+1) (by omega) hp (by omega) fun i hi h1 h2=>?_]
   ·rw[e1,e2,s0,s1,qmg];grind
   ·rw[key i hi h1 h2];have:swp A p i=A i:=by simp[swp,h1,h2]
    rw[this];grind
  grind
end Ring
theorem qh8{n:Nat}:∀(d:Nat) {A:Nat→Vec Rat} {p:Nat},p+d+1<n→A p=A (p+d+1)→det n A=0:=by
 intro d;induction d with
 | zero =>
  intro A p hp h;have h1:=qh9 (A:=A) (p:=p) (n:=n) hp;have h2:swp A p=A:=by
   funext i;simp only[swp];by_cases e:i=p
   ·subst e;simp;exact h.symm
   ·by_cases e':i=p+1
    ·subst e';simp;exact h
    ·simp[e,e']
  rw[h2]at h1;grind
 | succ d ih =>
  intro A p hp h;have h1:=qh9 (A:=A) (p:=p+d+1) (n:=n) (by omega);have h2:=ih (A:=swp A (p+d+1)) (p:=p) (by omega) (by simp only[swp];rw[if_neg (by omega),if_neg (by omega)];simp only[if_true];rw[h];congr 1)
  rw[h2]at h1;grind
theorem qqN{n:Nat}{A:Nat→Vec Rat}{p q:Nat}(hp:p<n)(hq:q<n)(hpq:p≠q)(h:A p=A q):det n A=0:=by
 rcases Nat.lt_or_gt_of_ne hpq with h'|h'
 ·exact qh8 (q-p-1) (p:=p) (by omega) (by rw[h];congr 1;omega)
 ·exact qh8 (p-q-1) (p:=q) (by omega) (by rw[←h];congr 1;omega)
theorem qe0{n:Nat}{A:Nat→Vec Rat}{p:Nat}(hp:p<n)(t:Nat→Rat):∀m,m≤n→det n (rep A p (fun c=>sm m fun j=>t j*A j c))=(if p<m then t p else 0)*det n A:=by
 intro m;induction m with
 | zero =>
  intro _;have h:=qbi (A:=A) hp 0 0 (fun _=>0) (fun _=>0);have e:(fun c:Nat=>(0:Rat)*(fun _=>(0:Rat)) c+0*(fun _=>(0:Rat)) c)=fun c=>sm 0 fun j=>t j*A j c:=by funext c;simp only[sm];grind
  rw[e]at h;rw[h];simp;grind
 | succ m ih =>
  intro hm;have h:=qbi (A:=A) hp 1 (t m) (fun c=>sm m fun j=>t j*A j c) (A m);have e:(fun c:Nat=>(1:Rat)*(fun c=>sm m fun j=>t j*A j c) c+t m*A m c)=fun c=>sm (m+1) fun j=>t j*A j c:=by funext c;simp only[sm];grind
  rw[e,ih (by omega)]at h;rw[h];by_cases hpm:m=p
  ·subst hpm;have:rep A m (A m)=A:=by funext i;simp only[rep];split<;>simp_all
   rw[this,if_neg (by omega),if_pos (by omega)];grind
  ·have:det n (rep A p (A m))=0:=qqN hp (q:=m) (by omega) (Ne.symm hpm) (by rw[VR,VQ hpm]);rw[this];by_cases h':p<m
   ·rw[if_pos h',if_pos (by omega)];grind
   ·rw[if_neg h',if_neg (by omega)];grind
def nrm:Nat→Vec Int→Nat
 | 0,_=>0
 | n+1,r=>(r 0).natAbs+nrm n (shv r)
def prd(n:Nat)(f:Nat→Nat):Nat:=match n with|0=>1|n+1=>prd n f*f n
def smN(n:Nat)(f:Nat→Nat):Nat:=match n with|0=>0|n+1=>smN n f+f n
theorem qc2{n:Nat}{f g:Nat→Nat}(h:∀i,i<n→f i=g i):prd n f=prd n g:=by
 induction n with
 | zero=>rfl
 | succ n ih=>simp only[prd];rw[ih fun i hi=>h i (by omega),h n (by omega)]
theorem qbI{n:Nat}{f g:Nat→Nat}(h:∀i,i<n→f i≤g i):prd n f≤prd n g:=by
 induction n with
 | zero=>exact Nat.le_refl _
 | succ n ih=>simp only[prd];exact Nat.mul_le_mul (ih fun i hi=>h i (by omega)) (h n (by omega))
theorem qc3(n a:Nat):prd n (fun _=>a)=a^n:=by
 induction n with
 | zero=>rfl
 | succ n ih=>simp only[prd];rw[ih,Nat.pow_succ]
theorem qmj{n:Nat}{f g:Nat→Nat}(h:∀i,i<n→f i≤g i):smN n f≤smN n g:=by
 induction n with
 | zero=>exact Nat.le_refl _
 | succ n ih=>simp only[smN];exact Nat.add_le_add (ih fun i hi=>h i (by omega)) (h n (by omega))
theorem qjB{n:Nat}{f g:Nat→Nat}(h:∀i,i<n→f i=g i):smN n f=smN n g:=by
 induction n with
 | zero=>rfl
 | succ n ih=>simp only[smN];rw[ih fun i hi=>h i (by omega),h n (by omega)]
theorem qpw(n a:Nat)(f:Nat→Nat):smN n (fun i=>f i*a)=smN n f*a:=by
 induction n with
 | zero=>simp[smN]
 | succ n ih=>simp only[smN];rw[ih,Nat.add_mul]
def skp(i k:Nat):Nat:=if k<i then k else k+1
theorem qpA(a b:Nat→Nat):∀n,smN n (fun i=>a i*prd (n-1) (fun k=>b (skp i k)))+prd n b≤prd n (fun i=>a i+b i):=by
 intro n;induction n with
 | zero=>simp[smN,prd]
 | succ n ih =>
  have e1:smN (n+1) (fun i=>a i*prd (n+1-1) (fun k=>b (skp i k)))=smN n (fun i=>a i*prd (n-1) (fun k=>b (skp i k)))*b n+a n*prd n b:=by
   simp only[smN,Nat.add_sub_cancel];congr 1
   ·rw[←qpw];refine qjB fun i hi=>?_;obtain⟨m,rfl⟩:∃m,n=m+1:=⟨n-1,by omega⟩;simp only[prd,Nat.add_sub_cancel];have:skp i m=m+1:=by simp[skp];omega
    rw[this,Nat.mul_assoc]
   ·congr 1;refine qc2 fun k hk=>?_;simp[skp,hk]
  rw[e1];simp only[prd];generalize smN n (fun i=>a i*prd (n-1) (fun k=>b (skp i k)))=S at *;generalize prd n b=P at *;have:=Nat.mul_le_mul ih (Nat.le_refl (a n+b n));refine Nat.le_trans ?_ this;rw[Nat.add_mul,Nat.mul_add,Nat.mul_add];have:a n*P=P*a n:=Nat.mul_comm _ _;omega
theorem qiS(n:Nat)(f:Nat→Int):(sm n f).natAbs≤smN n fun i=>(f i).natAbs:=by
 induction n with
 | zero=>simp[sm,smN]
 | succ n ih=>simp only[sm,smN];have:=Int.natAbs_add_le (sm n f) (f n);omega
theorem qgR(p:Nat):(sgn p:Int).natAbs=1:=by unfold sgn;split<;>rfl
theorem qaB:∀(n:Nat) (A:Nat→Vec Int),(det n A).natAbs≤prd n fun i=>nrm n (A i):=by
 intro n;induction n with
 | zero=>intro A;simp[det,prd]
 | succ n ih =>
  intro A;simp only[det];refine Nat.le_trans (qiS _ _) ?_;refine Nat.le_trans (qmj (g:=fun i=>(A i 0).natAbs*prd n (fun k=>nrm n (shv (A (skp i k))))) fun i hi=>?_) ?_
  ·rw[Int.natAbs_mul,Int.natAbs_mul,qgR,Nat.one_mul];exact Nat.mul_le_mul (Nat.le_refl _) (ih _)
  ·have:=qpA (fun i=>(A i 0).natAbs) (fun i=>nrm n (shv (A i))) (n+1);simp only[Nat.add_sub_cancel]at this;exact Nat.le_trans (Nat.le_add_right _ _) this
theorem qaO{n M:Nat}{r:Vec Int}(h:∀c,c<n→(r c).natAbs≤M):nrm n r≤n*M:=by
 induction n generalizing r with
 | zero=>simp[nrm]
 | succ n ih =>simp only[nrm];have h0:=h 0 (by omega);have:=ih (r:=shv r) fun c hc=>h (c+1) (by omega);rw[Nat.succ_mul];omega
theorem VJ{n k:Nat}:nrm n (fun c=>if c=k then 1 else 0)≤1:=by
 induction n generalizing k with
 | zero=>simp[nrm]
 | succ n ih =>
  simp only[nrm];cases k with
  | zero =>
   have:nrm n (shv fun c=>if c=0 then 1 else 0)≤n*0:=qaO fun c hc=>by simp[shv]
   simp;omega
  | succ k =>
   have:shv (fun c:Nat=>if c=k+1 then(1:Int)else 0)=fun c=>if c=k then 1 else 0:=by funext c;simp[shv]
   rw[this];have:=ih (k:=k);simp;omega
theorem qmf(p:Nat):((sgn p:Int):Rat)=sgn p:=by unfold sgn;split<;>rfl
theorem qpx(n:Nat)(f:Nat→Int):((sm n f:Int):Rat)=sm n fun i=>(f i:Rat):=by
 induction n with
 | zero=>rfl
 | succ n ih=>simp only[sm];rw[Rat.intCast_add,ih]
theorem qk1:∀(n:Nat) (A:Nat→Vec Int),((det n A:Int):Rat)=det n fun i c=>(A i c:Rat):=by
 intro n;induction n with
 | zero=>intro A;rfl
 | succ n ih =>intro A;simp only[det];rw[qpx];refine Qy fun i hi=>?_;rw[Rat.intCast_mul,Rat.intCast_mul,qmf,ih];rfl
theorem qpq{x:Rat}{D N:Int}(hD:D≠0)(h:x*D=N):x.num.natAbs≤N.natAbs∧x.den≤D.natAbs:=by
 have e:x.num*D=N*x.den:=by
  have h1:x*(D:Rat)*(x.den:Rat)=(N:Rat)*(x.den:Rat):=by rw[h]
  have h2:x*x.den=x.num:=by
   have:=Rat.num_divInt_den x;rw[Rat.divInt_eq_div]at this;have hd:((x.den:Int):Rat)≠0:=by intro h0;have:=x.den_nz;rw[←Rat.intCast_zero,Rat.intCast_inj]at h0;omega
   calc x*x.den=(x.num:Rat)/((x.den:Int):Rat)*((x.den:Int):Rat):=by rw[this];rfl
    _=x.num:=Rat.div_mul_cancel hd
  have h3:(x.num:Rat)*D=N*x.den:=by rw[←h2,←h1];grind
  have h4:((x.num*D:Int):Rat)=((N*x.den:Int):Rat):=by rw[Rat.intCast_mul,Rat.intCast_mul];exact h3
  exact Rat.intCast_inj.1 h4
 have hdvd:x.den∣D.natAbs:=by
  have:x.den∣x.num.natAbs*D.natAbs:=by rw[←Int.natAbs_mul,e,Int.natAbs_mul,Int.natAbs_natCast];exact Nat.dvd_mul_left _ _
  exact(Nat.Coprime.symm x.reduced).dvd_of_dvd_mul_left this
 have hDp:0<D.natAbs:=Int.natAbs_pos.2 hD;refine⟨?_,Nat.le_of_dvd hDp hdvd⟩;obtain⟨k,hk⟩:=hdvd;have e2:x.num.natAbs*D.natAbs=N.natAbs*x.den:=by rw[←Int.natAbs_mul,e,Int.natAbs_mul,Int.natAbs_natCast]
 rw[hk]at e2;have hd:=x.den_pos;have e3:x.num.natAbs*k=N.natAbs:=by
  have:(x.num.natAbs*k)*x.den=N.natAbs*x.den:=by rw[←e2];rw[Nat.mul_comm x.den k,Nat.mul_assoc]
  exact Nat.eq_of_mul_eq_mul_right hd this
 rw[←e3];have hkp:0<k:=by
  rcases Nat.eq_zero_or_pos k with h0|h0
  ·subst h0;simp at hk;omega
  ·exact h0
 exact Nat.le_mul_of_pos_right _ hkp
structure Row where
 last:Rat
 coef:List Rat
structure Tab where
 basis:List Nat
 rows:List Row
 cols:List Nat
 goals:List Row
def Row.co(r:Row)(j:Nat):Rat:=r.coef.getD j 0
def newRow(r:Row)(k:Nat):Row:=⟨-r.last/r.co k,(r.coef.map fun b=>-b/r.co k).set k (1/r.co k)⟩
def subst(r:Row)(k:Nat)(b:Row):Row:=⟨r.last+r.co k*b.last,List.zipWith (fun x y=>x+r.co k*y) (r.coef.set k 0) b.coef⟩
def rowAt(T:Tab)(i:Nat):Row:=T.rows.getD i ⟨0,[]⟩
def pivot(T:Tab)(i k:Nat):Tab :=
 ⟨T.basis.set i (T.cols.getD k 0),(T.rows.map fun r=>subst r k (newRow (rowAt T i) k)).set i (newRow (rowAt T i) k),T.cols.set k (T.basis.getD i 0),T.goals.map fun r=>subst r k (newRow (rowAt T i) k)⟩
theorem YG(r:Row)(k:Nat):(newRow r k).coef.length=r.coef.length:=by simp[newRow]
theorem KA{r:Row}{k j:Nat}(hk:k<r.coef.length)(hj:j<r.coef.length):(newRow r k).co j=if j=k then 1/r.co k else -r.co j/r.co k:=by
 simp only[newRow,Row.co,List.getD_eq_getElem?_getD,List.getElem?_set,List.length_map,List.getElem?_map];by_cases h:j=k
 ·subst h;simp[hj]
 ·rw[if_neg (Ne.symm h),if_neg h];simp[hj]
theorem qdm{r b:Row}{k:Nat}(h:b.coef.length=r.coef.length):(subst r k b).coef.length=r.coef.length:=by simp[subst,h]
theorem Xi{r b:Row}{k j:Nat}(h:b.coef.length=r.coef.length)(hj:j<r.coef.length):(subst r k b).co j=(if j=k then 0 else r.co j)+r.co k*b.co j:=by
 simp only[subst,Row.co,List.getD_eq_getElem?_getD,List.getElem?_zipWith,List.getElem?_set];by_cases e:j=k
 ·subst e;simp[hj,h]
 ·rw[if_neg (Ne.symm e),if_neg e];simp[hj,h]
theorem qjC{n:Nat}{f g:Nat→Rat}{k:Nat}(hk:k<n)(h:∀i,i<n→i≠k→f i=g i):sm n f=sm n g+(f k-g k):=by
 have:=VW n g (fun i=>f i-g i);have e:sm n (fun i=>g i+(f i-g i))=sm n f:=Qy fun i _=>by grind
 rw[e]at this;rw[this,Jb (n:=n) (f:=fun i=>f i-g i) (j:=k) hk fun i hi hne=>by simp only[h i hi hne];grind]
def tt(m:Nat)(r:Row)(j:Nat):Rat:=if j<m then r.co j else r.last
def Span(A:Nat→Vec Rat)(m:Nat)(r:Row)(f:Vec Rat):Prop:=∀c,f c=sm (m+1) fun j=>tt m r j*A j c
theorem qfG{A:Nat→Vec Rat}{m k:Nat}{r:Row}{f:Vec Rat}(hk:k<m)(hl:r.coef.length=m)(ha:r.co k≠0)(h:Span A m r f):Span (rep A k f) m (newRow r k) (A k):=by
 intro c;have e:sm (m+1) (fun j=>tt m (newRow r k) j*rep A k f j c)=sm (m+1) (fun j=>(-1/r.co k)*(tt m r j*A j c))+(1/r.co k*f c-(-1/r.co k)*(tt m r k*A k c)):=by
  rw[qjC (k:=k) (g:=fun j=>(-1/r.co k)*(tt m r j*A j c)) (by omega) fun j hj hne=>?_]
  ·rw[VR];simp only[tt,hk,if_true];rw[KA (by omega) (by omega),if_pos rfl]
  ·rw[VQ hne];simp only[tt];split
   ·rename_i hjm;rw[KA (by omega) (by omega),if_neg hne];grind
   ·simp only[newRow];grind
 rw[e,Ja,←h c];simp only[tt,hk,if_true];have:=Rat.mul_inv_cancel _ ha;rw[Rat.div_def,Rat.div_def];grind
theorem qaU{A:Nat→Vec Rat}{m k:Nat}{r r0:Row}{f f0:Vec Rat}(hk:k<m)(hl0:r0.coef.length=m)(hl:r.coef.length=m)(ha:r0.co k≠0)(h0:Span A m r0 f0)(h:Span A m r f):Span (rep A k f0) m (subst r k (newRow r0 k)) f:=by
 intro c;have hn:=YG r0 k;have h1:=qfG hk hl0 ha h0 c;have e:sm (m+1) (fun j=>tt m (subst r k (newRow r0 k)) j*rep A k f0 j c)=sm (m+1) (fun j=>(if j=k then 0 else tt m r j)*rep A k f0 j c)+r.co k*sm (m+1) (fun j=>tt m (newRow r0 k) j*rep A k f0 j c):=by
  rw[←Ja,←VW];refine Qy fun j hj=>?_;simp only[tt];split
  ·rw[Xi (by omega) (by omega)];grind
  ·rw[if_neg (by omega)];simp only[subst];grind
 rw[e,←h1,qjC (k:=k) (g:=fun j=>tt m r j*A j c) (by omega) fun j hj hne=>?_,←h c]
 ·simp only[tt,hk,if_true];grind
 ·rw[VQ hne,if_neg hne]
def Yx(cols:List Nat)(F:Nat→Vec Rat)(m:Nat)(F0:Vec Rat):Nat→Vec Rat:=fun j=>if j<m then F (cols.getD j 0)else F0
structure Good(F:Nat→Vec Rat)(F0:Vec Rat)(G:List (Vec Rat))(m:Nat)(T:Tab):Prop where
 cl:T.cols.length=m
 rl:T.rows.length=T.basis.length
 cf:∀r∈T.rows,r.coef.length=m
 gl:T.goals.length=G.length
 gf:∀r∈T.goals,r.coef.length=m
 row:∀i,i<T.rows.length→Span (Yx T.cols F m F0) m (rowAt T i) (F (T.basis.getD i 0))
 goal:∀i,i<G.length→Span (Yx T.cols F m F0) m (T.goals.getD i ⟨0,[]⟩) (G.getD i (fun _=>0))
 dt:det (m+1) (Yx T.cols F m F0)≠0
theorem X4{T:Tab}{i:Nat}(h:i<T.rows.length):rowAt T i∈T.rows:=by simp[rowAt,h]
theorem qkV{cols:List Nat}{F:Nat→Vec Rat}{m k v:Nat}{F0:Vec Rat}(hl:cols.length=m)(hk:k<m):Yx (cols.set k v) F m F0=rep (Yx cols F m F0) k (F v):=by
 funext j;simp only[Yx,rep];by_cases h:j=k
 ·subst h;simp[hk,hl]
 ·rw[if_neg h];by_cases h':j<m
  ·simp[h',List.getD_eq_getElem?_getD,Ne.symm h]
  ·simp[h']
theorem Xh{A:Nat→Vec Rat}{m:Nat}{r:Row}{f:Vec Rat}(h:Span A m r f){p:Nat}(hp:p<m+1):det (m+1) (rep A p f)=tt m r p*det (m+1) A:=by have:=qe0 (A:=A) hp (tt m r) (m+1) (Nat.le_refl _);rw[if_pos hp]at this;rw[←this];congr 2;funext c;exact h c
theorem qdk{A:Nat→Vec Rat}{m:Nat}{r s:Row}{f:Vec Rat}(hd:det (m+1) A≠0)(h:Span A m r f)(h':Span A m s f){p:Nat}(hp:p<m+1):tt m r p=tt m s p:=by
 have h1:=Xh h hp;have h2:=Xh h' hp;rw[h1]at h2;have:(tt m r p-tt m s p)*det (m+1) A=0:=by grind
 rcases Rat.mul_eq_zero.1 this with h|h
 ·grind
 ·exact absurd h hd
theorem XH{α β:Type}(l:List α)(f:α→β)(i:Nat)(a:α)(b:β)(h:i<l.length):(l.map f).getD i b=f (l.getD i a):=by simp[h]
theorem Good.pivot{F:Nat→Vec Rat}{F0:Vec Rat}{G:List (Vec Rat)}{m:Nat}{T:Tab}(h:Good F F0 G m T){i k:Nat}(hi:i<T.rows.length)(hk:k<m)(ha:(rowAt T i).co k≠0):Good F F0 G m (pivot T i k):=by
 have hri:=h.row i hi;have hli:=h.cf _ (X4 hi);have hA:Yx (T.cols.set k (T.basis.getD i 0)) F m F0=rep (Yx T.cols F m F0) k (F (T.basis.getD i 0)):=qkV h.cl hk;have hcol:Yx T.cols F m F0 k=F (T.cols.getD k 0):=by simp only[Yx,hk,if_true]
 refine⟨by simpa[LP.pivot]using h.cl,by simpa[LP.pivot]using h.rl,?_,by simpa[LP.pivot]using h.gl,?_,?_,?_,?_⟩
 ·intro r hr;simp only[LP.pivot]at hr;rcases List.mem_or_eq_of_mem_set hr with hr|rfl
  ·obtain⟨r0,hr0,rfl⟩:=List.mem_map.1 hr;have:=h.cf r0 hr0;rw[qdm (by rw[YG,hli,this]),this]
  ·rw[YG,hli]
 ·intro r hr;simp only[LP.pivot]at hr;obtain⟨r0,hr0,rfl⟩:=List.mem_map.1 hr;have:=h.gf r0 hr0;rw[qdm (by rw[YG,hli,this]),this]
 ·intro j hj;have hj':j<T.rows.length:=by simpa[LP.pivot]using hj
  have hjb:j<T.basis.length:=by rw[←h.rl];exact hj'
  simp only[LP.pivot,hA];by_cases e:j=i
  ·subst e;have e1:rowAt ⟨T.basis.set j (T.cols.getD k 0),(T.rows.map fun r=>LP.subst r k (newRow (rowAt T j) k)).set j (newRow (rowAt T j) k),T.cols.set k (T.basis.getD j 0),T.goals.map fun r=>LP.subst r k (newRow (rowAt T j) k)⟩ j=newRow (rowAt T j) k:=by simp[rowAt,hj']
   have e2:(T.basis.set j (T.cols.getD k 0)).getD j 0=T.cols.getD k 0:=by simp[hjb]
   rw[e1,e2,←hcol];exact qfG hk hli ha hri
  ·have e1:rowAt ⟨T.basis.set i (T.cols.getD k 0),(T.rows.map fun r=>LP.subst r k (newRow (rowAt T i) k)).set i (newRow (rowAt T i) k),T.cols.set k (T.basis.getD i 0),T.goals.map fun r=>LP.subst r k (newRow (rowAt T i) k)⟩ j=LP.subst (rowAt T j) k (newRow (rowAt T i) k):=by simp[rowAt,Ne.symm e,hj']
   have e2:(T.basis.set i (T.cols.getD k 0)).getD j 0=T.basis.getD j 0:=by simp[List.getD_eq_getElem?_getD,Ne.symm e]
   rw[e1,e2];exact qaU hk hli (h.cf _ (X4 hj')) ha hri (h.row j hj')
 ·intro j hj;simp only[LP.pivot,hA];have hj':j<T.goals.length:=by rw[h.gl];exact hj
  rw[XH _ _ _ ⟨0,[]⟩ _ hj'];exact qaU hk hli (h.gf _ (by simp[hj'])) ha hri (h.goal j hj)
 ·simp only[LP.pivot,hA];rw[Xh hri (by omega)];intro h0;rcases Rat.mul_eq_zero.1 h0 with h'|h'
  ·simp only[tt,hk,if_true]at h';exact ha h'
  ·exact h.dt h'
theorem qrr(B C p:Nat)(hB:1≤B):∀n,prd n (fun j=>if j=p then C else B)≤B^n*(if p<n then C else 1):=by
 intro n;induction n with
 | zero=>simp[prd]
 | succ n ih =>
  simp only[prd];by_cases h:n=p
  ·subst h;rw[if_neg (by omega)]at ih;rw[if_pos rfl,if_pos (by omega)];refine Nat.mul_le_mul ?_ (Nat.le_refl C);exact Nat.le_trans ih (by rw[Nat.mul_one];exact Nat.pow_le_pow_right hB (by omega))
  ·rw[if_neg h];by_cases h':p<n
   ·rw[if_pos h']at ih;rw[if_pos (by omega)];refine Nat.le_trans (Nat.mul_le_mul_right B ih) ?_;rw[Nat.pow_succ,Nat.mul_right_comm];exact Nat.le_refl _
   ·rw[if_neg h']at ih;rw[if_neg (by omega)];refine Nat.le_trans (Nat.mul_le_mul_right B ih) ?_;rw[Nat.pow_succ,Nat.mul_one,Nat.mul_one];exact Nat.le_refl _
def Yn(r:Vec Int):Vec Rat:=fun c=>(r c:Rat)
theorem qhX(cols:List Nat)(F:Nat→Vec Int)(m:Nat)(F0:Vec Int):Yx cols (fun v=>Yn (F v)) m (Yn F0)=fun j=>Yn (if j<m then F (cols.getD j 0)else F0):=by funext j;simp only[Yx];split<;>rfl
theorem qlV(A:Nat→Vec Int)(p:Nat)(u:Vec Int):rep (fun j=>Yn (A j)) p (Yn u)=fun j=>Yn (rep A p u j):=by funext j;simp only[rep];split<;>rfl
theorem Xz(n:Nat)(A:Nat→Vec Int):det n (fun j=>Yn (A j))=((det n A:Int):Rat):=(qk1 n A).symm
theorem VT{F:Nat→Vec Int}{F0:Vec Int}{m B C:Nat}{cols:List Nat}(hB:1≤B)(hF:∀v,nrm (m+1) (F v)≤B)(h0:nrm (m+1) F0≤1)
  (hd:det (m+1) (Yx cols (fun v=>Yn (F v)) m (Yn F0))≠0) {r:Row} {f:Vec Rat} {δ:Int} {fi:Vec Int} (hδ:δ≠0) (hf:∀c,(δ:Rat)*f c=(fi c:Rat)) (hC:nrm (m+1) fi≤C) (h:Span (Yx cols (fun v=>Yn (F v)) m (Yn F0)) m r f) {p:Nat} (hp:p<m+1) :
  (tt m r p).num.natAbs≤B^m*C∧(tt m r p).den≤B^m*δ.natAbs:=by
 rw[qhX]at hd h;have hd0:det (m+1) (fun j=>Yn ((fun j=>if j<m then F (cols.getD j 0)else F0) j))≠0:=hd;have h':Span (fun j=>Yn ((fun j=>if j<m then F (cols.getD j 0)else F0) j)) m r f:=h;clear h hd;generalize hA:(fun j=>if j<m then F (cols.getD j 0)else F0)=A at hd0 h';have h:=h';have hd:=hd0;have hd':det (m+1) (fun j=>Yn (A j))≠0:=hd;have hAn:∀j,nrm (m+1) (A j)≤if j=m then 1 else B:=by
  intro j;subst hA;simp only;by_cases hj:j<m
  ·rw[if_pos hj,if_neg (by omega)];exact hF _
  ·rw[if_neg hj];split
   ·exact h0
   ·exact Nat.le_trans h0 hB
 have hD:(det (m+1) A)≠0:=by intro h0;rw[Xz,h0]at hd';exact hd' rfl
 have hDb:(det (m+1) A).natAbs≤B^m:=by refine Nat.le_trans (qaB _ _) (Nat.le_trans (qbI fun i _=>hAn i) ?_);simp only[prd,if_true,Nat.mul_one];have:=qc2 (n:=m) (f:=fun i=>if i=m then 1 else B) (g:=fun _=>B) fun i hi=>if_neg (by omega);rw[this,qc3];exact Nat.le_refl _
 have hN:(det (m+1) (rep A p fi)).natAbs≤B^m*C:=by
  refine Nat.le_trans (qaB _ _) ?_;by_cases hpm:p=m
  ·subst hpm;simp only[prd,VR];refine Nat.mul_le_mul ?_ hC;rw[←qc3];refine qbI fun i hi=>?_;rw[VQ (by omega)];have:=hAn i;rw[if_neg (by omega)]at this;exact this
  ·simp only[prd];rw[VQ (Ne.symm hpm)];have h1:nrm (m+1) (A m)≤1:=by have:=hAn m;rwa[if_pos rfl]at this
   have h2:prd m (fun i=>nrm (m+1) (rep A p fi i))≤B^m*C:=by
    refine Nat.le_trans (qbI (g:=fun j=>if j=p then C else B) fun i hi=>?_) (Nat.le_trans (qrr B C p hB m) ?_)
    ·by_cases e:i=p
     ·subst e;rw[VR,if_pos rfl];exact hC
     ·rw[VQ e,if_neg e];have:=hAn i;rw[if_neg (by omega)]at this;exact this
    ·rw[if_pos (by omega)];exact Nat.le_refl _
   exact Nat.le_trans (Nat.mul_le_mul h2 h1) (by rw[Nat.mul_one];exact Nat.le_refl _)
 have key:tt m r p*((det (m+1) A*δ:Int):Rat)=((det (m+1) (rep A p fi):Int):Rat):=by
  rw[Rat.intCast_mul,←Xz,←Xz];have h1:=Xh h hp;have h2:=qbi (A:=fun j=>Yn (A j)) hp (δ:Rat) 0 f f;have h3:(fun c=>(δ:Rat)*f c+0*f c)=Yn fi:=by funext c;have:=hf c;simp only[Yn];grind
  rw[h3,qlV]at h2;rw[h2,h1];grind
 have hne:det (m+1) A*δ≠0:=Int.mul_ne_zero hD hδ;obtain⟨k1,k2⟩:=qpq hne key;refine⟨Nat.le_trans k1 hN,Nat.le_trans k2 ?_⟩;rw[Int.natAbs_mul];exact Nat.mul_le_mul hDb (Nat.le_refl _)
theorem qbT(n m:Nat)(f:Nat→Nat→Rat):sm n (fun i=>sm m fun j=>f i j)=sm m fun j=>sm n fun i=>f i j:=by
 induction n with
 | zero=>simp only[sm];rw[Jc fun _ _=>rfl]
 | succ n ih=>simp only[sm];rw[ih,VW]
theorem qjE{n:Nat}{f:Nat→Rat}(h:∀i,i<n→f i≤0):sm n f≤0:=by
 induction n with
 | zero=>exact Rat.le_refl
 | succ n ih=>simp only[sm];have:=ih fun i hi=>h i (by omega);have:=h n (by omega);grind
def Lin(A:Nat→Vec Rat)(m:Nat)(t:Nat→Rat)(f:Vec Rat):Prop:=∀c,f c=sm (m+1) fun j=>t j*A j c
theorem qiN{A:Nat→Vec Rat}{m:Nat}{t:Nat→Rat}{f:Vec Rat}(h:Lin A m t f){p:Nat}(hp:p<m+1):det (m+1) (rep A p f)=t p*det (m+1) A:=by have:=qe0 (A:=A) hp t (m+1) (Nat.le_refl _);rw[if_pos hp]at this;rw[←this];congr 2;funext c;exact h c
theorem qbw{A:Nat→Vec Rat}{m:Nat}{t s:Nat→Rat}{f:Vec Rat}(hd:det (m+1) A≠0)(h:Lin A m t f)(h':Lin A m s f){p:Nat}(hp:p<m+1):t p=s p:=by
 have h1:=qiN h hp;have h2:=qiN h' hp;rw[h1]at h2;have:(t p-s p)*det (m+1) A=0:=by grind
 rcases Rat.mul_eq_zero.1 this with h|h
 ·grind
 ·exact absurd h hd
theorem qlB{A A':Nat→Vec Rat}{m:Nat}{t t':Nat→Rat}{f:Vec Rat}{s:Nat}(hs:s<m+1)(hd:det (m+1) A≠0)(h:Lin A m t f)(h':Lin A' m t' f)(hl:∀l,l<m+1→∃u,Lin A m u (A' l)∧t' l*u s≤0):t s≤0:=by
 have:∃τ:Nat→Nat→Rat,∀l,l<m+1→Lin A m (τ l) (A' l)∧t' l*τ l s≤0:=by refine⟨fun l=>if hl':l<m+1 then Classical.choose (hl l hl')else fun _=>0,fun l hl'=>?_⟩;simp only[hl',dif_pos];exact Classical.choose_spec (hl l hl')
 obtain⟨τ,hτ⟩:=this;have e:Lin A m (fun j=>sm (m+1) fun l=>t' l*τ l j) f:=by
  intro c;rw[h' c];have:sm (m+1) (fun l=>t' l*A' l c)=sm (m+1) fun l=>sm (m+1) fun j=>t' l*τ l j*A j c:=by refine Qy fun l hl'=>?_;rw[(hτ l hl').1 c,←Ja];exact Qy fun j _=>by grind
  rw[this,qbT];refine Qy fun j _=>?_;have:=Ja (m+1) (A j c) fun l=>t' l*τ l j;rw[Rat.mul_comm,←this];exact Qy fun l _=>by grind
 rw[qbw hd h e hs];exact qjE fun l hl'=>(hτ l hl').2
structure qmK(m:Nat)(T:Tab):Prop where
 b:∀i j,i<T.rows.length→j<T.rows.length→T.basis.getD i 0=T.basis.getD j 0→i=j
 c:∀i j,i<m→j<m→T.cols.getD i 0=T.cols.getD j 0→i=j
 x:∀i j,i<T.rows.length→j<m→T.basis.getD i 0≠T.cols.getD j 0
theorem qfa{l:List Nat}{i j v:Nat}(hi:i<l.length):(l.set i v).getD j 0=if j=i then v else l.getD j 0:=by
 by_cases h:j=i
 ·subst h;simp[hi]
 ·rw[if_neg h];simp[List.getD_eq_getElem?_getD,Ne.symm h]
theorem Q2(T:Tab)(i k:Nat):(pivot T i k).rows.length=T.rows.length:=by simp[pivot]
theorem Zf{T:Tab}{i k j:Nat}(hi:i<T.basis.length):(pivot T i k).basis.getD j 0=if j=i then T.cols.getD k 0 else T.basis.getD j 0:=qfa hi
theorem ZC{T:Tab}{i k j:Nat}(hk:k<T.cols.length):(pivot T i k).cols.getD j 0=if j=k then T.basis.getD i 0 else T.cols.getD j 0:=qfa hk
theorem qmK.pivot{m:Nat}{T:Tab}(h:qmK m T)(hb:T.rows.length=T.basis.length)(hc:T.cols.length=m){i k:Nat}(hi:i<T.rows.length)(hk:k<m):qmK m (LP.pivot T i k):=by
 refine⟨fun p q hp hq e=>?_,fun p q hp hq e=>?_,fun p q hp hq e=>?_⟩
 ·rw[Q2]at hp hq;rw[Zf (by omega),Zf (by omega)]at e;by_cases h1:p=i<;>by_cases h2:q=i
  ·omega
  ·rw[if_pos h1,if_neg h2]at e;exact absurd e.symm (h.x q k hq hk)
  ·rw[if_neg h1,if_pos h2]at e;exact absurd e (h.x p k hp hk)
  ·rw[if_neg h1,if_neg h2]at e;exact h.b p q hp hq e
 ·rw[ZC (by omega),ZC (by omega)]at e;by_cases h1:p=k<;>by_cases h2:q=k
  ·omega
  ·rw[if_pos h1,if_neg h2]at e;exact absurd e (h.x i q hi hq)
  ·rw[if_neg h1,if_pos h2]at e;exact absurd e.symm (h.x i p hi hp)
  ·rw[if_neg h1,if_neg h2]at e;exact h.c p q hp hq e
 ·rw[Q2]at hp;rw[Zf (by omega),ZC (by omega)]at e;by_cases h1:p=i<;>by_cases h2:q=k
  ·rw[if_pos h1,if_pos h2]at e;exact h.x i k hi hk e.symm
  ·rw[if_pos h1,if_neg h2]at e;exact h2 (h.c k q hk hq e).symm
  ·rw[if_neg h1,if_pos h2]at e;exact h1 (h.b p i hp hi e)
  ·rw[if_neg h1,if_neg h2]at e;exact h.x p q hp hq e
def Bas(T:Tab)(v:Nat):Prop:=∃i,i<T.rows.length∧T.basis.getD i 0=v
def NB(m:Nat)(T:Tab)(v:Nat):Prop:=∃j,j<m∧T.cols.getD j 0=v
def goalAt(T:Tab)(g:Nat):Row:=T.goals.getD g ⟨0,[]⟩
structure Step(ent lv:Nat→Prop)(m g:Nat)(T:Tab)(i k:Nat):Prop where
 hi:i<T.rows.length
 hk:k<m
 e:ent (T.cols.getD k 0)
 c:0<(goalAt T g).co k
 emin:∀j,j<m→ent (T.cols.getD j 0)→0<(goalAt T g).co j→T.cols.getD k 0≤T.cols.getD j 0
 l:lv (T.basis.getD i 0)
 neg:(rowAt T i).co k<0
 lmin:∀j,j<T.rows.length→lv (T.basis.getD j 0)→(rowAt T j).co k<0→(rowAt T i).last / -(rowAt T i).co k≤(rowAt T j).last / -(rowAt T j).co k ∧
  ((rowAt T i).last / -(rowAt T i).co k=(rowAt T j).last / -(rowAt T j).co k→T.basis.getD i 0≤T.basis.getD j 0)
 feas:∀j,j<T.rows.length→lv (T.basis.getD j 0)→0≤(rowAt T j).last
section
variable{ent lv:Nat→Prop}{F:Nat→Vec Rat}{F0:Vec Rat}{G:List (Vec Rat)}{m g:Nat}
structure Run(ent lv:Nat→Prop)(F:Nat→Vec Rat)(F0:Vec Rat)(G:List (Vec Rat))(m g:Nat)(E:Nat→Tab)(is ks:Nat→Nat)(a b:Nat):Prop where
 good:∀t,a≤t→t≤b→Good F F0 G m (E t)
 once:∀t,a≤t→t≤b→qmK m (E t)
 step:∀t,a≤t→t<b→Step ent lv m g (E t) (is t) (ks t)
 next:∀t,a≤t→t<b→E (t+1)=pivot (E t) (is t) (ks t)
 hg:g<G.length
 el:∀v,ent v→lv v
variable{E:Nat→Tab}{is ks:Nat→Nat}{a b:Nat}
def en(E:Nat→Tab)(ks:Nat→Nat)(t:Nat):Nat:=(E t).cols.getD (ks t) 0
def le(E:Nat→Tab)(is:Nat→Nat)(t:Nat):Nat:=(E t).basis.getD (is t) 0
theorem Run.qa2(h:Run ent lv F F0 G m g E is ks a b){t:Nat}(h1:a≤t)(h2:t<b)(w:Nat):Bas (E (t+1)) w↔(Bas (E t) w∧w≠le E is t)∨w=en E ks t:=by
 have hs:=h.step t h1 h2;have hg:=h.good t h1 (by omega);have ho:=h.once t h1 (by omega);rw[h.next t h1 h2];unfold Bas;rw[Q2];constructor
 ·rintro⟨j,hj,e⟩;rw[Zf (by rw[←hg.rl];exact hs.hi)]at e;split at e
  ·exact .inr e.symm
  ·rename_i hne;exact .inl ⟨⟨j,hj,e⟩,fun e'=>hne (ho.b _ _ hj hs.hi (e.trans e'))⟩
 ·rintro(⟨⟨j,hj,e⟩,hne⟩|rfl)
  ·refine⟨j,hj,?_⟩;rw[Zf (by rw[←hg.rl];exact hs.hi),if_neg,e];rintro rfl;exact hne e.symm
  ·exact⟨is t,hs.hi,by rw[Zf (by rw[←hg.rl];exact hs.hi),if_pos rfl];rfl⟩
theorem Run.qiT(h:Run ent lv F F0 G m g E is ks a b){t:Nat}(h1:a≤t)(h2:t<b)(w:Nat):NB m (E (t+1)) w↔(NB m (E t) w∧w≠en E ks t)∨w=le E is t:=by
 have hs:=h.step t h1 h2;have hg:=h.good t h1 (by omega);have ho:=h.once t h1 (by omega);rw[h.next t h1 h2];unfold NB;constructor
 ·rintro⟨j,hj,e⟩;rw[ZC (by rw[hg.cl];exact hs.hk)]at e;split at e
  ·exact .inr e.symm
  ·rename_i hne;exact .inl ⟨⟨j,hj,e⟩,fun e'=>hne (ho.c _ _ hj hs.hk (e.trans e'))⟩
 ·rintro(⟨⟨j,hj,e⟩,hne⟩|rfl)
  ·refine⟨j,hj,?_⟩;rw[ZC (by rw[hg.cl];exact hs.hk),if_neg,e];rintro rfl;exact hne e.symm
  ·exact⟨ks t,hs.hk,by rw[ZC (by rw[hg.cl];exact hs.hk),if_pos rfl];rfl⟩
theorem qmK.Xa{T:Tab}(h:qmK m T){w:Nat}(h1:Bas T w)(h2:NB m T w):False:=by obtain⟨i,hi,e⟩:=h1;obtain⟨j,hj,e'⟩:=h2;exact h.x i j hi hj (e.trans e'.symm)
theorem Run.enters(h:Run ent lv F F0 G m g E is ks a b){w:Nat}:∀(d s:Nat),a≤s→s+d≤b→NB m (E s) w→Bas (E (s+d)) w→∃q,s≤q∧q<s+d∧en E ks q=w:=by
 intro d;induction d with
 | zero=>intro s h1 h2 h3 h4;exact absurd h4 fun h4=>(h.once s h1 (by omega)).Xa h4 h3
 | succ d ih =>
  intro s h1 h2 h3 h4;rcases(h.qa2 (t:=s+d) (by omega) (by omega) w).1 h4 with⟨h5,_⟩|h5
  ·obtain⟨q,q1,q2,q3⟩:=ih s h1 (by omega) h3 h5;exact⟨q,q1,by omega,q3⟩
  ·exact⟨s+d,by omega,by omega,h5.symm⟩
theorem Run.leaves(h:Run ent lv F F0 G m g E is ks a b){w:Nat}:∀(d s:Nat),a≤s→s+d≤b→Bas (E s) w→NB m (E (s+d)) w→∃q,s≤q∧q<s+d∧le E is q=w:=by
 intro d;induction d with
 | zero=>intro s h1 h2 h3 h4;exact absurd h4 fun h4=>(h.once s h1 (by omega)).Xa h3 h4
 | succ d ih =>
  intro s h1 h2 h3 h4;rcases(h.qiT (t:=s+d) (by omega) (by omega) w).1 h4 with⟨h5,_⟩|h5
  ·obtain⟨q,q1,q2,q3⟩:=ih s h1 (by omega) h3 h5;exact⟨q,q1,by omega,q3⟩
  ·exact⟨s+d,by omega,by omega,h5.symm⟩
theorem Run.either(h:Run ent lv F F0 G m g E is ks a b){w:Nat}:∀(d:Nat),a+d≤b→(Bas (E a) w∨NB m (E a) w↔Bas (E (a+d)) w∨NB m (E (a+d)) w):=by
 intro d;induction d with
 | zero=>intro _;exact Iff.rfl
 | succ d ih =>intro hd;rw[ih (by omega),←Nat.add_assoc,h.qa2 (t:=a+d) (by omega) (by omega),h.qiT (t:=a+d) (by omega) (by omega)];have hs:=h.step (a+d) (by omega) (by omega);have he:NB m (E (a+d)) (en E ks (a+d)):=⟨_,hs.hk,rfl⟩;have hl:Bas (E (a+d)) (le E is (a+d)):=⟨_,hs.hi,rfl⟩;by_cases h1:w=en E ks (a+d)<;>by_cases h2:w=le E is (a+d)<;>simp_all
end
theorem qna{a b:Rat}(ha:a≤0)(hb:0≤b):a*b≤0:=by have:=Rat.mul_nonneg (a:=-a) (b:=b) (by grind) hb;rw[Rat.neg_mul]at this;grind
theorem qrh{a b:Rat}(ha:0≤a)(hb:b≤0):a*b≤0:=by rw[Rat.mul_comm];exact qna hb ha
theorem W0{l a:Rat}(hl:0≤l)(ha:a<0):0≤-l/a:=by
 have e:-l/a*a = -l:=Rat.div_mul_cancel (Rat.ne_of_lt ha);rcases Rat.le_total (a:=0) (b:=-l/a)with h|h
 ·exact h
 ·by_cases h0:-l/a=0
  ·rw[h0];exact Rat.le_refl
  ·have:=Rat.mul_pos (a:=-(-l/a)) (b:=-a) (by have:=Rat.lt_of_le_of_ne h h0;grind) (by grind);grind
theorem WN{T:Tab}{i k g:Nat}(hg:g<T.goals.length):goalAt (pivot T i k) g=subst (goalAt T g) k (newRow (rowAt T i) k):=by simp only[goalAt,pivot];rw[XH _ _ _ ⟨0,[]⟩ _ hg]
theorem J8{T:Tab}{i k j:Nat}(hj:j<T.rows.length):rowAt (pivot T i k) j=if j=i then newRow (rowAt T i) k else subst (rowAt T j) k (newRow (rowAt T i) k):=by
 by_cases h:j=i
 ·subst h;rw[if_pos rfl];simp[rowAt,pivot,hj]
 ·rw[if_neg h];simp[rowAt,pivot,Ne.symm h,hj]
section
variable{ent lv:Nat→Prop}{F:Nat→Vec Rat}{F0:Vec Rat}{G:List (Vec Rat)}{m g:Nat}{E:Nat→Tab}{is ks:Nat→Nat}{a b:Nat}
theorem Run.up(h:Run ent lv F F0 G m g E is ks a b){t:Nat}(h1:a≤t)(h2:t<b) :
  (goalAt (E (t+1)) g).last=(goalAt (E t) g).last+(goalAt (E t) g).co (ks t)*(-(rowAt (E t) (is t)).last/(rowAt (E t) (is t)).co (ks t)) ∧
   0≤(goalAt (E t) g).co (ks t)*(-(rowAt (E t) (is t)).last/(rowAt (E t) (is t)).co (ks t)):=by
 have hs:=h.step t h1 h2;have hg:=h.good t h1 (by omega);refine⟨?_,Rat.mul_nonneg (Rat.le_of_lt hs.c) (W0 (hs.feas _ hs.hi hs.l) hs.neg)⟩;rw[h.next t h1 h2,WN (by rw[hg.gl];exact h.hg)];rfl
theorem Run.mono(h:Run ent lv F F0 G m g E is ks a b):∀(d s:Nat),a≤s→s+d≤b→(goalAt (E s) g).last≤(goalAt (E (s+d)) g).last:=by
 intro d;induction d with
 | zero=>intro s _ _;exact Rat.le_refl
 | succ d ih =>intro s h1 h2;have h3:=ih s h1 (by omega);have h4:=h.up (t:=s+d) (by omega) (by omega);rw[←Nat.add_assoc];grind
def Cyc(E:Nat→Tab)(a b:Nat):Prop:=(E b).basis=(E a).basis∧(E b).cols=(E a).cols
theorem Run.flat(h:Run ent lv F F0 G m g E is ks a b)(hab:a<b)(hc:Cyc E a b){t:Nat}(h1:a≤t)(h2:t<b):(rowAt (E t) (is t)).last=0:=by
 have hga:=h.good a (Nat.le_refl _) (by omega);have hgb:=h.good b (by omega) (Nat.le_refl _);have s1:=hga.goal g h.hg;have s2:=hgb.goal g h.hg;rw[hc.2]at s2;have e:=qdk hga.dt s1 s2 (p:=m) (by omega);simp only[tt,Nat.lt_irrefl,if_false]at e;have m1:=h.mono (t-a) a (Nat.le_refl _) (by omega);have m2:=h.mono (b-(t+1)) (t+1) (by omega) (by omega);rw[show a+(t-a)=t by omega]at m1;rw[show t+1+(b-(t+1))=b by omega]at m2;obtain⟨u1,u2⟩:=h.up h1 h2;have e':(goalAt (E a) g).last=(goalAt (E b) g).last:=e;have hs:=h.step t h1 h2;have z:(goalAt (E t) g).co (ks t)*(-(rowAt (E t) (is t)).last/(rowAt (E t) (is t)).co (ks t))=0:=by grind
 rcases Rat.mul_eq_zero.1 z with z|z
 ·have:=hs.c;rw[z]at this;exact absurd this Rat.lt_irrefl
 ·have e2:-(rowAt (E t) (is t)).last/(rowAt (E t) (is t)).co (ks t)*(rowAt (E t) (is t)).co (ks t) = -(rowAt (E t) (is t)).last:=Rat.div_mul_cancel (Rat.ne_of_lt hs.neg);rw[z]at e2;grind
def Zr(T:Tab)(w:Nat):Prop:=∀i,i<T.rows.length→T.basis.getD i 0=w→(rowAt T i).last=0
theorem Run.qke(h:Run ent lv F F0 G m g E is ks a b)(hab:a<b)(hc:Cyc E a b){w:Nat}:∀(d s:Nat),a≤s→s+d≤b→Zr (E s) w→Zr (E (s+d)) w:=by
 intro d;induction d with
 | zero=>intro s _ _ hz;exact hz
 | succ d ih =>
  intro s h1 h2 hz;have hz:=ih s h1 (by omega) hz;rw[←Nat.add_assoc];have hs:=h.step (s+d) (by omega) (by omega);have hg:=h.good (s+d) (by omega) (by omega);have hf:=h.flat hab hc (t:=s+d) (by omega) (by omega);rw[h.next (s+d) (by omega) (by omega)];intro j hj e;rw[Q2]at hj;rw[Zf (by rw[←hg.rl];exact hs.hi)]at e;rw[J8 hj];have hth:(newRow (rowAt (E (s+d)) (is (s+d))) (ks (s+d))).last=0:=by simp only[newRow,hf];rw[Rat.div_def];grind
  by_cases hji:j=is (s+d)
  ·rw[if_pos hji];exact hth
  ·rw[if_neg hji]at e⊢;simp only[subst,hth];have:=hz j hj e;rw[this];grind
theorem Run.zr(h:Run ent lv F F0 G m g E is ks a b)(hab:a<b)(hc:Cyc E a b){q:Nat}(q1:a≤q)(q2:q<b){t:Nat}(h1:a≤t)(h2:t≤b):Zr (E t) (en E ks q):=by
 have hs:=h.step q q1 q2;have z0:Zr (E q) (en E ks q):=fun i hi e=>absurd e ((h.once q q1 (by omega)).x i _ hi hs.hk);have zb:=h.qke hab hc (b-q) q q1 (by omega) z0;rw[show q+(b-q)=b by omega]at zb;have za:Zr (E a) (en E ks q):=by
  intro i hi e;have hga:=h.good a (Nat.le_refl _) (by omega);have hgb:=h.good b (by omega) (Nat.le_refl _);have hib:i<(E b).rows.length:=by rw[hgb.rl,hc.1,←hga.rl];exact hi
  have s1:=hga.row i hi;have s2:=hgb.row i hib;rw[hc.2,hc.1]at s2;have e':=qdk hga.dt s1 s2 (p:=m) (by omega);simp only[tt,Nat.lt_irrefl,if_false]at e';rw[e'];exact zb i hib (by rw[hc.1];exact e)
 have:=h.qke hab hc (t-a) a (Nat.le_refl _) (by omega) za;rwa[show a+(t-a)=t by omega]at this
theorem qgl(f:Nat→Nat):∀(d a:Nat),∃p,a≤p∧p<a+d+1∧∀q,a≤q→q<a+d+1→f q≤f p:=by
 intro d;induction d with
 | zero=>intro a;exact⟨a,by omega,by omega,fun q h1 h2=>by rw[show q=a by omega];exact Nat.le_refl _⟩
 | succ d ih =>
  intro a;obtain⟨p,h1,h2,h3⟩:=ih a;by_cases h:f p≤f (a+d+1)
  ·exact⟨a+d+1,by omega,by omega,fun q q1 q2=>by
    by_cases e:q=a+d+1
    ·subst e;exact Nat.le_refl _
    ·exact Nat.le_trans (h3 q q1 (by omega)) h⟩
  ·exact⟨p,h1,by omega,fun q q1 q2=>by
    by_cases e:q=a+d+1
    ·subst e;omega
    ·exact h3 q q1 (by omega)⟩
theorem Run.qlK(h:Run ent lv F F0 G m g E is ks a b)(hab:a<b)(hc:Cyc E a b):False:=by
 obtain⟨p,p1,p2,pmax⟩:=qgl (en E ks) (b-a-1) a;rw[show a+(b-a-1)+1=b by omega]at p2 pmax;have hsp:=h.step p p1 p2;have nbp:NB m (E p) (en E ks p):=⟨_,hsp.hk,rfl⟩;have hex:∃p',a≤p'∧p'<b∧le E is p'=en E ks p:=by
  have hei:=(h.either (w:=en E ks p) (p-a) (by omega)).2 (by rw[show a+(p-a)=p by omega];exact .inr nbp);rcases hei with hb|hn
  ·obtain⟨q,q1,q2,q3⟩:=h.leaves (p-a) a (Nat.le_refl _) (by omega) hb (by rw[show a+(p-a)=p by omega];exact nbp);exact⟨q,q1,by omega,q3⟩
  ·have hnb:NB m (E b) (en E ks p):=by obtain⟨j,hj,e⟩:=hn;exact⟨j,hj,by rw[hc.2];exact e⟩
   have hb1:Bas (E (p+1)) (en E ks p):=(h.qa2 p1 p2 _).2 (.inr rfl);obtain⟨q,q1,q2,q3⟩:=h.leaves (b-(p+1)) (p+1) (by omega) (by omega) hb1 (by rw[show p+1+(b-(p+1))=b by omega];exact hnb);exact⟨q,by omega,by omega,q3⟩
 obtain⟨p',q1,q2,hlv⟩:=hex;have hsq:=h.step p' q1 q2;have hgp:=h.good p p1 (by omega);have hgq:=h.good p' q1 (by omega);have hop:=h.once p p1 (by omega);have hoq:=h.once p' q1 (by omega);have l1:Lin (Yx (E p').cols F m F0) m (tt m (goalAt (E p') g)) (G.getD g fun _=>0):=hgq.goal g h.hg;have l2:Lin (Yx (E p).cols F m F0) m (tt m (goalAt (E p) g)) (G.getD g fun _=>0):=hgp.goal g h.hg;have hks:=hsq.hk;have:=qlB (s:=ks p') (by omega) hgq.dt l1 l2 fun l hl=>by
  by_cases hlm:l=m
  ·subst hlm;refine⟨fun j=>if j=l then 1 else 0,fun c=>?_,?_⟩
   ·rw[Jb (j:=l) (by omega) fun i _ hne=>by simp[hne]];simp[Yx]
   ·simp only[];rw[if_neg (by omega)];grind
  ·have hl':l<m:=by omega
   have hA':Yx (E p).cols F m F0 l=F ((E p).cols.getD l 0):=by simp only[Yx,hl',if_true]
   have htt:tt m (goalAt (E p) g) l=(goalAt (E p) g).co l:=by simp only[tt,hl',if_true]
   rw[hA',htt];generalize hw:(E p).cols.getD l 0=w;have nbw:NB m (E p) w:=⟨l,hl',hw⟩;have hei:=(h.either (w:=w) (p'-a) (by omega)).1 ((h.either (w:=w) (p-a) (by omega)).2 (by rw[show a+(p-a)=p by omega];exact .inr nbw));rw[show a+(p'-a)=p' by omega]at hei;rcases hei with hb|⟨j0,hj0,e0⟩
   ·obtain⟨r,hr,er⟩:=hb;have hsp':=hgq.row r hr;rw[er]at hsp';refine⟨tt m (rowAt (E p') r),hsp',?_⟩;have:tt m (rowAt (E p') r) (ks p')=(rowAt (E p') r).co (ks p'):=by simp only[tt,hks,if_true]
    rw[this];by_cases hwv:w=en E ks p
    ·have hlk:l=ks p:=hop.c l _ hl' hsp.hk (by rw[hw,hwv];rfl);have hri:r=is p':=hoq.b r _ hr hsq.hi (by rw[er,hwv,←hlv];rfl);rw[hlk,hri];exact qrh (Rat.le_of_lt hsp.c) (Rat.le_of_lt hsq.neg)
    ·have hq:∃q,a≤q∧q<b∧en E ks q=w:=by
      by_cases hpp:p≤p'
      ·obtain⟨q,c1,c2,c3⟩:=h.enters (p'-p) p p1 (by omega) nbw (by rw[show p+(p'-p)=p' by omega];exact⟨r,hr,er⟩);exact⟨q,by omega,by omega,c3⟩
      ·have hei:=(h.either (w:=w) (p-a) (by omega)).2 (by rw[show a+(p-a)=p by omega];exact .inr nbw);rcases hei with⟨i,hi,ei⟩|hn
       ·have hga:=h.good a (Nat.le_refl _) (by omega);have hgb:=h.good b (by omega) (Nat.le_refl _);have hbb:Bas (E b) w:=⟨i,by rw[hgb.rl,hc.1,←hga.rl];exact hi,by rw[hc.1];exact ei⟩;obtain⟨q,c1,c2,c3⟩:=h.enters (b-p) p p1 (by omega) nbw (by rw[show p+(b-p)=b by omega];exact hbb);exact⟨q,by omega,by omega,c3⟩
       ·obtain⟨q,c1,c2,c3⟩:=h.enters (p'-a) a (Nat.le_refl _) (by omega) hn (by rw[show a+(p'-a)=p' by omega];exact⟨r,hr,er⟩);exact⟨q,by omega,by omega,c3⟩
     obtain⟨q,c1,c2,c3⟩:=hq;have hent:ent w:=by rw[←c3];exact(h.step q c1 c2).e
     have hle:w≤en E ks p:=by rw[←c3];exact pmax q c1 c2
     have g1:(goalAt (E p) g).co l≤0:=by
      rcases Rat.not_lt.1 (fun hpos:0<(goalAt (E p) g).co l=>by have:=hsp.emin l hl' (by rw[hw];exact hent) hpos;rw[hw]at this;exact hwv (Nat.le_antisymm hle this))with h'
      exact h'
     have g2:0≤(rowAt (E p') r).co (ks p'):=by
      refine Rat.not_lt.1 fun hneg=>?_;have hm:=hsq.lmin r hr (by rw[er];exact h.el w hent) hneg;have z1:=h.flat hab hc q1 q2;have z2:(rowAt (E p') r).last=0:=by have:=h.zr hab hc c1 c2 q1 (by omega:p'≤b);rw[c3]at this;exact this r hr er
      have:=hm.2 (by rw[z1,z2,Rat.div_def,Rat.div_def];grind);rw[er]at this;have hlv':(E p').basis.getD (is p') 0=en E ks p:=hlv;rw[hlv']at this;exact hwv (Nat.le_antisymm hle this)
     exact qna g1 g2
   ·refine⟨fun j=>if j=j0 then 1 else 0,fun c=>?_,?_⟩
    ·rw[Jb (j:=j0) (by omega) fun i _ hne=>by simp[hne]];simp only[Yx,hj0,if_true,e0];grind
    ·simp only[];by_cases hj:ks p'=j0
     ·rw[if_pos hj];have hent:ent w:=by rw[←e0,←hj];exact hsq.e
      have hwe:w=en E ks p':=by rw[←e0,←hj];rfl
      have g1:(goalAt (E p) g).co l≤0:=by
       refine Rat.not_lt.1 fun hpos=>?_;have:=hsp.emin l hl' (by rw[hw];exact hent) hpos;rw[hw]at this;have h2:w≤en E ks p:=by rw[hwe];exact pmax p' q1 q2
       have h3:w=en E ks p:=Nat.le_antisymm h2 this;have hbv:Bas (E p') w:=⟨is p',hsq.hi,by rw[h3,←hlv];rfl⟩;exact hoq.Xa hbv ⟨j0,hj0,e0⟩
      grind
     ·rw[if_neg hj];grind
 have hc':=hsq.c;simp only[tt,hks,if_true]at this;exact absurd hc' (Rat.not_lt.2 this)
end
structure Prg where
 n:Nat
 c:Nat→Rat
 c0:Rat
 m:Nat
 eq:Nat→Bool
 a:Nat→Nat→Rat
 b:Nat→Rat
def Prg.lin(P:Prg)(i:Nat)(x:Nat→Rat):Rat:=sm P.n fun j=>P.a i j*x j
def Prg.obj(P:Prg)(x:Nat→Rat):Rat:=sm P.n (fun j=>P.c j*x j)+P.c0
def Prg.Vn(P:Prg)(x:Nat→Rat):Prop:=∀i,i<P.m→0≤P.lin i x+P.b i∧(P.eq i=true→P.lin i x+P.b i=0)
def Prg.Rec(P:Prg)(r:Nat→Rat):Prop:=∀i,i<P.m→0≤P.lin i r∧(P.eq i=true→P.lin i r=0)
def Prg.Pos(P:Prg)(y:Nat→Rat):Prop:=∀i,i<P.m→P.eq i=false→0≤y i
def Prg.comb(P:Prg)(y:Nat→Rat)(j:Nat):Rat:=sm P.m fun i=>y i*P.a i j
def Prg.cst(P:Prg)(y:Nat→Rat):Rat:=sm P.m fun i=>y i*P.b i
def Prg.Opt(P:Prg)(v:Rat):Prop:=(∃x,P.Vn x∧P.obj x=v)∧∃y,P.Pos y∧(∀j,j<P.n→P.c j+P.comb y j=0)∧P.c0+P.cst y=v
def Prg.Unb(P:Prg):Prop:=(∃x,P.Vn x)∧∃r,P.Rec r∧0<sm P.n fun j=>P.c j*r j
def Prg.Inf(P:Prg):Prop:=∃y,P.Pos y∧(∀j,j<P.n→P.comb y j=0)∧P.cst y = -1
theorem qjD{n:Nat}{f:Nat→Rat}(h:∀i,i<n→0≤f i):0≤sm n f:=by
 induction n with
 | zero=>exact Rat.le_refl
 | succ n ih=>simp only[sm];exact Rat.add_nonneg (ih fun i hi=>h i (by omega)) (h n (by omega))
theorem qaT(n:Nat)(f:Nat→Rat):sm n (fun i=>- f i) =-sm n f:=by have:=Ja n (-1:Rat) f;rw[show(-1:Rat)*sm n f =-sm n f by grind]at this;rw[←this];exact Qy fun i _=>by grind
theorem qeY(P:Prg)(x y:Nat→Rat):sm P.m (fun i=>y i*P.lin i x)=sm P.n fun j=>P.comb y j*x j:=by
 have h1:sm P.m (fun i=>y i*P.lin i x)=sm P.m fun i=>sm P.n fun j=>y i*P.a i j*x j:=by refine Qy fun i _=>?_;unfold Prg.lin;rw[←Ja];exact Qy fun j _=>by grind
 rw[h1,qbT];refine Qy fun j _=>?_;unfold Prg.comb;rw[Rat.mul_comm,←Ja];exact Qy fun i _=>by grind
theorem Prg.qaC{P:Prg}{y:Nat→Rat}{v:Nat→Rat}(hy:P.Pos y)(hv:∀i,i<P.m→0≤v i∧(P.eq i=true→v i=0)):0≤sm P.m fun i=>y i*v i:=by
 refine qjD fun i hi=>?_;cases he:P.eq i with
 | true=>rw[(hv i hi).2 he];grind
 | false=>exact Rat.mul_nonneg (hy i hi he) (hv i hi).1
theorem Prg.weak{P:Prg}{x y:Nat→Rat}(hx:P.Vn x)(hy:P.Pos y):0≤sm P.n (fun j=>P.comb y j*x j)+P.cst y:=by
 have h:=P.qaC hy hx;have e:sm P.m (fun i=>y i*(P.lin i x+P.b i))=sm P.m (fun i=>y i*P.lin i x)+P.cst y:=by unfold Prg.cst;rw[←VW];exact Qy fun i _=>by grind
 rw[e,qeY]at h;exact h
theorem Prg.qmG{P:Prg}{r y:Nat→Rat}(hr:P.Rec r)(hy:P.Pos y):0≤sm P.n fun j=>P.comb y j*r j:=by have h:=P.qaC hy hr;rw[qeY]at h;exact h
theorem Prg.bound{P:Prg}{x y:Nat→Rat}(hx:P.Vn x)(hy:P.Pos y)(hc:∀j,j<P.n→P.c j+P.comb y j=0):P.obj x≤P.c0+P.cst y:=by
 have h:=P.weak hx hy;have e:sm P.n (fun j=>P.comb y j*x j) =-sm P.n fun j=>P.c j*x j:=by
  rw[←qaT];refine Qy fun j hj=>?_;have:=hc j hj;have:P.comb y j =-P.c j:=by grind
  rw[this];grind
 rw[e]at h;unfold Prg.obj;grind
theorem Prg.qhK{P:Prg}{r y:Nat→Rat}(hr:P.Rec r)(hy:P.Pos y)(hc:∀j,j<P.n→P.c j+P.comb y j=0):sm P.n (fun j=>P.c j*r j)≤0:=by
 have h:=P.qmG hr hy;have e:sm P.n (fun j=>P.comb y j*r j) =-sm P.n fun j=>P.c j*r j:=by
  rw[←qaT];refine Qy fun j hj=>?_;have:=hc j hj;have:P.comb y j =-P.c j:=by grind
  rw[this];grind
 rw[e]at h;grind
theorem Prg.Opt.le{P:Prg}{v:Rat}(h:P.Opt v){x:Nat→Rat}(hx:P.Vn x):P.obj x≤v:=by obtain⟨_,y,h1,h2,h3⟩:=h;rw[←h3];exact P.bound hx h1 h2
theorem Prg.Inf.no{P:Prg}(h:P.Inf){x:Nat→Rat}(hx:P.Vn x):False:=by obtain⟨y,h1,h2,h3⟩:=h;have:=P.weak hx h1;rw[Jc fun j hj=>by rw[h2 j hj];grind,h3]at this;grind
inductive Res(P:Prg):Nat→Rat→Prop
 | opt {v:Rat} (h:P.Opt v):Res P 0 v
 | unb {v:Rat} (h:P.Unb):Res P 1 v
 | inf {v:Rat} (h:P.Inf):Res P 2 v
structure qs9(P Q:Prg):Prop where
 feas:∀y,Q.Vn y↔P.Pos y∧∀j,j<P.n→P.c j+P.comb y j=0
 obj:∀y,Q.obj y = -(P.c0+P.cst y)
 rc:∀y,Q.Rec y→P.Pos y∧∀j,j<P.n→P.comb y j=0
 ro:∀y,sm Q.n (fun j=>Q.c j*y j) =-P.cst y
theorem duality{P Q:Prg}(h:qs9 P Q){a b:Nat}{v w:Rat}(hp:Res P a v)(hq:Res Q b w):(a=0→b=0∧v = -w)∧(a=1→b=2)∧(a=2→b≠0):=by
 refine⟨?_,?_,?_⟩
 ·intro ha;cases hp with
  | opt hp =>
   obtain⟨⟨x,hx,hxv⟩,y,y1,y2,y3⟩:=hp;have hfy:Q.Vn y:=(h.feas y).2 ⟨y1,y2⟩;have hoy:=h.obj y;cases hq with
   | opt hq =>refine⟨rfl,?_⟩;have h1:=hq.le hfy;obtain⟨⟨y',hy',hyw⟩,_⟩:=hq;obtain⟨g1,g2⟩:=(h.feas y').1 hy';have h2:=P.bound hx g1 g2;have h3:=h.obj y';grind
   | unb hq =>obtain⟨_,r,hr,hpos⟩:=hq;obtain⟨g1,g2⟩:=h.rc r hr;have h1:=P.weak hx g1;rw[Jc fun j hj=>by rw[g2 j hj];grind]at h1;rw[h.ro]at hpos;grind
   | inf hq=>exact(hq.no hfy).elim
  | _=>cases ha
 ·intro ha;cases hp with
  | unb hp =>
   obtain⟨_,r,hr,hpos⟩:=hp;have key:∀y,Q.Vn y→False:=fun y hy=>by obtain⟨g1,g2⟩:=(h.feas y).1 hy;have:=P.qhK hr g1 g2;grind
   cases hq with
   | opt hq=>obtain⟨⟨y,hy,_⟩,_⟩:=hq;exact(key y hy).elim
   | unb hq=>obtain⟨⟨y,hy⟩,_⟩:=hq;exact(key y hy).elim
   | inf hq=>rfl
  | _=>cases ha
 ·intro ha hb;cases hp with
  | inf hp =>
   cases hq with
   | opt hq =>
    obtain⟨y0,z1,z2,z3⟩:=hp;have h0:=hq;obtain⟨⟨y,hy,hyw⟩,_⟩:=hq;obtain⟨g1,g2⟩:=(h.feas y).1 hy;have hc:∀j,P.comb (fun i=>y i+y0 i) j=P.comb y j+P.comb y0 j:=fun j=>by unfold Prg.comb;rw[←VW];exact Qy fun i _=>by grind
    have hk:P.cst (fun i=>y i+y0 i)=P.cst y+P.cst y0:=by unfold Prg.cst;rw[←VW];exact Qy fun i _=>by grind
    have hf:Q.Vn fun i=>y i+y0 i:=(h.feas _).2 ⟨fun i hi he=>Rat.add_nonneg (g1 i hi he) (z1 i hi he),fun j hj=>by rw[hc,z2 j hj];have:=g2 j hj;grind⟩;have h1:=h0.le hf;have h2:=h.obj fun i=>y i+y0 i;have h3:=h.obj y;rw[hk,z3]at h2;grind
   | _=>cases hb
  | _=>cases ha
def YB(bd:Nat→Bool)(cols:List Nat)(co:Nat→Rat):Nat→Option Nat
 | 0=>none
 | k+1=>match YB bd cols co k with
  | none=>if bd (cols.getD k 0)=true∧0<co k then some k else none
  | some b=>if bd (cols.getD k 0)=true∧0<co k∧cols.getD k 0<cols.getD b 0 then some k else some b
theorem Ve{bd:Nat→Bool}{cols:List Nat}{co:Nat→Rat}:∀{n:Nat},YB bd cols co n=none→∀j,j<n→bd (cols.getD j 0)=true→¬0<co j:=by
 intro n;induction n with
 | zero=>intro _ j hj;omega
 | succ n ih =>
  intro h j hj hb hc;simp only[YB]at h;split at h
  ·rename_i h0;split at h
   ·cases h
   ·rename_i h1;by_cases e:j=n
    ·subst e;exact h1 ⟨hb,hc⟩
    ·exact ih h0 j (by omega) hb hc
  ·split at h<;>cases h
theorem ZJ{bd:Nat→Bool}{cols:List Nat}{co:Nat→Rat}:∀{n b:Nat},YB bd cols co n=some b→b<n∧bd (cols.getD b 0)=true∧0<co b∧∀j,j<n→bd (cols.getD j 0)=true→0<co j→cols.getD b 0≤cols.getD j 0:=by
 intro n;induction n with
 | zero=>intro b h;cases h
 | succ n ih =>
  intro b h;simp only[YB]at h;split at h
  ·rename_i h0;split at h
   ·rename_i h1;injection h with h;subst h;refine⟨by omega,h1.1,h1.2,fun j hj hb hc=>?_⟩;by_cases e:j=n
    ·subst e;exact Nat.le_refl _
    ·exact absurd hc (Ve h0 j (by omega) hb)
   ·cases h
  ·rename_i b0 h0;obtain⟨g1,g2,g3,g4⟩:=ih h0;split at h
   ·rename_i h1;injection h with h;subst h;refine⟨by omega,h1.1,h1.2.1,fun j hj hb hc=>?_⟩;by_cases e:j=n
    ·subst e;exact Nat.le_refl _
    ·have:=g4 j (by omega) hb hc;omega
   ·rename_i h1;injection h with h;subst h;refine⟨by omega,g2,g3,fun j hj hb hc=>?_⟩;by_cases e:j=n
    ·subst e;exact Nat.not_lt.1 fun h2=>h1 ⟨hb,hc,h2⟩
    ·exact g4 j (by omega) hb hc
def ZX(bd:Nat→Bool)(art:Nat)(basis:List Nat)(la a:Nat→Rat):Nat→Option (Nat×Rat)
 | 0=>none
 | i+1=>match ZX bd art basis la a i with
  | none=>if bd (basis.getD i 0)=true∧a i<0 then some (i,la i / -a i)else none
  | some (b,l)=>if bd (basis.getD i 0)=true∧a i<0 then
    (if la i / -a i<l then some (i,la i / -a i)else if la i / -a i=l∧(basis.getD i 0=art∨(basis.getD b 0≠art∧basis.getD i 0<basis.getD b 0))then some (i,l)else some (b,l))
   else some (b,l)
theorem XS{bd:Nat→Bool}{art:Nat}{basis:List Nat}{la a:Nat→Rat}:∀{n:Nat},ZX bd art basis la a n=none→∀j,j<n→bd (basis.getD j 0)=true→¬a j<0:=by
 intro n;induction n with
 | zero=>intro _ j hj;omega
 | succ n ih =>
  intro h j hj hb hc;simp only[ZX]at h;split at h
  ·rename_i h0;split at h
   ·cases h
   ·rename_i h1;by_cases e:j=n
    ·subst e;exact h1 ⟨hb,hc⟩
    ·exact ih h0 j (by omega) hb hc
  ·split at h
   ·split at h
    ·cases h
    ·split at h<;>cases h
   ·cases h
theorem XU{bd:Nat→Bool}{art:Nat}{basis:List Nat}{la a:Nat→Rat}:∀{n b:Nat} {l:Rat},ZX bd art basis la a n=some (b,l)→b<n∧bd (basis.getD b 0)=true∧a b<0∧l=la b / -a b ∧
  ∀j,j<n→bd (basis.getD j 0)=true→a j<0→l≤la j / -a j∧(l=la j / -a j→basis.getD b 0=art∨(basis.getD j 0≠art∧basis.getD b 0≤basis.getD j 0)):=by
 intro n;induction n with
 | zero=>intro b l h;cases h
 | succ n ih =>
  intro b l h;simp only[ZX]at h;split at h
  ·rename_i h0;split at h
   ·rename_i h1;injection h with h;injection h with h2 h3;subst h2 h3;refine⟨by omega,h1.1,h1.2,rfl,fun j hj hb hc=>?_⟩;by_cases e:j=n
    ·subst e;exact⟨Rat.le_refl,fun _=>(Decidable.em (basis.getD j 0=art)).imp id fun e=>⟨e,Nat.le_refl _⟩⟩
    ·exact absurd hc (XS h0 j (by omega) hb)
   ·cases h
  ·rename_i b0 l0 h0;obtain⟨g1,g2,g3,g4,g5⟩:=ih h0;split at h
   ·rename_i h1;split at h
    ·rename_i hlt;injection h with h;injection h with h2 h3;subst h2 h3;refine⟨by omega,h1.1,h1.2,rfl,fun j hj hb hc=>?_⟩;by_cases e:j=n
     ·subst e;exact⟨Rat.le_refl,fun _=>(Decidable.em (basis.getD j 0=art)).imp id fun e=>⟨e,Nat.le_refl _⟩⟩
     ·have:=(g5 j (by omega) hb hc).1;exact⟨by grind,fun e2=>by grind⟩
    ·rename_i hnl;split at h
     ·rename_i heq;injection h with h;injection h with h2 h3;subst h2 h3;refine⟨by omega,h1.1,h1.2,heq.1.symm,fun j hj hb hc=>?_⟩;by_cases e:j=n
      ·subst e;exact⟨by rw[heq.1];exact Rat.le_refl,fun _=>(Decidable.em (basis.getD j 0=art)).imp id fun e=>⟨e,Nat.le_refl _⟩⟩
      ·obtain⟨k1,k2⟩:=g5 j (by omega) hb hc;refine⟨k1,fun e2=>?_⟩;rcases heq.2 with h|⟨h3,h4⟩
       ·exact .inl h
       ·rcases k2 e2 with h|⟨h5,h6⟩
        ·exact absurd h h3
        ·exact .inr ⟨h5,by omega⟩
     ·rename_i hne;injection h with h;injection h with h2 h3;subst h2 h3;refine⟨by omega,g2,g3,g4,fun j hj hb hc=>?_⟩;by_cases e:j=n
      ·subst e;refine⟨by grind,fun e2=>?_⟩;by_cases hba:basis.getD b0 0=art
       ·exact .inl hba
       ·refine .inr ⟨fun h=>hne ⟨e2.symm,.inl h⟩,?_⟩;rcases Nat.lt_or_ge (basis.getD j 0) (basis.getD b0 0)with h|h
        ·exact absurd ⟨e2.symm,.inr ⟨hba,h⟩⟩ hne
        ·exact h
      ·exact g5 j (by omega) hb hc
   ·rename_i h1;injection h with h;injection h with h2 h3;subst h2 h3;refine⟨by omega,g2,g3,g4,fun j hj hb hc=>?_⟩;by_cases e:j=n
    ·subst e;exact absurd ⟨hb,hc⟩ h1
    ·exact g5 j (by omega) hb hc
def YL(bd:Nat→Bool)(T:Tab)(g:Nat):Option Nat:=YB bd T.cols (goalAt T g).co T.cols.length
def YO(bd:Nat→Bool)(art:Nat)(T:Tab)(k:Nat):Option Nat:=(ZX bd art T.basis (fun i=>(rowAt T i).last) (fun i=>(rowAt T i).co k) T.rows.length).map (·.1)
def ZS(bd:Nat→Bool)(art g:Nat):Nat→Tab→Option (Tab×Option Nat)
 | 0,_=>none
 | f+1,T=>match YL bd T g with
  | none=>some (T,none)
  | some k=>match YO bd art T k with
   | none=>some (T,some k)
   | some i=>if T.cols.getD k 0≠art∧T.basis.getD i 0=art then some (pivot T i k,none)else ZS bd art g f (pivot T i k)
def Vn(bd:Nat→Bool)(T:Tab):Prop:=∀j,j<T.rows.length→bd (T.basis.getD j 0)=true→0≤(rowAt T j).last
structure Lv(bd:Nat→Bool)(art:Nat)(T:Tab)(i k:Nat):Prop where
 hi:i<T.rows.length
 b:bd (T.basis.getD i 0)=true
 neg:(rowAt T i).co k<0
 min:∀j,j<T.rows.length→bd (T.basis.getD j 0)=true→(rowAt T j).co k<0→(rowAt T i).last / -(rowAt T i).co k≤(rowAt T j).last / -(rowAt T j).co k ∧
  ((rowAt T i).last / -(rowAt T i).co k=(rowAt T j).last / -(rowAt T j).co k→T.basis.getD i 0=art∨(T.basis.getD j 0≠art∧T.basis.getD i 0≤T.basis.getD j 0))
theorem XR{bd:Nat→Bool}{art:Nat}{T:Tab}{k i:Nat}(h:YO bd art T k=some i):Lv bd art T i k:=by unfold YO at h;simp only[Option.map_eq_some_iff]at h;obtain⟨⟨b,l⟩,h1,rfl⟩:=h;obtain⟨g1,g2,g3,g4,g5⟩:=XU h1;exact⟨g1,g2,g3,fun j hj hb hc=>by have:=g5 j hj hb hc;rw[g4]at this;exact this⟩
theorem XQ{bd:Nat→Bool}{art:Nat}{T:Tab}{k:Nat}(h:YO bd art T k=none):∀j,j<T.rows.length→bd (T.basis.getD j 0)=true→0≤(rowAt T j).co k:=by unfold YO at h;simp only[Option.map_eq_none_iff]at h;intro j hj hb;have:=XS h j hj hb;exact Rat.not_lt.1 this
theorem WK{a b:Rat}:a / -b = -(a/b):=by have e:(-1:Rat)⁻¹ = -1:=Rat.inv_eq_of_mul_eq_one (by grind);rw[Rat.div_def,Rat.div_def,show -b = -1*b by grind,Rat.inv_mul_rev,e];grind
theorem qiW{a b:Rat}:-a/b = -(a/b):=by rw[Rat.div_def,Rat.div_def];grind
theorem Wv{T:Tab}{i k j:Nat}(hj:j<T.rows.length):(rowAt (pivot T i k) j).last=if j=i then -(rowAt T i).last/(rowAt T i).co k else(rowAt T j).last+(rowAt T j).co k*(-(rowAt T i).last/(rowAt T i).co k):=by
 rw[J8 hj];split
 ·rfl
 ·rfl
theorem Lv.up{bd:Nat→Bool}{art:Nat}{T:Tab}{i k:Nat}(h:Lv bd art T i k)(hf:Vn bd T):0≤-(rowAt T i).last/(rowAt T i).co k:=W0 (hf i h.hi h.b) h.neg
theorem qbB{a b t:Rat}(hb:b<0)(h:t≤a / -b):0≤a+b*t:=by have e:a / -b*-b=a:=Rat.div_mul_cancel (by grind);have h1:t*-b≤a / -b*-b:=Rat.mul_le_mul_of_nonneg_right h (by grind);grind
theorem qbC{a b t:Rat}(hb:b<0)(h:t<a / -b):0<a+b*t:=by have e:a / -b*-b=a:=Rat.div_mul_cancel (by grind);have h1:t*-b<a / -b*-b:=Rat.mul_lt_mul_of_pos_right h (by grind);grind
theorem Lv.feas{bd:Nat→Bool}{art:Nat}{T:Tab}{i k:Nat}(h:Lv bd art T i k)(hb:T.basis.length=T.rows.length)(hf:Vn bd T):Vn bd (pivot T i k):=by
 intro j hj hbj;rw[Q2]at hj;rw[Wv hj];have hu:=h.up hf;split
 ·exact hu
 ·rename_i hne;rw[Zf (by rw[hb];exact h.hi),if_neg hne]at hbj;have hl:=hf j hj hbj;by_cases hc:(rowAt T j).co k<0
  ·have:=(h.min j hj hbj hc).1;refine qbB hc ?_;rw[qiW,←WK];exact this
  ·have:=Rat.mul_nonneg (Rat.not_lt.1 hc) hu;grind
theorem Lv.art{bd:Nat→Bool}{art:Nat}{T:Tab}{i k r:Nat}(h:Lv bd art T i k)(hf:Vn bd T)(hr:r<T.rows.length)(hra:T.basis.getD r 0=art)(hba:bd art=true)(hp:0<(rowAt T r).last)(hi:T.basis.getD i 0≠art):0<(rowAt (pivot T i k) r).last:=by
 rw[Wv hr];have hne:r≠i:=fun e=>hi (by rw[←e];exact hra);rw[if_neg hne];have hu:=h.up hf;by_cases hc:(rowAt T r).co k<0
 ·obtain⟨h1,h2⟩:=h.min r hr (by rw[hra];exact hba) hc;refine qbC hc ?_;rw[qiW,←WK];rcases Rat.le_iff_lt_or_eq.1 h1 with h3|h3
  ·exact h3
  ·rcases h2 h3 with h4|h4
   ·exact absurd h4 hi
   ·exact absurd hra h4.1
 ·have:=Rat.mul_nonneg (Rat.not_lt.1 hc) hu;grind
def qqc(V m:Nat)(T:Tab):Prop:=(∀i,i<T.rows.length→T.basis.getD i 0<V)∧∀j,j<m→T.cols.getD j 0<V
theorem qqc.pivot{V m:Nat}{T:Tab}(h:qqc V m T)(hb:T.rows.length=T.basis.length)(hc:T.cols.length=m){i k:Nat}(hi:i<T.rows.length)(hk:k<m):qqc V m (LP.pivot T i k):=by
 refine⟨fun j hj=>?_,fun j hj=>?_⟩
 ·rw[Q2]at hj;rw[Zf (by omega)];split
  ·exact h.2 k hk
  ·exact h.1 j hj
 ·rw[ZC (by omega)];split
  ·exact h.1 i hi
  ·exact h.2 j hj
def enc(V:Nat):List Nat→Nat
 | []=>0
 | x::l=>x+V*enc V l
theorem qqS{V:Nat}:∀{l:List Nat},(∀x∈l,x<V)→enc V l<V^l.length:=by
 intro l;induction l with
 | nil=>intro _;simp[enc]
 | cons x l ih =>intro h;have h1:=ih fun y hy=>h y (by simp[hy]);have h2:=h x (by simp);simp only[enc,List.length_cons,Nat.pow_succ];have h3:V*(enc V l+1)≤V*V^l.length:=Nat.mul_le_mul_left V h1;rw[Nat.mul_comm (V^l.length) V];rw[Nat.mul_add]at h3;omega
theorem qol{V:Nat}:∀{l l':List Nat},l.length=l'.length→(∀x∈l,x<V)→(∀x∈l',x<V)→enc V l=enc V l'→l=l':=by
 intro l;induction l with
 | nil=>intro l' h _ _ _;cases l' with|nil=>rfl|cons=>cases h
 | cons x l ih =>
  intro l' h h1 h2 he;cases l' with
  | nil=>cases h
  | cons y l' =>
   simp only[enc]at he;have hx:=h1 x (by simp);have hy:=h2 y (by simp);have e1:(x+V*enc V l)%V=x:=by rw[Nat.add_mul_mod_self_left,Nat.mod_eq_of_lt hx]
   have e2:(y+V*enc V l')%V=y:=by rw[Nat.add_mul_mod_self_left,Nat.mod_eq_of_lt hy]
   have e3:(x+V*enc V l)/V=enc V l:=by rw[Nat.add_mul_div_left _ _ (by omega),Nat.div_eq_of_lt hx,Nat.zero_add]
   have e4:(y+V*enc V l')/V=enc V l':=by rw[Nat.add_mul_div_left _ _ (by omega),Nat.div_eq_of_lt hy,Nat.zero_add]
   rw[he]at e1 e3;rw[ih (by simpa using h) (fun z hz=>h1 z (by simp[hz])) (fun z hz=>h2 z (by simp[hz])) (e3.symm.trans e4),e1.symm.trans e2]
theorem pig:∀(n:Nat) (f:Nat→Nat),(∀i,i≤n→f i<n)→∃a b,a<b∧b≤n∧f a=f b:=by
 intro n;induction n with
 | zero=>intro f h;have:=h 0 (Nat.le_refl _);omega
 | succ n ih =>
  intro f h;by_cases hex:∃i,i≤n∧f i=f (n+1)
  ·obtain⟨i,hi,e⟩:=hex;exact⟨i,n+1,by omega,Nat.le_refl _,e⟩
  ·have hne:∀i,i≤n→f i≠f (n+1):=fun i hi e=>hex ⟨i,hi,e⟩;obtain⟨a,b,h1,h2,h3⟩:=ih (fun i=>if f i=n then f (n+1)else f i) fun i hi=>by have h4:=h i (by omega);have h5:=h (n+1) (by omega);have h6:=hne i hi;show(if f i=n then f (n+1)else f i)<n;split<;>omega
   refine⟨a,b,h1,by omega,?_⟩;have h4:=hne a (by omega);have h5:=hne b h2;split at h3<;>split at h3<;>omega
section
variable{F:Nat→Vec Rat}{F0:Vec Rat}{G:List (Vec Rat)}{m:Nat}
structure On(bd:Nat→Bool)(V:Nat)(F:Nat→Vec Rat)(F0:Vec Rat)(G:List (Vec Rat))(m:Nat)(T:Tab):Prop where
 good:Good F F0 G m T
 once:qmK m T
 vars:qqc V m T
theorem On.pivot{bd:Nat→Bool}{V:Nat}{T:Tab}(h:On bd V F F0 G m T){i k:Nat}(hi:i<T.rows.length)(hk:k<m)(ha:(rowAt T i).co k≠0):On bd V F F0 G m (LP.pivot T i k) :=
 ⟨h.good.pivot hi hk ha,h.once.pivot h.good.rl h.good.cl hi hk,h.vars.pivot h.good.rl h.good.cl hi hk⟩
theorem VA(T:Tab)(g:Nat):goalAt T g=T.goals.getD g ⟨0,[]⟩:=rfl
theorem Wd{bd:Nat→Bool}{art V g:Nat}{T:Tab}(h:On bd V F F0 G m T)(hf:Vn bd T){k i:Nat}(he:YL bd T g=some k)(hl:YO bd art T k=some i) :
  k<m∧i<T.rows.length∧bd (T.cols.getD k 0)=true∧0<(goalAt T g).co k∧Lv bd art T i k∧On bd V F F0 G m (pivot T i k)∧Vn bd (pivot T i k)∧(T.basis.getD i 0≠art→Step (fun v=>bd v=true) (fun v=>bd v=true) m g T i k):=by
 unfold YL at he;obtain⟨e1,e2,e3,e4⟩:=ZJ he;rw[h.good.cl]at e1 e4;have hlv:=XR hl;refine⟨e1,hlv.hi,e2,e3,hlv,h.pivot hlv.hi e1 (Rat.ne_of_lt hlv.neg),hlv.feas h.good.rl.symm hf,fun hne=>⟨hlv.hi,e1,e2,e3,e4,hlv.b,hlv.neg,fun j hj hb hc=>?_,hf⟩⟩;obtain⟨h1,h2⟩:=hlv.min j hj hb hc;exact⟨h1,fun h3=>by
  rcases h2 h3 with h4|h4
  ·exact absurd h4 hne
  ·exact h4.2⟩
theorem qhU{bd:Nat→Bool}{art V g:Nat}(hg:g<G.length):∀(f:Nat) (T:Tab),On bd V F F0 G m T→Vn bd T→ZS bd art g f T=none →
  ∃E is ks,E 0=T∧Run (fun v=>bd v=true) (fun v=>bd v=true) F F0 G m g E is ks 0 f∧∀t,t≤f→(E t).rows.length=T.rows.length∧qqc V m (E t):=by
 intro f;induction f with
 | zero =>intro T h hf _;exact⟨fun _=>T,fun _=>0,fun _=>0,rfl,⟨fun t _ _=>h.good,fun t _ _=>h.once,fun t _ h=>by omega,fun t _ h=>by omega,hg,fun v h=>h⟩,fun t _=>⟨rfl,h.vars⟩⟩
 | succ f ih =>
  intro T h hf hc;simp only[ZS]at hc;split at hc
  ·cases hc
  ·rename_i k he;split at hc
   ·cases hc
   ·rename_i i hl;obtain⟨c1,c2,c3,c4,c5,c6,c7,c8⟩:=Wd (g:=g) (art:=art) h hf he hl;split at hc
    ·cases hc
    ·rename_i hs;have hne:T.basis.getD i 0≠art:=fun e=>hs ⟨fun e2=>h.once.x i k c2 c1 (e.trans e2.symm),e⟩;obtain⟨E,is,ks,e0,hr,hv⟩:=ih (pivot T i k) c6 c7 hc;refine⟨fun t=>match t with|0=>T|t+1=>E t,fun t=>match t with|0=>i|t+1=>is t,fun t=>match t with|0=>k|t+1=>ks t,rfl,⟨fun t h1 h2=>?_,fun t h1 h2=>?_,fun t h1 h2=>?_,fun t h1 h2=>?_,hg,fun v h=>h⟩,fun t ht=>?_⟩
     ·cases t with
      | zero=>exact h.good
      | succ t=>exact hr.good t (by omega) (by omega)
     ·cases t with
      | zero=>exact h.once
      | succ t=>exact hr.once t (by omega) (by omega)
     ·cases t with
      | zero=>exact c8 hne
      | succ t=>exact hr.step t (by omega) (by omega)
     ·cases t with
      | zero=>exact e0
      | succ t=>exact hr.next t (by omega) (by omega)
     ·cases t with
      | zero=>exact⟨rfl,h.vars⟩
      | succ t=>have:=hv t (by omega);rw[Q2]at this;exact this
theorem qm9{l:List Nat}{n V:Nat}(hl:l.length=n)(h:∀j,j<n→l.getD j 0<V):∀x∈l,x<V:=by intro x hx;obtain⟨j,hj,e⟩:=List.mem_iff_getElem.1 hx;have:=h j (by omega);rw[List.getD_eq_getElem?_getD,List.getElem?_eq_getElem hj,Option.getD_some,e]at this;exact this
theorem qay{bd:Nat→Bool}{art V g:Nat}(hg:g<G.length){T:Tab}(h:On bd V F F0 G m T)(hf:Vn bd T):∃f r,ZS bd art g f T=some r:=by
 cases hc:ZS bd art g (V^(m+T.rows.length)) T with
 | some r=>exact⟨_,r,hc⟩
 | none =>
  exfalso;obtain⟨E,is,ks,e0,hr,hv⟩:=qhU hg _ T h hf hc;have hlen:∀t,t≤V^(m+T.rows.length)→(E t).cols.length=m∧(E t).basis.length=T.rows.length:=fun t ht=>by have:=hr.good t (by omega) ht;exact⟨this.cl,by rw[←this.rl];exact(hv t ht).1⟩
  have hmem:∀t,t≤V^(m+T.rows.length)→∀x∈(E t).cols++(E t).basis,x<V:=fun t ht x hx=>by
   obtain⟨h1,h2⟩:=hlen t ht;obtain⟨h3,h4⟩:=hv t ht;rcases List.mem_append.1 hx with hx|hx
   ·exact qm9 h1 h4.2 x hx
   ·exact qm9 h2 (fun j hj=>h4.1 j (by rw[h3];exact hj)) x hx
  obtain⟨a,b,hab,hb,he⟩:=pig (V^(m+T.rows.length)) (fun t=>enc V ((E t).cols++(E t).basis)) fun t ht=>by have:=qqS (hmem t ht);rwa[List.length_append,(hlen t ht).1,(hlen t ht).2]at this
  have hl:((E a).cols++(E a).basis).length=((E b).cols++(E b).basis).length:=by rw[List.length_append,List.length_append,(hlen a (by omega)).1,(hlen a (by omega)).2,(hlen b hb).1,(hlen b hb).2]
  have heq:=qol hl (hmem a (by omega)) (hmem b hb) he;obtain⟨q1,q2⟩:=List.append_inj heq (by rw[(hlen a (by omega)).1,(hlen b hb).1]);have hr2:Run (fun v=>bd v=true) (fun v=>bd v=true) F F0 G m g E is ks a b:=⟨fun t h1 h2=>hr.good t (by omega) (by omega),fun t h1 h2=>hr.once t (by omega) (by omega),fun t h1 h2=>hr.step t (by omega) (by omega),fun t h1 h2=>hr.next t (by omega) (by omega),hr.hg,hr.el⟩;exact hr2.qlK hab ⟨q2.symm,q1.symm⟩
end
def Prg.fm(P:Prg)(v:Nat):Vec Rat:=fun c=>if v<P.n then(if c=v then 1 else 0)else if v<P.n+P.m then(if c<P.n then P.a (v-P.n) c else if c=P.n then P.b (v-P.n)else 0)else 0
def Prg.one(P:Prg):Vec Rat:=fun c=>if c=P.n then 1 else 0
def Prg.gm(P:Prg):Vec Rat:=fun c=>if c<P.n then P.c c else if c=P.n then P.c0 else 0
def Prg.fr(P:Prg)(v:Nat):Bool:=decide (v<P.n)
def Prg.fx(P:Prg)(v:Nat):Bool:=decide (P.n≤v)&&(decide (v<P.n+P.m)&&P.eq (v-P.n))
def Prg.bd(P:Prg)(v:Nat):Bool:=decide (P.n≤v)&&!P.fx v
theorem Prg.kinds(P:Prg)(v:Nat):P.fr v=true∨P.fx v=true∨P.bd v=true:=by
 unfold Prg.fr Prg.bd;by_cases h:v<P.n
 ·exact .inl (by simp[h])
 ·cases h2:P.fx v
  ·exact .inr (.inr (by simp;omega))
  ·exact .inr (.inl rfl)
theorem Prg.qf4{P:Prg}{v:Nat}(h:P.bd v=true):P.fr v=false:=by unfold Prg.bd at h;unfold Prg.fr;simp at h⊢;omega
theorem Prg.qhH{P:Prg}{v:Nat}(h:P.bd v=true):P.fx v=false:=by unfold Prg.bd at h;simp at h;exact h.2
theorem Prg.qln{P:Prg}{v:Nat}(h:P.fr v=true):P.fx v=false:=by unfold Prg.fr at h;unfold Prg.fx;simp at h⊢;omega
theorem Prg.qau(P:Prg):P.bd (P.n+P.m)=true:=by unfold Prg.bd Prg.fx;simp
theorem Prg.qin(P:Prg)(v c:Nat)(h:P.n<c):P.fm v c=0:=by
 unfold Prg.fm;split
 ·rw[if_neg (by omega)]
 ·split
  ·rw[if_neg (by omega),if_neg (by omega)]
  ·rfl
theorem Prg.qix(P:Prg)(c:Nat)(h:P.n<c):P.gm c=0:=by unfold Prg.gm;rw[if_neg (by omega),if_neg (by omega)]
theorem Prg.Jj(P:Prg){i:Nat}(hi:i<P.m)(c:Nat):P.fm (P.n+i) c=if c<P.n then P.a i c else if c=P.n then P.b i else 0:=by unfold Prg.fm;rw[if_neg (by omega),if_pos (by omega),Nat.add_sub_cancel_left]
theorem qlj{A E:Nat→Vec Rat}{m:Nat}{f:Vec Rat}{t:Nat→Rat}(hd:det (m+1) A≠0)(h:Lin A m t f)(τ:Nat→Nat→Rat)(hτ:∀c,c<m+1→Lin A m (τ c) (E c))(hE:∀x,f x=sm (m+1) fun c=>f c*E c x){p:Nat}(hp:p<m+1) :
  t p=sm (m+1) fun c=>f c*τ c p:=by
 refine qbw (s:=fun j=>sm (m+1) fun c=>f c*τ c j) hd h (fun x=>?_) hp;rw[hE x];have e1:sm (m+1) (fun c=>f c*E c x)=sm (m+1) fun c=>sm (m+1) fun j=>f c*τ c j*A j x:=by refine Qy fun c hc=>?_;rw[hτ c hc x,←Ja];exact Qy fun j _=>by grind
 rw[e1,qbT];refine Qy fun j _=>?_;rw[Rat.mul_comm,←Ja];exact Qy fun c _=>by grind
def Val(m:Nat)(T:Tab)(v p:Nat)(x:Rat):Prop:=(∃i,i<T.rows.length∧T.basis.getD i 0=v∧x=tt m (rowAt T i) p)∨∃j,j<m∧T.cols.getD j 0=v∧x=if p=j then 1 else 0
def All(V m:Nat)(T:Tab):Prop:=∀v,v<V→Bas T v∨NB m T v
theorem All.pivot{V m:Nat}{T:Tab}(h:All V m T)(hb:T.rows.length=T.basis.length)(hc:T.cols.length=m){i k:Nat}(hi:i<T.rows.length)(hk:k<m):All V m (LP.pivot T i k):=by
 intro v hv;rcases h v hv with⟨j,hj,e⟩|⟨j,hj,e⟩
 ·by_cases hji:j=i
  ·refine .inr ⟨k,hk,?_⟩;rw[ZC (by omega),if_pos rfl,←hji];exact e
  ·exact .inl ⟨j,by rw[Q2];exact hj,by rw[Zf (by omega),if_neg hji];exact e⟩
 ·by_cases hjk:j=k
  ·refine .inl ⟨i,by rw[Q2];exact hi,?_⟩;rw[Zf (by omega),if_pos rfl,←hjk];exact e
  ·exact .inr ⟨j,hj,by rw[ZC (by omega),if_neg hjk];exact e⟩
theorem All.val{V m:Nat}{T:Tab}(h:All V m T)(p:Nat){v:Nat}(hv:v<V):∃x,Val m T v p x:=by
 rcases h v hv with⟨j,hj,e⟩|⟨j,hj,e⟩
 ·exact⟨_,.inl ⟨j,hj,e,rfl⟩⟩
 ·exact⟨_,.inr ⟨j,hj,e,rfl⟩⟩
section
variable{F:Nat→Vec Rat}{F0:Vec Rat}{G:List (Vec Rat)}{m:Nat}{T:Tab}
theorem Good.rep(h:Good F F0 G m T){v:Nat}(hv:Bas T v∨NB m T v):∃t,Lin (Yx T.cols F m F0) m t (F v)∧∀p,p<m+1→∀x,qmK m T→Val m T v p x→t p=x:=by
 rcases hv with⟨i,hi,e⟩|⟨j,hj,e⟩
 ·refine⟨tt m (rowAt T i),by have:=h.row i hi;rw[e]at this;exact this,fun p hp x ho hx=>?_⟩;rcases hx with⟨i',hi',e',rfl⟩|⟨j,hj,e',rfl⟩
  ·rw[ho.b i i' hi hi' (e.trans e'.symm)]
  ·exact absurd (e.trans e'.symm) (ho.x i j hi hj)
 ·refine⟨fun p=>if p=j then 1 else 0,fun c=>?_,fun p hp x ho hx=>?_⟩
  ·rw[Jb (j:=j) (by omega) fun i _ hne=>by simp[hne]];have:Yx T.cols F m F0 j=F v:=by simp only[Yx,hj,if_true,e]
   simp only[this,if_true];grind
  ·rcases hx with⟨i',hi',e',rfl⟩|⟨j',hj',e',rfl⟩
   ·exact absurd (e'.trans e.symm) (ho.x i' j hi' hj)
   ·rw[ho.c j j' hj hj' (e.trans e'.symm)]
end
section
variable{P:Prg}{T:Tab}
structure Tbl(P:Prg)(T:Tab):Prop where
 on:On P.bd (P.n+P.m) P.fm P.one [P.gm] P.n T
 all:All (P.n+P.m) P.n T
theorem Tbl.pivot(h:Tbl P T){i k:Nat}(hi:i<T.rows.length)(hk:k<P.n)(ha:(rowAt T i).co k≠0):Tbl P (LP.pivot T i k) :=
 ⟨h.on.pivot hi hk ha,h.all.pivot h.on.good.rl h.on.good.cl hi hk⟩
theorem qoq(P:Prg)(f:Vec Rat)(hf:∀c,P.n<c→f c=0)(x:Nat):f x=sm (P.n+1) fun c=>f c*(if c<P.n then P.fm c else P.one) x:=by
 by_cases hx:x<P.n+1
 ·rw[Jb (j:=x) hx fun i hi hne=>?_]
  ·split
   ·rename_i h;simp only[Prg.fm,h,if_true];grind
   ·rename_i h;have:x=P.n:=by omega
    simp only[Prg.one,this,if_true];grind
  ·split
   ·rename_i h;simp only[Prg.fm,h,if_true,if_neg (Ne.symm hne)];grind
   ·rename_i h;simp only[Prg.one];rw[if_neg (by omega)];grind
 ·rw[hf x (by omega),Jc fun c hc=>?_];split
  ·rw[P.qin _ _ (by omega)];grind
  ·simp only[Prg.one];rw[if_neg (by omega)];grind
theorem Tbl.eval(h:Tbl P T){p:Nat}(hp:p<P.n+1){u:Nat→Rat}(hu:∀c,c<P.n→Val P.n T c p (u c)){f:Vec Rat}{t:Nat→Rat}(hl:Lin (Yx T.cols P.fm P.n P.one) P.n t f)(hf:∀c,P.n<c→f c=0) :
  t p=sm P.n (fun c=>f c*u c)+f P.n*(if p=P.n then 1 else 0):=by
 have hrep:∀c,c<P.n→∃τ,Lin (Yx T.cols P.fm P.n P.one) P.n τ (P.fm c)∧τ p=u c:=fun c hc=>by obtain⟨τ,h1,h2⟩:=h.on.good.rep (h.all c (by omega));exact⟨τ,h1,h2 p hp _ h.on.once (hu c hc)⟩
 have h0:Lin (Yx T.cols P.fm P.n P.one) P.n (fun j=>if j=P.n then 1 else 0) P.one:=fun c=>by rw[Jb (j:=P.n) (by omega) fun i _ hne=>by simp[hne]];simp only[Yx,Nat.lt_irrefl,if_false,if_true];grind
 have:=qlj h.on.good.dt hl (fun c=>if hc:c<P.n then Classical.choose (hrep c hc)else fun j=>if j=P.n then 1 else 0) (E:=fun c=>if c<P.n then P.fm c else P.one) (fun c hc=>by
  by_cases hcn:c<P.n
  ·simp only[hcn,dif_pos,if_true];exact(Classical.choose_spec (hrep c hcn)).1
  ·simp only[hcn,dif_neg,if_false,not_false_eq_true];exact h0) (qoq P f hf) hp
 rw[this];simp only[sm];congr 1
 ·refine Qy fun c hc=>?_;simp only[hc,dif_pos];rw[(Classical.choose_spec (hrep c hc)).2]
 ·simp only[Nat.lt_irrefl,dif_neg,not_false_eq_true]
theorem Tbl.slack(h:Tbl P T){p:Nat}(hp:p<P.n+1){u:Nat→Rat}(hu:∀c,c<P.n→Val P.n T c p (u c)){i:Nat}(hi:i<P.m){x:Rat}(hx:Val P.n T (P.n+i) p x) :
  P.lin i u+P.b i*(if p=P.n then 1 else 0)=x:=by
 obtain⟨t,h1,h2⟩:=h.on.good.rep (h.all (P.n+i) (by omega));rw[←h2 p hp x h.on.once hx,h.eval hp hu h1 fun c hc=>P.qin _ _ hc,P.Jj hi P.n,if_neg (Nat.lt_irrefl _),if_pos (rfl:P.n=P.n)];congr 1;unfold Prg.lin;exact Qy fun c hc=>by rw[P.Jj hi,if_pos hc]
theorem Tbl.goal(h:Tbl P T){p:Nat}(hp:p<P.n+1){u:Nat→Rat}(hu:∀c,c<P.n→Val P.n T c p (u c)):sm P.n (fun c=>P.c c*u c)+P.c0*(if p=P.n then 1 else 0)=tt P.n (goalAt T 0) p:=by
 have h1:=h.on.good.goal 0 (by simp);have h2:=h.eval hp hu (t:=tt P.n (goalAt T 0)) (f:=P.gm) h1 fun c hc=>P.qix c hc;rw[h2];congr 1
 ·exact Qy fun c hc=>by simp only[Prg.gm,hc,if_true]
 ·simp only[Prg.gm,Nat.lt_irrefl,if_false,if_true]
def ZR(P:Prg)(m b:Nat)(T:Tab):Prop:=∀i,i<b→i<T.rows.length→P.fx (T.basis.getD i 0)=true→(rowAt T i).last=0∧∀k,k<m→P.fx (T.cols.getD k 0)=false→(rowAt T i).co k=0
def Yq(P:Prg)(m b:Nat)(T:Tab):Prop:=∀i,i<b→i<T.rows.length→P.bd (T.basis.getD i 0)=true→∀k,k<m→P.fr (T.cols.getD k 0)=true→(rowAt T i).co k=0
def qb1(P:Prg)(m g:Nat)(T:Tab):Prop:=∀k,k<m→P.fr (T.cols.getD k 0)=true→(goalAt T g).co k=0
theorem Tbl.has(h:Tbl P T)(p:Nat):∃u:Nat→Rat,∀c,c<P.n→Val P.n T c p (u c) :=
 ⟨fun c=>if hc:c<P.n then Classical.choose (h.all.val (v:=c) p (by omega))else 0,fun c hc=>by simp only[hc,dif_pos];exact Classical.choose_spec (h.all.val (v:=c) p (by omega))⟩
theorem Tbl.feas(h:Tbl P T)(hf:Vn P.bd T)(hd:ZR P P.n T.rows.length T){u:Nat→Rat}(hu:∀c,c<P.n→Val P.n T c P.n (u c)):P.Vn u:=by
 intro i hi;obtain⟨x,hx⟩:=h.all.val (v:=P.n+i) P.n (by omega);have e:=h.slack (p:=P.n) (by omega) hu hi hx;rw[if_pos rfl]at e;have e2:P.lin i u+P.b i=x:=by grind
 rw[e2];have hfx:P.fx (P.n+i)=P.eq i:=by unfold Prg.fx;simp[hi]
 rcases hx with⟨j,hj,ej,rfl⟩|⟨j,hj,ej,rfl⟩
 ·simp only[tt,Nat.lt_irrefl,if_false];by_cases hq:P.eq i=true
  ·have:=(hd j hj hj (by rw[ej,hfx];exact hq)).1;rw[this];exact⟨Rat.le_refl,fun _=>rfl⟩
  ·refine⟨hf j hj ?_,fun h=>absurd h hq⟩;rw[ej];unfold Prg.bd;rw[hfx];simp[hq]
 ·rw[if_neg (by omega)];exact⟨Rat.le_refl,fun _=>rfl⟩
theorem Tbl.ray(h:Tbl P T)(hd:ZR P P.n T.rows.length T){k:Nat}(hk:k<P.n)(hkx:P.fx (T.cols.getD k 0)=false)(hb:∀i,i<T.rows.length→P.bd (T.basis.getD i 0)=true→0≤(rowAt T i).co k){u:Nat→Rat}(hu:∀c,c<P.n→Val P.n T c k (u c)):P.Rec u:=by
 intro i hi;obtain⟨x,hx⟩:=h.all.val (v:=P.n+i) k (by omega);have e:=h.slack (p:=k) (by omega) hu hi hx;rw[if_neg (by omega)]at e;have e2:P.lin i u=x:=by grind
 rw[e2];have hfx:P.fx (P.n+i)=P.eq i:=by unfold Prg.fx;simp[hi]
 rcases hx with⟨j,hj,ej,rfl⟩|⟨j,hj,ej,rfl⟩
 ·simp only[tt,hk,if_true];by_cases hq:P.eq i=true
  ·have:=(hd j hj hj (by rw[ej,hfx];exact hq)).2 k hk hkx;rw[this];exact⟨Rat.le_refl,fun _=>rfl⟩
  ·refine⟨hb j hj ?_,fun h=>absurd h hq⟩;rw[ej];unfold Prg.bd;rw[hfx];simp[hq]
 ·split
  ·rename_i e3;subst e3;refine⟨by grind,fun hq=>?_⟩;rw[ej,hfx,hq]at hkx;cases hkx
  ·exact⟨Rat.le_refl,fun _=>rfl⟩
theorem Prg.qoH(P:Prg)(i:Nat)(u:Nat→Rat):P.lin i (fun c=>-u c) = -P.lin i u:=by unfold Prg.lin;rw[←qaT];exact Qy fun c _=>by grind
theorem Tbl.unb(h:Tbl P T)(hf:Vn P.bd T)(hd:ZR P P.n T.rows.length T){k:Nat}(hk:k<P.n)(hkx:P.fx (T.cols.getD k 0)=false)(hb:∀i,i<T.rows.length→P.bd (T.basis.getD i 0)=true→0≤(rowAt T i).co k)(hg:0<(goalAt T 0).co k):P.Unb:=by obtain⟨x,hx⟩:=h.has P.n;obtain⟨u,hu⟩:=h.has k;refine⟨⟨x,h.feas hf hd hx⟩,u,h.ray hd hk hkx hb hu,?_⟩;have:=h.goal (p:=k) (by omega) hu;rw[if_neg (by omega)]at this;simp only[tt,hk,if_true]at this;grind
theorem Tbl.quP(h:Tbl P T)(hf:Vn P.bd T)(hd:ZR P P.n T.rows.length T)(hz:Yq P P.n T.rows.length T){k:Nat}(hk:k<P.n)(hkf:P.fr (T.cols.getD k 0)=true)(hg:(goalAt T 0).co k≠0):P.Unb:=by
 obtain⟨x,hx⟩:=h.has P.n;obtain⟨u,hu⟩:=h.has k;have hr:=h.ray hd hk (P.qln hkf) (fun i hi hb=>by rw[hz i hi hi hb k hk hkf];exact Rat.le_refl) hu;have hgo:=h.goal (p:=k) (by omega) hu;rw[if_neg (by omega)]at hgo;simp only[tt,hk,if_true]at hgo;by_cases hp:0<(goalAt T 0).co k
 ·exact⟨⟨x,h.feas hf hd hx⟩,u,hr,by grind⟩
 ·have hlin:∀i,i<P.m→P.lin i u=0:=fun i hi=>by
   obtain⟨y,hy⟩:=h.all.val (v:=P.n+i) k (by omega);have e:=h.slack (p:=k) (by omega) hu hi hy;rw[if_neg (by omega)]at e;have hfx:P.fx (P.n+i)=P.eq i:=by unfold Prg.fx;simp[hi]
   have hy0:y=0:=by
    rcases hy with⟨j,hj,ej,rfl⟩|⟨j,hj,ej,rfl⟩
    ·simp only[tt,hk,if_true];by_cases hq:P.eq i=true
     ·exact(hd j hj hj (by rw[ej,hfx];exact hq)).2 k hk (P.qln hkf)
     ·exact hz j hj hj (by rw[ej];unfold Prg.bd;rw[hfx];simp[hq]) k hk hkf
    ·split
     ·rename_i e3;subst e3;rw[ej]at hkf;unfold Prg.fr at hkf;simp at hkf;omega
     ·rfl
   grind
  refine⟨⟨x,h.feas hf hd hx⟩,fun c=>-u c,fun i hi=>by rw[P.qoH,hlin i hi];exact⟨by grind,fun _=>by grind⟩,?_⟩;have e:sm P.n (fun j=>P.c j*-u j) = -sm P.n (fun j=>P.c j*u j):=by rw[←qaT];exact Qy fun c _=>by grind
  rw[e];have:(goalAt T 0).co k<0:=by
   rcases Rat.le_iff_lt_or_eq.1 (Rat.not_lt.1 hp)with h|h
   ·exact h
   ·exact absurd h hg
  grind
def yOf(P:Prg)(m:Nat)(T:Tab)(t:Nat→Rat)(i:Nat):Rat:=sm m fun j=>if T.cols.getD j 0=P.n+i then t j else 0
theorem qkb(P:Prg){m:Nat}{T:Tab}(t h:Nat→Rat)(hm:∀j,j<m→P.fr (T.cols.getD j 0)=true→t j=0)(hv:∀j,j<m→T.cols.getD j 0<P.n+P.m) :
  sm P.m (fun i=>yOf P m T t i*h i)=sm m fun j=>t j*(if P.n≤T.cols.getD j 0 then h (T.cols.getD j 0-P.n)else 0):=by
 have e1:sm P.m (fun i=>yOf P m T t i*h i)=sm P.m fun i=>sm m fun j=>(if T.cols.getD j 0=P.n+i then t j else 0)*h i:=by refine Qy fun i _=>?_;unfold yOf;rw[Rat.mul_comm,←Ja];exact Qy fun j _=>by grind
 rw[e1,qbT];refine Qy fun j hj=>?_;by_cases hn:P.n≤T.cols.getD j 0
 ·rw[if_pos hn,Jb (j:=T.cols.getD j 0-P.n) (by have:=hv j hj;omega) fun i _ hne=>by rw[if_neg (by omega)];grind,if_pos (by omega)]
 ·rw[if_neg hn,hm j hj (decide_eq_true (by omega)),Jc fun i _=>by split<;>grind];grind
theorem qka(P:Prg){m:Nat}{T:Tab}(t:Nat→Rat)(ho:∀i j,i<m→j<m→T.cols.getD i 0=T.cols.getD j 0→i=j){i:Nat}:(yOf P m T t i=0∧∀j,j<m→T.cols.getD j 0≠P.n+i)∨∃j,j<m∧T.cols.getD j 0=P.n+i∧yOf P m T t i=t j:=by
 by_cases h:∃j,j<m∧T.cols.getD j 0=P.n+i
 ·obtain⟨j,hj,e⟩:=h;refine .inr ⟨j,hj,e,?_⟩;unfold yOf;rw[Jb (j:=j) hj fun l hl hne=>if_neg fun e2=>hne (ho l j hl hj (e2.trans e.symm)),if_pos e]
 ·refine .inl ⟨Jc fun j hj=>if_neg fun e=>h ⟨j,hj,e⟩,fun j hj e=>h ⟨j,hj,e⟩⟩
theorem Vt(P:Prg){m:Nat}{T:Tab}(t:Nat→Rat)(hm:∀j,j<m→P.fr (T.cols.getD j 0)=true→t j=0)(hv:∀j,j<m→T.cols.getD j 0<P.n+P.m) :
  (∀c,c<P.n→sm m (fun j=>t j*P.fm (T.cols.getD j 0) c)=P.comb (yOf P m T t) c)∧sm m (fun j=>t j*P.fm (T.cols.getD j 0) P.n)=P.cst (yOf P m T t):=by
 refine⟨fun c hc=>?_,?_⟩
 ·unfold Prg.comb;rw[qkb P t (fun i=>P.a i c) hm hv];refine Qy fun j hj=>?_;by_cases hn:P.n≤T.cols.getD j 0
  ·rw[if_pos hn];have:=P.Jj (i:=T.cols.getD j 0-P.n) (by have:=hv j hj;omega) c;rw[show P.n+(T.cols.getD j 0-P.n)=T.cols.getD j 0 by omega]at this;rw[this,if_pos hc]
  ·rw[if_neg hn,hm j hj (decide_eq_true (by omega))];grind
 ·unfold Prg.cst;rw[qkb P t (fun i=>P.b i) hm hv];refine Qy fun j hj=>?_;by_cases hn:P.n≤T.cols.getD j 0
  ·rw[if_pos hn];have:=P.Jj (i:=T.cols.getD j 0-P.n) (by have:=hv j hj;omega) P.n;rw[show P.n+(T.cols.getD j 0-P.n)=T.cols.getD j 0 by omega]at this;rw[this,if_neg (by omega),if_pos rfl]
  ·rw[if_neg hn,hm j hj (decide_eq_true (by omega))];grind
theorem qm5{y:Nat→Rat}{s:Rat}(hs:s≠0)(h1:∀j,j<P.n→P.comb y j=0)(h2:P.cst y=s)(hp:∀i,i<P.m→P.eq i=false→0≤-y i/s):P.Inf:=by
 refine⟨fun i=>-y i/s,hp,fun j hj=>?_,?_⟩
 ·unfold Prg.comb at h1⊢;have:sm P.m (fun i=>-y i/s*P.a i j)=(-1/s)*sm P.m (fun i=>y i*P.a i j):=by rw[←Ja];exact Qy fun i _=>by rw[Rat.div_def,Rat.div_def];grind
  rw[this,h1 j hj];grind
 ·unfold Prg.cst at h2⊢;have:sm P.m (fun i=>-y i/s*P.b i)=(-1/s)*sm P.m (fun i=>y i*P.b i):=by rw[←Ja];exact Qy fun i _=>by rw[Rat.div_def,Rat.div_def];grind
  rw[this,h2];have:=Rat.mul_inv_cancel s hs;rw[Rat.div_def];grind
end
theorem VX(n:Nat)(f g:Nat→Rat):sm n (fun i=>-f i*g i) = -sm n (fun i=>f i*g i):=by rw[←qaT];exact Qy fun i _=>by grind
section
variable{P:Prg}{T:Tab}
theorem Tbl.opt(h:Tbl P T)(hf:Vn P.bd T)(hd:ZR P P.n T.rows.length T)(hz:qb1 P P.n 0 T)(hb:∀k,k<P.n→P.bd (T.cols.getD k 0)=true→(goalAt T 0).co k≤0):P.Opt (goalAt T 0).last:=by
 obtain⟨x,hx⟩:=h.has P.n;refine⟨⟨x,h.feas hf hd hx,?_⟩,fun i=>-yOf P P.n T (goalAt T 0).co i,fun i hi he=>?_,fun c hc=>?_,?_⟩
 ·have:=h.goal (p:=P.n) (by omega) hx;rw[if_pos rfl]at this;simp only[tt,Nat.lt_irrefl,if_false]at this;unfold Prg.obj;grind
 ·show 0≤-yOf P P.n T (goalAt T 0).co i;rcases qka P (T:=T) (m:=P.n) (goalAt T 0).co h.on.once.c (i:=i)with⟨e,_⟩|⟨j,hj,ej,e⟩
  ·rw[e];grind
  ·rw[e];have:=hb j hj (by rw[ej];unfold Prg.bd Prg.fx;simp[he]);grind
 ·have hs:=h.on.good.goal 0 (by simp) c;have hc1:=(Vt P (m:=P.n) (T:=T) (goalAt T 0).co hz h.on.vars.2).1 c hc;simp only[sm,tt,Nat.lt_irrefl,if_false,Yx,List.getD_cons_zero]at hs;rw[show P.one c=0 from if_neg (by omega),show P.gm c=P.c c from if_pos hc]at hs;have e:sm P.n (fun j=>(if j<P.n then(T.goals.getD 0 ⟨0,[]⟩).co j else(T.goals.getD 0 ⟨0,[]⟩).last)*(if j<P.n then P.fm (T.cols.getD j 0)else P.one) c)=sm P.n fun j=>(goalAt T 0).co j*P.fm (T.cols.getD j 0) c:=Qy fun j hj=>by simp only[hj,if_true];rfl
  rw[e,hc1]at hs;unfold Prg.comb at hs⊢;rw[VX];grind
 ·have hs:=h.on.good.goal 0 (by simp) P.n;have hc1:=(Vt P (m:=P.n) (T:=T) (goalAt T 0).co hz h.on.vars.2).2;simp only[sm,tt,Nat.lt_irrefl,if_false,Yx,List.getD_cons_zero]at hs;rw[show P.one P.n=1 from if_pos rfl,show P.gm P.n=P.c0 from(if_neg (Nat.lt_irrefl _)).trans (if_pos rfl)]at hs;have e:sm P.n (fun j=>(if j<P.n then(T.goals.getD 0 ⟨0,[]⟩).co j else(T.goals.getD 0 ⟨0,[]⟩).last)*(if j<P.n then P.fm (T.cols.getD j 0)else P.one) P.n)=sm P.n fun j=>(goalAt T 0).co j*P.fm (T.cols.getD j 0) P.n:=Qy fun j hj=>by simp only[hj,if_true];rfl
  rw[e,hc1]at hs;unfold Prg.cst at hs⊢;rw[VX];rw[←VA]at hs;grind
theorem Tbl.inf(h:Tbl P T){i:Nat}(hi:i<T.rows.length)(hx:P.fx (T.basis.getD i 0)=true)(hc:∀k,k<P.n→P.fx (T.cols.getD k 0)=false→(rowAt T i).co k=0)(hl:(rowAt T i).last≠0):P.Inf:=by
 obtain⟨i0,hi0,eb,he⟩:∃i0,i0<P.m∧T.basis.getD i 0=P.n+i0∧P.eq i0=true:=by unfold Prg.fx at hx;simp only[Bool.and_eq_true,decide_eq_true_eq]at hx;exact⟨T.basis.getD i 0-P.n,by omega,by omega,hx.2.2⟩
 have hm:∀j,j<P.n→P.fr (T.cols.getD j 0)=true→(rowAt T i).co j=0:=fun j hj hf=>hc j hj (P.qln hf);have hspan:=h.on.good.row i hi;have hcc:=Vt P (m:=P.n) (T:=T) (rowAt T i).co hm h.on.vars.2;have e:∀c,sm P.n (fun j=>(if j<P.n then(rowAt T i).co j else(rowAt T i).last)*(if j<P.n then P.fm (T.cols.getD j 0)else P.one) c)=sm P.n fun j=>(rowAt T i).co j*P.fm (T.cols.getD j 0) c:=fun c=>Qy fun j hj=>by simp only[hj,if_true]
 have hsum:∀g:Nat→Rat,sm P.m (fun q=>((if q=i0 then 1 else 0)-yOf P P.n T (rowAt T i).co q)*g q)=g i0-sm P.m fun q=>yOf P P.n T (rowAt T i).co q*g q:=fun g=>by
  have e1:sm P.m (fun q=>((if q=i0 then(1:Rat)else 0)-yOf P P.n T (rowAt T i).co q)*g q)=sm P.m fun q=>(if q=i0 then 1 else 0)*g q+-yOf P P.n T (rowAt T i).co q*g q:=Qy fun q _=>by grind
  rw[e1,VW,VX,Jb (j:=i0) hi0 fun q _ hne=>by rw[if_neg hne];grind,if_pos rfl];grind
 refine qm5 (y:=fun q=>(if q=i0 then 1 else 0)-yOf P P.n T (rowAt T i).co q) hl (fun c hcn=>?_) ?_ fun q hq hqe=>?_
 ·have hs:=hspan c;simp only[sm,tt,Nat.lt_irrefl,if_false,Yx]at hs;rw[e c,hcc.1 c hcn,eb,P.Jj hi0,if_pos hcn,show P.one c=0 from if_neg (by omega)]at hs;unfold Prg.comb at hs⊢;rw[hsum fun q=>P.a q c];grind
 ·have hs:=hspan P.n;simp only[sm,tt,Nat.lt_irrefl,if_false,Yx]at hs;rw[e P.n,hcc.2,eb,P.Jj hi0,if_neg (by omega),if_pos rfl,show P.one P.n=1 from if_pos rfl]at hs;unfold Prg.cst at hs⊢;rw[hsum fun q=>P.b q];grind
 ·have hne:q≠i0:=fun e=>by rw[e,he]at hqe;cases hqe
  have hy:yOf P P.n T (rowAt T i).co q=0:=by
   rcases qka P (T:=T) (m:=P.n) (rowAt T i).co h.on.once.c (i:=q)with⟨e,_⟩|⟨j,hj,ej,e⟩
   ·exact e
   ·rw[e];exact hc j hj (by rw[ej];unfold Prg.fx;simp[hqe])
  rw[if_neg hne,hy,Rat.div_def];grind
theorem qgY{r b:Row}{k:Nat}(hb:b.coef.length=r.coef.length)(h:r.co k=0):(subst r k b).last=r.last∧∀j,j<r.coef.length→(subst r k b).co j=r.co j:=by
 refine⟨by simp only[subst,h];grind,fun j hj=>?_⟩;rw[Xi hb hj,h];split
 ·rename_i e;rw[e,h];grind
 ·grind
variable{F:Nat→Vec Rat}{F0:Vec Rat}{G:List (Vec Rat)}{m:Nat}{V:Nat}{bd:Nat→Bool}
theorem On.lens(h:On bd V F F0 G m T):T.cols.length=m∧T.basis.length=T.rows.length∧(∀i,i<T.rows.length→(rowAt T i).coef.length=m)∧T.goals.length=G.length∧∀g,g<G.length→(goalAt T g).coef.length=m :=
 ⟨h.good.cl,h.good.rl.symm,fun i hi=>h.good.cf _ (X4 hi),h.good.gl,fun g hg=>h.good.gf _ (by
  have:g<T.goals.length:=by rw[h.good.gl];exact hg
  simp[goalAt,this])⟩
theorem On.keep(h:On bd V F F0 G m T){i k j:Nat}(hi:i<T.rows.length)(hk:k<m)(hj:j<T.rows.length)(hne:j≠i)(h0:(rowAt T j).co k=0) :
  (rowAt (LP.pivot T i k) j).last=(rowAt T j).last∧∀c,c<m→(rowAt (LP.pivot T i k) j).co c=(rowAt T j).co c:=by
 obtain⟨l1,l2,l3,l4,l5⟩:=h.lens;rw[J8 hj,if_neg hne];obtain⟨g1,g2⟩:=qgY (r:=rowAt T j) (b:=newRow (rowAt T i) k) (k:=k) (by rw[YG,l3 i hi,l3 j hj]) h0;exact⟨g1,fun c hc=>g2 c (by rw[l3 j hj];exact hc)⟩
theorem On.pcol(h:On bd V F F0 G m T){i k c:Nat}(hi:i<T.rows.length)(hk:k<m):(LP.pivot T i k).cols.getD c 0=if c=k then T.basis.getD i 0 else T.cols.getD c 0:=ZC (by rw[h.lens.1];exact hk)
theorem On.pbas(h:On bd V F F0 G m T){i k j:Nat}(hi:i<T.rows.length)(hk:k<m):(LP.pivot T i k).basis.getD j 0=if j=i then T.cols.getD k 0 else T.basis.getD j 0:=Zf (by rw[h.lens.2.1];exact hi)
theorem On.pco(h:On bd V F F0 G m T){i k j c:Nat}(hi:i<T.rows.length)(hk:k<m)(hj:j<T.rows.length)(hc:c<m)(hck:c≠k) :
  (rowAt (LP.pivot T i k) j).co c=if j=i then -(rowAt T i).co c/(rowAt T i).co k else(rowAt T j).co c+(rowAt T j).co k*(-(rowAt T i).co c/(rowAt T i).co k):=by
 obtain⟨l1,l2,l3,l4,l5⟩:=h.lens;rw[J8 hj];split
 ·rw[KA (by rw[l3 i hi];exact hk) (by rw[l3 i hi];exact hc),if_neg hck]
 ·rw[Xi (by rw[YG,l3 i hi,l3 j hj]) (by rw[l3 j hj];exact hc),if_neg hck,KA (by rw[l3 i hi];exact hk) (by rw[l3 i hi];exact hc),if_neg hck]
theorem On.pgo(h:On bd V F F0 G m T){i k g c:Nat}(hi:i<T.rows.length)(hk:k<m)(hg:g<G.length)(hc:c<m)(hck:c≠k) :
  (goalAt (LP.pivot T i k) g).co c=(goalAt T g).co c+(goalAt T g).co k*(-(rowAt T i).co c/(rowAt T i).co k):=by
 obtain⟨l1,l2,l3,l4,l5⟩:=h.lens;rw[WN (by rw[l4];exact hg),Xi (by rw[YG,l3 i hi,l5 g hg]) (by rw[l5 g hg];exact hc),if_neg hck,KA (by rw[l3 i hi];exact hk) (by rw[l3 i hi];exact hc),if_neg hck]
theorem ZR.pivot(h:On bd V F F0 G m T){b i k:Nat}(hd:ZR P m b T)(hi:i<T.rows.length)(hk:k<m)(hx:P.fx (T.cols.getD k 0)=false):ZR P m b (LP.pivot T i k):=by
 intro j hjb hj hjx;rw[Q2]at hj;rw[h.pbas hi hk]at hjx;by_cases hji:j=i
 ·rw[if_pos hji,hx]at hjx;cases hjx
 ·rw[if_neg hji]at hjx;obtain⟨d1,d2⟩:=hd j hjb hj hjx;obtain⟨k1,k2⟩:=h.keep hi hk hj hji (d2 k hk hx);refine⟨k1.trans d1,fun c hc hcx=>?_⟩;rw[k2 c hc];rw[h.pcol hi hk]at hcx;by_cases hck:c=k
  ·rw[hck];exact d2 k hk hx
  ·rw[if_neg hck]at hcx;exact d2 c hc hcx
theorem Yq.qrq(h:On bd V F F0 G m T){b i k:Nat}(hd:Yq P m b T)(hi:i<T.rows.length)(hk:k<m)(hb:P.bd (T.basis.getD i 0)=true)(hx:P.fr (T.cols.getD k 0)=true):Yq P m b (LP.pivot T i k):=by
 intro j hjb hj hjx c hc hcf;rw[Q2]at hj;rw[h.pbas hi hk]at hjx;by_cases hji:j=i
 ·rw[if_pos hji]at hjx;rw[P.qf4 hjx]at hx;cases hx
 ·rw[if_neg hji]at hjx;have d:=hd j hjb hj hjx;rw[(h.keep hi hk hj hji (d k hk hx)).2 c hc];rw[h.pcol hi hk]at hcf;by_cases hck:c=k
  ·rw[if_pos hck,P.qf4 hb]at hcf;cases hcf
  ·rw[if_neg hck]at hcf;exact d c hc hcf
theorem Yq.qc1(h:On bd V F F0 G m T){i k:Nat}(hd:Yq P m T.rows.length T)(hi:i<T.rows.length)(hk:k<m)(hb:P.bd (T.basis.getD i 0)=true)(hx:P.bd (T.cols.getD k 0)=true):Yq P m (LP.pivot T i k).rows.length (LP.pivot T i k):=by
 intro j hjb hj hjx c hc hcf;rw[Q2]at hj;rw[h.pcol hi hk]at hcf;by_cases hck:c=k
 ·rw[if_pos hck,P.qf4 hb]at hcf;cases hcf
 ·rw[if_neg hck]at hcf;rw[h.pco hi hk hj hc hck,hd i hi hi hb c hc hcf];split
  ·rw[Rat.div_def];grind
  ·rename_i hji;rw[h.pbas hi hk,if_neg hji]at hjx;rw[hd j hj hj hjx c hc hcf,Rat.div_def];grind
theorem qb1.qc1(h:On bd V F F0 G m T){i k g:Nat}(hg:g<G.length)(hgf:qb1 P m g T)(hd:Yq P m T.rows.length T)(hi:i<T.rows.length)(hk:k<m)(hb:P.bd (T.basis.getD i 0)=true):qb1 P m g (LP.pivot T i k):=by
 intro c hc hcf;rw[h.pcol hi hk]at hcf;by_cases hck:c=k
 ·rw[if_pos hck,P.qf4 hb]at hcf;cases hcf
 ·rw[if_neg hck]at hcf;rw[h.pgo hi hk hg hc hck,hgf c hc hcf,hd i hi hi hb c hc hcf,Rat.div_def];grind
def We(kind:Nat→Bool)(T:Tab)(i:Nat):Option Nat:=(List.range T.cols.length).find? fun k=>kind (T.cols.getD k 0)&&decide ((rowAt T i).co k≠0)
theorem Xw{kind:Nat→Bool}{i k:Nat}(h:We kind T i=some k):k<T.cols.length∧kind (T.cols.getD k 0)=true∧(rowAt T i).co k≠0:=by unfold We at h;have h1:=List.find?_some h;have h2:=List.mem_of_find?_eq_some h;simp only[Bool.and_eq_true,decide_eq_true_eq]at h1;exact⟨List.mem_range.1 h2,h1⟩
theorem qcl{kind:Nat→Bool}{i:Nat}(h:We kind T i=none):∀k,k<T.cols.length→kind (T.cols.getD k 0)=true→(rowAt T i).co k=0:=by unfold We at h;rw[List.find?_eq_none]at h;intro k hk hkk;have:=h k (List.mem_range.2 hk);simp only[Bool.and_eq_true,decide_eq_true_eq,not_and,Decidable.not_not]at this;exact this hkk
def Wh(fr fx:Nat→Bool)(T:Tab)(i:Nat):Option Nat :=
 match (List.range T.cols.length).find? (fun k=>fr (T.cols.getD k 0))with
 | none=>We (fun v=>!fx v) T i
 | some k0=>match (List.range T.cols.length).find? (fun k=>decide (k0≤k)&&(!fx (T.cols.getD k 0)&&decide ((rowAt T i).co k≠0)))with
  | some k=>some k
  | none=>We (fun v=>!fx v) T i
theorem qaD{fr fx:Nat→Bool}{i k:Nat}(h:Wh fr fx T i=some k):k<T.cols.length∧fx (T.cols.getD k 0)=false∧(rowAt T i).co k≠0:=by
 have hc:We (fun v=>!fx v) T i=some k→k<T.cols.length∧fx (T.cols.getD k 0)=false∧(rowAt T i).co k≠0:=fun h=>by obtain⟨h1,h2,h3⟩:=Xw h;exact⟨h1,by simpa using h2,h3⟩
 unfold Wh at h;split at h
 ·exact hc h
 ·split at h
  ·rename_i k0 _ k1 h1;injection h with h;subst h;have h2:=List.find?_some h1;have h3:=List.mem_of_find?_eq_some h1;simp only[Bool.and_eq_true,decide_eq_true_eq,Bool.not_eq_true']at h2;exact⟨List.mem_range.1 h3,h2.2⟩
  ·exact hc h
theorem qgk{fr fx:Nat→Bool}{i:Nat}(h:Wh fr fx T i=none):∀k,k<T.cols.length→fx (T.cols.getD k 0)=false→(rowAt T i).co k=0:=by
 have hc:We (fun v=>!fx v) T i=none→∀k,k<T.cols.length→fx (T.cols.getD k 0)=false→(rowAt T i).co k=0:=fun h k hk hx=>qcl h k hk (by show(!fx (T.cols.getD k 0))=true;rw[hx];rfl);unfold Wh at h;split at h
 ·exact hc h
 ·split at h
  ·cases h
  ·exact hc h
def qak(fr fx:Nat→Bool):Nat→Nat→Tab→Tab×Option Nat
 | 0,_,T=>(T,none)
 | f+1,i,T=>if fx (T.basis.getD i 0)=true then(match Wh fr fx T i with
   | some k=>qak fr fx f (i+1) (pivot T i k)
   | none=>if(rowAt T i).last≠0 then(T,some i)else qak fr fx f (i+1) T)else qak fr fx f (i+1) T
def qaV(fr bd:Nat→Bool):Nat→Nat→Tab→Tab
 | 0,_,T=>T
 | f+1,i,T=>if bd (T.basis.getD i 0)=true then(match We fr T i with
   | some k=>qaV fr bd f (i+1) (pivot T i k)
   | none=>qaV fr bd f (i+1) T)else qaV fr bd f (i+1) T
theorem ZR.next{m i:Nat}(h:ZR P m i T)(h2:i<T.rows.length→P.fx (T.basis.getD i 0)=true→(rowAt T i).last=0∧∀k,k<m→P.fx (T.cols.getD k 0)=false→(rowAt T i).co k=0):ZR P m (i+1) T:=by
 intro j hj hl hx;by_cases e:j=i
 ·subst e;exact h2 hl hx
 ·exact h j (by omega) hl hx
theorem Yq.next{m i:Nat}(h:Yq P m i T)(h2:i<T.rows.length→P.bd (T.basis.getD i 0)=true→∀k,k<m→P.fr (T.cols.getD k 0)=true→(rowAt T i).co k=0):Yq P m (i+1) T:=by
 intro j hj hl hx;by_cases e:j=i
 ·subst e;exact h2 hl hx
 ·exact h j (by omega) hl hx
theorem qmZ:∀(f i:Nat) (T:Tab),Tbl P T→ZR P P.n i T→i+f=T.rows.length→∀T' r,qak P.fr P.fx f i T=(T',r)→Tbl P T'∧T'.rows.length=T.rows.length ∧
  match r with
  | none=>ZR P P.n T'.rows.length T'
  | some i=>i<T'.rows.length∧P.fx (T'.basis.getD i 0)=true∧(∀k,k<P.n→P.fx (T'.cols.getD k 0)=false→(rowAt T' i).co k=0)∧(rowAt T' i).last≠0:=by
 intro f;induction f with
 | zero =>intro i T h hd hi T' r he;simp only[qak,Prod.mk.injEq]at he;obtain⟨rfl,rfl⟩:=he;exact⟨h,rfl,by rw[Nat.add_zero]at hi;subst hi;exact hd⟩
 | succ f ih =>
  intro i T h hd hi T' r he;have hil:i<T.rows.length:=by omega
  have hcl:=h.on.lens.1;simp only[qak]at he;split at he
  ·rename_i hx;split at he
   ·rename_i k hk;obtain⟨k1,k2,k3⟩:=qaD hk;rw[hcl]at k1;have hp:=hd.pivot h.on hil k1 k2;have:=ih (i+1) (pivot T i k) (h.pivot hil k1 k3) (hp.next fun _ hxx=>by rw[h.on.pbas hil k1,if_pos rfl,k2]at hxx;cases hxx) (by rw[Q2];omega) T' r he
    rw[Q2]at this;exact this
   ·rename_i hk;have hn:=qgk hk;rw[hcl]at hn;split at he
    ·rename_i hl;simp only[Prod.mk.injEq]at he;obtain⟨rfl,rfl⟩:=he;exact⟨h,rfl,hil,hx,hn,hl⟩
    ·rename_i hl;exact ih (i+1) T h (hd.next fun _ _=>⟨by simpa using hl,hn⟩) (by omega) T' r he
  ·rename_i hx;exact ih (i+1) T h (hd.next fun _ hxx=>absurd hxx hx) (by omega) T' r he
theorem qnr:∀(f i:Nat) (T:Tab),Tbl P T→ZR P P.n T.rows.length T→Yq P P.n i T→i+f=T.rows.length→Tbl P (qaV P.fr P.bd f i T)∧(qaV P.fr P.bd f i T).rows.length=T.rows.length∧ZR P P.n T.rows.length (qaV P.fr P.bd f i T)∧Yq P P.n T.rows.length (qaV P.fr P.bd f i T):=by
 intro f;induction f with
 | zero=>intro i T h hd hz hi;rw[Nat.add_zero]at hi;subst hi;exact⟨h,rfl,hd,hz⟩
 | succ f ih =>
  intro i T h hd hz hi;have hil:i<T.rows.length:=by omega
  have hcl:=h.on.lens.1;simp only[qaV];split
  ·rename_i hb;split
   ·rename_i k hk;obtain⟨k1,k2,k3⟩:=Xw hk;rw[hcl]at k1;have hp:=hz.qrq h.on hil k1 hb k2;have hdp:=hd.pivot h.on hil k1 (P.qln k2);have:=ih (i+1) (pivot T i k) (h.pivot hil k1 k3) (by rw[Q2];exact hdp) (hp.next fun _ hbb=>by rw[h.on.pbas hil k1,if_pos rfl]at hbb;rw[P.qf4 hbb]at k2;cases k2) (by rw[Q2];omega)
    rw[Q2]at this;exact this
   ·rename_i hk;have hn:=qcl hk;rw[hcl]at hn;exact ih (i+1) T h hd (hz.next fun _ _=>hn) (by omega)
  ·rename_i hb;exact ih (i+1) T h hd (hz.next fun _ hbb=>absurd hbb hb) (by omega)
end
theorem qk3{n:Nat}{A:Nat→Vec Rat}{p:Nat}(hp:p<n)(h:A p=fun _=>0):det n A=0:=by
 have:=qbi (A:=A) hp 0 0 (fun _=>0) (fun _=>0);have e:rep A p (fun c=>(0:Rat)*(fun _=>(0:Rat)) c+0*(fun _=>(0:Rat)) c)=A:=by
  funext i;simp only[rep];split
  ·rename_i hi;subst hi;rw[h];funext c;grind
  ·rfl
 rw[e]at this;rw[this];grind
theorem qk2{n:Nat}{A:Nat→Vec Rat}{q:Nat}(hq:q<n+1)(h:∀c,A q c=if c=0 then 1 else 0):det (n+1) A=sgn q*det n (mnr A q):=by
 simp only[det];rw[Jb (j:=q) hq fun i hi hne=>?_,h 0,if_pos rfl]
 ·grind
 ·have:det n (mnr A i)=0:=by
   refine qk3 (p:=if q<i then q else q-1) (by split<;>omega) ?_;funext c;have e:(if(if q<i then q else q-1)<i then(if q<i then q else q-1)else(if q<i then q else q-1)+1)=q:=by
    by_cases hqi:q<i
    ·rw[if_pos hqi,if_pos hqi]
    ·rw[if_neg hqi,if_neg (by omega)];omega
   simp only[mnr,shv,e];rw[h];rfl
  rw[this];grind
theorem qrI(q:Nat):(sgn q:Rat)≠0:=by unfold sgn;split<;>grind
theorem Vd{n:Nat}{A:Nat→Vec Rat}{q:Nat}(hq:q<n+1)(h:∀c,A q c=if c=0 then 1 else 0):det (n+1) A≠0↔det n (mnr A q)≠0:=by
 rw[qk2 hq h];constructor
 ·intro h1 h2;rw[h2]at h1;grind
 ·intro h1 h2;rcases Rat.mul_eq_zero.1 h2 with h|h
  ·exact qrI q h
  ·exact h1 h
theorem qpy{f:Nat→Rat}:∀{n k:Nat},k≤n→sm (n+1) f=sm n (fun j=>f (skp k j))+f k:=by
 intro n;induction n with
 | zero =>
      intro k hk;have:k=0:=by omega
      subst this;simp only[sm]
 | succ n ih =>
  intro k hk;by_cases e:k=n+1
  ·subst e;have e:sm n (fun j=>f (skp (n+1) j))=sm n f:=Qy fun i hi=>by simp only[skp];rw[if_pos (by omega)]
   simp only[sm];rw[e,show skp (n+1) n=n by simp[skp]]
  ·have:=ih (k:=k) (by omega);simp only[sm]at this⊢;rw[this,show skp k n=n+1 by unfold skp;rw[if_neg (by omega)]];grind
def Prg.fm1(P:Prg)(s:Nat→Bool)(v:Nat):Vec Rat:=fun c=>match c with
 | 0=>if v=P.n+P.m then 1 else if s v=true then 1 else 0
 | c+1=>P.fm v c
def Yu(a:Rat)(f:Vec Rat):Vec Rat:=fun c=>match c with
 | 0=>a
 | c+1=>f c
def Prg.gm1(P:Prg):List (Vec Rat):=[Yu 0 P.gm,Yu (-1) fun _=>0]
theorem Prg.qqX(P:Prg)(c:Nat):P.fm (P.n+P.m) c=0:=by unfold Prg.fm;rw[if_neg (by omega),if_neg (by omega)]
theorem Prg.XE(P:Prg)(s:Nat→Bool)(c:Nat):P.fm1 s (P.n+P.m) c=if c=0 then 1 else 0:=by
 cases c with
 | zero=>simp[Prg.fm1]
 | succ c=>simp only[Prg.fm1];rw[P.qqX];simp
def QL(bd:Nat→Bool)(art:Nat)(T:Tab):Tab :=
 ⟨T.basis,(List.range T.rows.length).map (fun i=>⟨(rowAt T i).last,(rowAt T i).coef++[if bd (T.basis.getD i 0)=true then 1 else 0]⟩),T.cols++[art],
  (T.goals.map fun g=>⟨g.last,g.coef++[0]⟩)++[⟨0,List.replicate T.cols.length 0++[-1]⟩]⟩
def Q6(k:Nat)(T:Tab):Tab:=⟨T.basis,T.rows.map (fun r=>⟨r.last,r.coef.eraseIdx k⟩),T.cols.eraseIdx k,(T.goals.take 1).map fun g=>⟨g.last,g.coef.eraseIdx k⟩⟩
theorem JX{α:Type}{l:List α}{a d:α}{j:Nat}:(l++[a]).getD j d=if j<l.length then l.getD j d else if j=l.length then a else d:=by
 simp only[List.getD_eq_getElem?_getD,List.getElem?_append];split
 ·rfl
 ·split
  ·rename_i h;subst h;simp
  ·rename_i h1 h2;rw[List.getElem?_eq_none (by simp;omega)];rfl
theorem getD_erase{α:Type}{l:List α}{d:α}{j k:Nat}:(l.eraseIdx k).getD j d=l.getD (skp k j) d:=by simp only[List.getD_eq_getElem?_getD,List.getElem?_eraseIdx,skp];split<;>rfl
theorem VV{k j n:Nat}(hk:k≤n)(hj:j<n):skp k j<n+1:=by unfold skp;split<;>omega
theorem qrJ{k j:Nat}:skp k j≠k:=by unfold skp;split<;>omega
theorem qps{k i j:Nat}(h:skp k i=skp k j):i=j:=by unfold skp at h;split at h<;>split at h<;>omega
theorem qrK{k i n:Nat}(hk:k≤n)(hi:i<n+1)(h:i≠k):∃j,j<n∧skp k j=i:=by
 by_cases h1:i<k
 ·exact⟨i,by omega,by unfold skp;rw[if_pos h1]⟩
 ·exact⟨i-1,by omega,by unfold skp;rw[if_neg (by omega)];omega⟩
section
variable{P:Prg}{T:Tab}
theorem V7{bd:Nat→Bool}{art i:Nat}(hi:i<T.rows.length):rowAt (QL bd art T) i=⟨(rowAt T i).last,(rowAt T i).coef++[if bd (T.basis.getD i 0)=true then 1 else 0]⟩:=by
 have:(QL bd art T).rows[i]?=some ⟨(rowAt T i).last,(rowAt T i).coef++[if bd (T.basis.getD i 0)=true then 1 else 0]⟩:=by simp[QL,hi]
 unfold rowAt at this⊢;rw[List.getD_eq_getElem?_getD,this];rfl
theorem Zi(bd:Nat→Bool)(art:Nat):(QL bd art T).rows.length=T.rows.length:=by simp[QL]
theorem Ko{bd:Nat→Bool}{art i j:Nat}(hi:i<T.rows.length)(hl:(rowAt T i).coef.length=P.n):(rowAt (QL bd art T) i).co j=if j<P.n then(rowAt T i).co j else if j=P.n then(if bd (T.basis.getD i 0)=true then 1 else 0)else 0:=by rw[V7 hi];unfold Row.co;rw[JX,hl]
theorem qb5{bd:Nat→Bool}{art:Nat}(hg:T.goals.length=1):goalAt (QL bd art T) 0=⟨(goalAt T 0).last,(goalAt T 0).coef++[0]⟩:=by
 cases h:T.goals with
 | nil=>rw[h]at hg;cases hg
 | cons a l=>simp[goalAt,QL,h]
theorem qb6{bd:Nat→Bool}{art:Nat}(hg:T.goals.length=1):goalAt (QL bd art T) 1=⟨0,List.replicate T.cols.length 0++[-1]⟩:=by
 cases h:T.goals with
 | nil=>rw[h]at hg;cases hg
 | cons a l =>
  rw[h]at hg;have:l=[]:=by cases l with|nil=>rfl|cons=>cases hg
  subst this;simp[goalAt,QL,h]
def sOf(P:Prg)(T:Tab)(v:Nat):Bool:=decide (v∈T.basis)&&P.bd v
structure qhn(P:Prg)(s:Nat→Bool)(T:Tab):Prop where
 on:On P.bd (P.n+P.m+1) (P.fm1 s) (Yu 0 P.one) P.gm1 (P.n+1) T
 all:All (P.n+P.m+1) (P.n+1) T
theorem qhn.pivot{s:Nat→Bool}(h:qhn P s T){i k:Nat}(hi:i<T.rows.length)(hk:k<P.n+1)(ha:(rowAt T i).co k≠0):qhn P s (LP.pivot T i k) :=
 ⟨h.on.pivot hi hk ha,h.all.pivot h.on.good.rl h.on.good.cl hi hk⟩
theorem qhG{v:Nat}(hl:T.basis.length=T.rows.length):v∈T.basis↔Bas T v:=by
 constructor
 ·intro h;obtain⟨i,hi,e⟩:=List.mem_iff_getElem.1 h;exact⟨i,by omega,by rw[List.getD_eq_getElem?_getD,List.getElem?_eq_getElem hi,Option.getD_some,e]⟩
 ·rintro⟨i,hi,e⟩;rw[←e,List.getD_eq_getElem?_getD,List.getElem?_eq_getElem (by omega),Option.getD_some];exact List.getElem_mem _
theorem Tbl.QL(h:Tbl P T):qhn P (sOf P T) (QL P.bd (P.n+P.m) T):=by
 obtain⟨l1,l2,l3,l4,l5⟩:=h.on.lens;have hcols:∀j,(LP.QL P.bd (P.n+P.m) T).cols.getD j 0=if j<P.n then T.cols.getD j 0 else if j=P.n then P.n+P.m else 0:=fun j=>by simp only[LP.QL];rw[JX,l1]
 have hbas:∀j,(LP.QL P.bd (P.n+P.m) T).basis.getD j 0=T.basis.getD j 0:=fun j=>rfl;have hA:∀j,Yx (LP.QL P.bd (P.n+P.m) T).cols (P.fm1 (sOf P T)) (P.n+1) (Yu 0 P.one) j=if j<P.n then P.fm1 (sOf P T) (T.cols.getD j 0)else if j=P.n then P.fm1 (sOf P T) (P.n+P.m)else Yu 0 P.one:=fun j=>by
  simp only[Yx,hcols];by_cases h1:j<P.n
  ·rw[if_pos (by omega),if_pos h1,if_pos h1]
  ·by_cases h2:j=P.n
   ·rw[if_pos (by omega),if_neg h1,if_neg h1,if_pos h2,if_pos h2]
   ·rw[if_neg (by omega),if_neg h1,if_neg h2]
 have hs0:∀j,j<P.n→P.fm1 (sOf P T) (T.cols.getD j 0) 0=0:=fun j hj=>by simp only[Prg.fm1];rw[if_neg (by have:=h.on.vars.2 j hj;omega),if_neg];unfold sOf;simp only[Bool.and_eq_true,decide_eq_true_eq,not_and];intro hm;exact((h.on.once.Xa ((qhG l2).1 hm)) ⟨j,hj,rfl⟩).elim
 have hcl:(LP.QL P.bd (P.n+P.m) T).cols.length=P.n+1:=by simp[LP.QL,l1]
 have hspan:∀(r r':Row) (f:Vec Rat) (f':Vec Rat),Span (Yx T.cols P.fm P.n P.one) P.n r f→r'.last=r.last→(∀j,j<P.n→r'.co j=r.co j)→(∀c,f' (c+1)=f c)→f' 0=r'.co P.n→Span (Yx (LP.QL P.bd (P.n+P.m) T).cols (P.fm1 (sOf P T)) (P.n+1) (Yu 0 P.one)) (P.n+1) r' f':=fun r r' f f' hs e1 e2 e3 e4 c=>by
  simp only[sm,tt,hA,Nat.lt_irrefl,if_false,if_true,Nat.lt_succ_self,show ¬P.n+1<P.n by omega,show ¬P.n+1=P.n by omega];cases c with
  | zero =>rw[Jc fun j hj=>by rw[if_pos hj,hs0 j hj];grind,P.XE,if_pos rfl,e4];simp only[Yu];grind
  | succ c =>
   have:=hs c;simp only[sm,tt,Yx,Nat.lt_irrefl,if_false]at this;rw[e3 c,this,P.XE,if_neg (by omega),e1];simp only[Yu];have e:sm P.n (fun j=>(if j<P.n then r.co j else r.last)*(if j<P.n then P.fm (T.cols.getD j 0)else P.one) c)=sm P.n fun j=>(if j<P.n+1 then r'.co j else r.last)*(if j<P.n then P.fm1 (sOf P T) (T.cols.getD j 0)else if j=P.n then P.fm1 (sOf P T) (P.n+P.m)else Yu 0 P.one) (c+1):=Qy fun j hj=>by rw[if_pos hj,if_pos hj,if_pos (by omega),if_pos hj,e2 j hj];rfl
   rw[e];grind
 refine⟨⟨⟨hcl,by rw[Zi];exact h.on.good.rl,?_,by simp[LP.QL,l4,Prg.gm1],?_,?_,?_,?_⟩,⟨?_,?_,?_⟩,?_,?_⟩,?_⟩
 ·intro r hr;simp only[LP.QL,List.mem_map,List.mem_range]at hr;obtain⟨i,hi,rfl⟩:=hr;simp[l3 i hi]
 ·intro r hr;simp only[LP.QL,List.mem_append,List.mem_map,List.mem_singleton]at hr;rcases hr with⟨g,hg,rfl⟩|rfl
  ·simp[h.on.good.gf g hg]
  ·simp[l1]
 ·intro i hi;rw[Zi]at hi;refine hspan (rowAt T i) _ (P.fm (T.basis.getD i 0)) _ (h.on.good.row i hi) (by rw[V7 hi]) (fun j hj=>by rw[Ko (P:=P) hi (l3 i hi),if_pos hj]) (fun c=>rfl) ?_;rw[Ko (P:=P) hi (l3 i hi),if_neg (by omega),if_pos rfl,hbas];simp only[Prg.fm1];rw[if_neg (by have:=h.on.vars.1 i hi;omega)];unfold sOf;have:T.basis.getD i 0∈T.basis:=(qhG l2).2 ⟨i,hi,rfl⟩;simp only[this,decide_true,Bool.true_and]
 ·intro g hg;have hg2:g=0∨g=1:=by simp[Prg.gm1]at hg;omega
  have hgl:T.goals.length=1:=by rw[l4];rfl
  rcases hg2 with rfl|rfl
  ·have e:=qb5 (bd:=P.bd) (art:=P.n+P.m) hgl;rw[VA]at e;rw[e];have hl0:=l5 0 (by simp);exact hspan (goalAt T 0) _ P.gm _ (h.on.good.goal 0 (by simp)) rfl (fun j hj=>by unfold Row.co;rw[JX,hl0,if_pos hj]) (fun c=>rfl) (by unfold Row.co;rw[JX,hl0,if_neg (by omega),if_pos rfl];rfl)
  ·have e:=qb6 (bd:=P.bd) (art:=P.n+P.m) hgl;rw[VA]at e;rw[e,l1];refine hspan ⟨0,[]⟩ _ (fun _=>0) _ (fun c=>?_) rfl (fun j hj=>by unfold Row.co;rw[JX];simp[hj]) (fun c=>rfl) (by unfold Row.co;rw[JX];simp[Prg.gm1,Yu]);rw[Jc fun j _=>by simp only[tt,Row.co];split<;>simp<;>grind]
 ·rw[Vd (q:=P.n) (by omega) fun c=>by rw[hA,if_neg (by omega),if_pos rfl,P.XE]];have:det (P.n+1) (mnr (Yx (LP.QL P.bd (P.n+P.m) T).cols (P.fm1 (sOf P T)) (P.n+1) (Yu 0 P.one)) P.n)=det (P.n+1) (Yx T.cols P.fm P.n P.one):=by
   refine qcq fun j hj c _=>?_;simp only[mnr,shv,hA];by_cases hjn:j<P.n
   ·simp only[hjn,if_true,Yx];rfl
   ·rw[if_neg hjn,if_neg (by omega),if_neg (by omega)];simp only[Yx,hjn,if_false];rfl
  rw[this];exact h.on.good.dt
 ·intro i j hi hj e;rw[Zi]at hi hj;exact h.on.once.b i j hi hj e
 ·intro i j hi hj e;rw[hcols,hcols]at e;by_cases h1:i<P.n<;>by_cases h2:j<P.n
  ·rw[if_pos h1,if_pos h2]at e;exact h.on.once.c i j h1 h2 e
  ·rw[if_pos h1,if_neg h2,if_pos (by omega)]at e;have:=h.on.vars.2 i h1;omega
  ·rw[if_neg h1,if_pos h2,if_pos (by omega)]at e;have:=h.on.vars.2 j h2;omega
  ·omega
 ·intro i j hi hj e;rw[Zi]at hi;rw[hcols,hbas]at e;by_cases h1:j<P.n
  ·rw[if_pos h1]at e;exact h.on.once.x i j hi h1 e
  ·rw[if_neg h1,if_pos (by omega)]at e;have:=h.on.vars.1 i hi;omega
 ·intro i hi;rw[Zi]at hi;have:=h.on.vars.1 i hi;rw[hbas];omega
 ·intro j hj;rw[hcols];split
  ·rename_i h1;have:=h.on.vars.2 j h1;omega
  ·split<;>omega
 ·intro v hv;by_cases e:v=P.n+P.m
  ·exact .inr ⟨P.n,by omega,by rw[hcols,if_neg (by omega),if_pos rfl,e]⟩
  ·rcases h.all v (by omega)with⟨i,hi,e⟩|⟨j,hj,e⟩
   ·exact .inl ⟨i,by rw[Zi];exact hi,e⟩
   ·exact .inr ⟨j,by omega,by rw[hcols,if_pos hj];exact e⟩
theorem JW{k i:Nat}(hi:i<T.rows.length):rowAt (Q6 k T) i=⟨(rowAt T i).last,(rowAt T i).coef.eraseIdx k⟩:=by
 have:(Q6 k T).rows[i]?=some ⟨(rowAt T i).last,(rowAt T i).coef.eraseIdx k⟩:=by simp[Q6,rowAt,hi]
 unfold rowAt at this⊢;rw[List.getD_eq_getElem?_getD,this];rfl
theorem Zx(k:Nat):(Q6 k T).rows.length=T.rows.length:=by simp[Q6]
theorem Wg{k i j:Nat}(hi:i<T.rows.length):(rowAt (Q6 k T) i).co j=(rowAt T i).co (skp k j):=by rw[JW hi];unfold Row.co;exact getD_erase
theorem ZU{k j:Nat}:(Q6 k T).cols.getD j 0=T.cols.getD (skp k j) 0:=getD_erase
theorem qct{k:Nat}(hg:0<T.goals.length):goalAt (Q6 k T) 0=⟨(goalAt T 0).last,(goalAt T 0).coef.eraseIdx k⟩:=by
 cases h:T.goals with
 | nil=>rw[h]at hg;cases hg
 | cons a l=>simp[goalAt,Q6,h]
theorem qhn.drop{s:Nat→Bool}(h:qhn P s T){k:Nat}(hk:k<P.n+1)(hka:T.cols.getD k 0=P.n+P.m):Tbl P (Q6 k T):=by
 obtain⟨l1,l2,l3,l4,l5⟩:=h.on.lens;have hA:∀j,j<P.n+1→∀c,Yx (Q6 k T).cols P.fm P.n P.one j c=Yx T.cols (P.fm1 s) (P.n+1) (Yu 0 P.one) (skp k j) (c+1):=fun j hj c=>by
  simp only[Yx];by_cases hjn:j<P.n
  ·rw[if_pos hjn,if_pos (VV (by omega) hjn),ZU];rfl
  ·rw[if_neg hjn,if_neg (by unfold skp;split<;>omega)];rfl
 have hart:∀c,Yx T.cols (P.fm1 s) (P.n+1) (Yu 0 P.one) k c=if c=0 then 1 else 0:=fun c=>by simp only[Yx,hk,if_true,hka];exact P.XE s c
 have hspan:∀(r r':Row) (f f':Vec Rat),Span (Yx T.cols (P.fm1 s) (P.n+1) (Yu 0 P.one)) (P.n+1) r f→r'.last=r.last→(∀j,j<P.n→r'.co j=r.co (skp k j))→(∀c,f' c=f (c+1))→Span (Yx (Q6 k T).cols P.fm P.n P.one) P.n r' f':=fun r r' f f' hs e1 e2 e3 c=>by
  rw[e3 c,hs (c+1),qpy (k:=k) (by omega),hart,if_neg (by omega)];have:sm (P.n+1) (fun j=>tt (P.n+1) r (skp k j)*Yx T.cols (P.fm1 s) (P.n+1) (Yu 0 P.one) (skp k j) (c+1))=sm (P.n+1) fun j=>tt P.n r' j*Yx (Q6 k T).cols P.fm P.n P.one j c:=Qy fun j hj=>by
   rw[hA j hj c];congr 1;simp only[tt];by_cases hjn:j<P.n
   ·rw[if_pos hjn,if_pos (VV (by omega) hjn),e2 j hjn]
   ·rw[if_neg hjn,if_neg (by unfold skp;split<;>omega),e1]
  rw[this];grind
 have hne:∀i,i<T.rows.length→T.basis.getD i 0≠P.n+P.m:=fun i hi e=>h.on.once.x i k hi hk (e.trans hka.symm);refine⟨⟨⟨?_,by rw[Zx];exact h.on.good.rl,?_,?_,?_,?_,?_,?_⟩,⟨?_,?_,?_⟩,?_,?_⟩,?_⟩
 ·simp only[Q6,List.length_eraseIdx,l1];rw[if_pos hk];omega
 ·intro r hr;simp only[Q6,List.mem_map]at hr;obtain⟨r0,hr0,rfl⟩:=hr;simp only[List.length_eraseIdx,h.on.good.cf r0 hr0];rw[if_pos hk];omega
 ·simp[Q6,l4,Prg.gm1]
 ·intro r hr;simp only[Q6,List.mem_map]at hr;obtain⟨r0,hr0,rfl⟩:=hr;simp only[List.length_eraseIdx,h.on.good.gf r0 (List.mem_of_mem_take hr0)];rw[if_pos hk];omega
 ·intro i hi;rw[Zx]at hi;exact hspan (rowAt T i) _ (P.fm1 s (T.basis.getD i 0)) _ (h.on.good.row i hi) (by rw[JW hi]) (fun j hj=>Wg hi) fun c=>rfl
 ·intro g hg;have hg0:g=0:=by simp at hg;exact hg
  subst hg0;have e:=qct (T:=T) (k:=k) (by rw[l4];simp[Prg.gm1]);rw[VA]at e;rw[e];refine hspan (goalAt T 0) _ (Yu 0 P.gm) _ (h.on.good.goal 0 (by simp[Prg.gm1])) rfl (fun j hj=>?_) fun c=>rfl;unfold Row.co;exact getD_erase
 ·have:=(Vd (n:=P.n+1) (q:=k) (by omega) hart).1 h.on.good.dt;have e:det (P.n+1) (mnr (Yx T.cols (P.fm1 s) (P.n+1) (Yu 0 P.one)) k)=det (P.n+1) (Yx (Q6 k T).cols P.fm P.n P.one):=qcq fun j hj c _=>by rw[hA j hj c];rfl
  rw[e]at this;exact this
 ·intro i j hi hj e;rw[Zx]at hi hj;exact h.on.once.b i j hi hj e
 ·intro i j hi hj e;rw[ZU,ZU]at e;exact qps (h.on.once.c _ _ (VV (by omega) hi) (VV (by omega) hj) e)
 ·intro i j hi hj e;rw[Zx]at hi;rw[ZU]at e;exact h.on.once.x i _ hi (VV (by omega) hj) e
 ·intro i hi;rw[Zx]at hi;have:=h.on.vars.1 i hi;have:=hne i hi;show T.basis.getD i 0<_;omega
 ·intro j hj;rw[ZU];have h1:=h.on.vars.2 (skp k j) (VV (by omega) hj);have h2:T.cols.getD (skp k j) 0≠P.n+P.m:=fun e=>qrJ (h.on.once.c _ _ (VV (by omega) hj) hk (e.trans hka.symm));omega
 ·intro v hv;rcases h.all v (by omega)with⟨i,hi,e⟩|⟨j,hj,e⟩
  ·exact .inl ⟨i,by rw[Zx];exact hi,e⟩
  ·have hjk:j≠k:=fun e2=>by rw[e2,hka]at e;omega
   obtain⟨j',h1,h2⟩:=qrK (show k≤P.n by omega) hj hjk;exact .inr ⟨j',h1,by rw[ZU,h2];exact e⟩
end
def Yl(bd:Nat→Bool)(basis:List Nat)(la:Nat→Rat):Nat→Option Nat
 | 0=>none
 | i+1=>match Yl bd basis la i with
  | none=>if bd (basis.getD i 0)=true∧la i<0 then some i else none
  | some w=>if bd (basis.getD i 0)=true∧la i<0∧la i<la w then some i else some w
theorem Vl{bd:Nat→Bool}{basis:List Nat}{la:Nat→Rat}:∀{n:Nat},Yl bd basis la n=none→∀j,j<n→bd (basis.getD j 0)=true→0≤la j:=by
 intro n;induction n with
 | zero=>intro _ j hj;omega
 | succ n ih =>
  intro h j hj hb;simp only[Yl]at h;split at h
  ·rename_i h0;split at h
   ·cases h
   ·rename_i h1;by_cases e:j=n
    ·subst e;exact Rat.not_lt.1 fun h2=>h1 ⟨hb,h2⟩
    ·exact ih h0 j (by omega) hb
  ·split at h<;>cases h
theorem Vm{bd:Nat→Bool}{basis:List Nat}{la:Nat→Rat}:∀{n w:Nat},Yl bd basis la n=some w→w<n∧bd (basis.getD w 0)=true∧la w<0∧∀j,j<n→bd (basis.getD j 0)=true→la w≤la j:=by
 intro n;induction n with
 | zero=>intro w h;cases h
 | succ n ih =>
  intro w h;simp only[Yl]at h;split at h
  ·rename_i h0;split at h
   ·rename_i h1;injection h with h;subst h;refine⟨by omega,h1.1,h1.2,fun j hj hb=>?_⟩;by_cases e:j=n
    ·subst e;exact Rat.le_refl
    ·have:=Vl h0 j (by omega) hb;have:=h1.2;grind
   ·cases h
  ·rename_i w0 h0;obtain⟨g1,g2,g3,g4⟩:=ih h0;split at h
   ·rename_i h1;injection h with h;subst h;refine⟨by omega,h1.1,h1.2.1,fun j hj hb=>?_⟩;by_cases e:j=n
    ·subst e;exact Rat.le_refl
    ·have:=g4 j (by omega) hb;have:=h1.2.2;grind
   ·rename_i h1;injection h with h;subst h;refine⟨by omega,g2,g3,fun j hj hb=>?_⟩;by_cases e:j=n
    ·subst e;refine Rat.not_lt.1 fun h2=>h1 ⟨hb,?_,h2⟩;grind
    ·exact g4 j (by omega) hb
def V3(bd:Nat→Bool)(T:Tab):Option Nat:=Yl bd T.basis (fun i=>(rowAt T i).last) T.rows.length
def qgu(v:Nat)(T:Tab):Option Nat:=(List.range T.cols.length).find? fun k=>decide (T.cols.getD k 0=v)
theorem XN{v k:Nat}{T:Tab}(h:qgu v T=some k):k<T.cols.length∧T.cols.getD k 0=v:=by unfold qgu at h;exact⟨List.mem_range.1 (List.mem_of_find?_eq_some h),by simpa using List.find?_some h⟩
theorem XM{v:Nat}{T:Tab}(h:qgu v T=none):∀k,k<T.cols.length→T.cols.getD k 0≠v:=by unfold qgu at h;rw[List.find?_eq_none]at h;intro k hk;simpa using h k (List.mem_range.2 hk)
def YY(bd:Nat→Bool)(art f:Nat)(T:Tab):Option (Bool×Tab) :=
 match V3 bd T with
 | none=>some (true,T)
 | some w=>match ZS bd art 1 f (pivot (QL bd art T) w T.cols.length)with
  | none=>none
  | some (T3,_)=>match qgu art T3 with
   | some k=>some (true,Q6 k T3)
   | none=>some (false,T3)
theorem qlP(T:Tab)(i k:Nat):(pivot T i k).cols.length=T.cols.length:=by simp[pivot]
theorem Xv{bd:Nat→Bool}{art g:Nat}{J K:Tab→Prop}(hJ:∀T k i,J T→YL bd T g=some k→YO bd art T k=some i→(T.basis.getD i 0≠art→J (pivot T i k))∧(T.basis.getD i 0=art→T.cols.getD k 0≠art∧K (pivot T i k))):∀(f:Nat) (T T':Tab) (r:Option Nat),J T→ZS bd art g f T=some (T',r) →
  (r=none∧YL bd T' g=none∧J T')∨(∃k,r=some k∧YL bd T' g=some k∧YO bd art T' k=none∧J T')∨(r=none∧K T'∧∃k,k<T'.cols.length∧T'.cols.getD k 0=art):=by
 intro f;induction f with
 | zero=>intro T T' r _ h;cases h
 | succ f ih =>
  intro T T' r hT h;simp only[ZS]at h;split at h
  ·rename_i he;injection h with h;injection h with h1 h2;subst h1 h2;exact .inl ⟨rfl,he,hT⟩
  ·rename_i k he;split at h
   ·rename_i hl;injection h with h;injection h with h1 h2;subst h1 h2;exact .inr (.inl ⟨k,rfl,he,hl,hT⟩)
   ·rename_i i hl;obtain⟨j1,j2⟩:=hJ T k i hT he hl;split at h
    ·rename_i hs;injection h with h;injection h with h1 h2;subst h1 h2;have hk:=(ZJ he).1;exact .inr (.inr ⟨rfl,(j2 hs.2).2,k,by rw[qlP];exact hk,by rw[ZC hk,if_pos rfl];exact hs.2⟩)
    ·rename_i hs;exact ih (pivot T i k) T' r (j1 fun e=>hs ⟨(j2 e).1,e⟩) h
section
variable{P:Prg}{T:Tab}
structure K1(P:Prg)(s:Nat→Bool)(T:Tab):Prop where
 tbl:qhn P s T
 feas:Vn P.bd T
 dead:ZR P (P.n+1) T.rows.length T
 flat:Yq P (P.n+1) T.rows.length T
 len:T.rows.length=P.m
def J1(P:Prg)(s:Nat→Bool)(T:Tab):Prop:=K1 P s T∧∃r,r<T.rows.length∧T.basis.getD r 0=P.n+P.m∧0<(rowAt T r).last
theorem J1.step{s:Nat→Bool}(h:J1 P s T){g k i:Nat}(he:YL P.bd T g=some k)(hl:YO P.bd (P.n+P.m) T k=some i) :
  (T.basis.getD i 0≠P.n+P.m→J1 P s (pivot T i k))∧(T.basis.getD i 0=P.n+P.m→T.cols.getD k 0≠P.n+P.m∧K1 P s (pivot T i k)):=by
 obtain⟨h,r,hr,hra,hrp⟩:=h;obtain⟨c1,c2,c3,c4,c5,c6,c7,c8⟩:=Wd (g:=g) (art:=P.n+P.m) h.tbl.on h.feas he hl;have hd:=h.dead.pivot h.tbl.on c2 c1 (P.qhH c3);have hK:K1 P s (pivot T i k):=⟨h.tbl.pivot c2 c1 (Rat.ne_of_lt c5.neg),c7,by rw[Q2];exact hd,h.flat.qc1 h.tbl.on c2 c1 c5.b c3,by rw[Q2];exact h.len⟩;refine⟨fun hne=>⟨hK,r,by rw[Q2];exact hr,?_,c5.art h.feas hr hra P.qau hrp hne⟩,fun e=>⟨fun e2=>h.tbl.on.once.x i k c2 c1 (e.trans e2.symm),hK⟩⟩;rw[h.tbl.on.pbas c2 c1,if_neg fun e=>hne (by rw[←e];exact hra)];exact hra
theorem qbs{s:Nat→Bool}(h:qhn P s T){r:Nat}(hr:r<T.rows.length)(hra:T.basis.getD r 0=P.n+P.m){p:Nat}(hp:p<P.n+1+1):tt (P.n+1) (goalAt T 1) p = -tt (P.n+1) (rowAt T r) p:=by
 have h1:=h.on.good.goal 1 (by simp[Prg.gm1]);have h2:=h.on.good.row r hr;rw[hra]at h2;refine qbw (s:=fun p=>-tt (P.n+1) (rowAt T r) p) h.on.good.dt (f:=Yu (-1) fun _=>0) h1 (fun c=>?_) hp;have:=h2 c;rw[P.XE]at this;rw[VX,←this];cases c with
 | zero=>simp[Yu]
 | succ c=>simp[Yu]
theorem J1.infeas{s:Nat→Bool}(h:J1 P s T)(he:YL P.bd T 1=none):P.Inf∧(goalAt T 1).last≠0:=by
 obtain⟨h,r,hr,hra,hrp⟩:=h;have hcl:=h.tbl.on.lens.1;have hlast:(goalAt T 1).last = -(rowAt T r).last:=by have:=qbs h.tbl hr hra (p:=P.n+1) (by omega);simp only[tt,Nat.lt_irrefl,if_false]at this;exact this
 have hco:∀j,j<P.n+1→(goalAt T 1).co j = -(rowAt T r).co j:=fun j hj=>by have:=qbs h.tbl hr hra (p:=j) (by omega);simp only[tt,hj,if_true]at this;exact this
 refine⟨?_,by grind⟩;have hne:∀j,j<P.n+1→T.cols.getD j 0<P.n+P.m:=fun j hj=>by have h1:=h.tbl.on.vars.2 j hj;have h2:T.cols.getD j 0≠P.n+P.m:=fun e=>h.tbl.on.once.x r j hr hj (hra.trans e.symm);omega
 have hm:∀j,j<P.n+1→P.fr (T.cols.getD j 0)=true→(goalAt T 1).co j=0:=fun j hj hf=>by rw[hco j hj,h.flat r hr hr (by rw[hra];exact P.qau) j hj hf];grind
 have hcc:=Vt P (m:=P.n+1) (T:=T) (goalAt T 1).co hm hne;have hsp:∀c,0=sm (P.n+1) (fun j=>(goalAt T 1).co j*P.fm (T.cols.getD j 0) c)+(goalAt T 1).last*P.one c:=fun c=>by
  have hs:=h.tbl.on.good.goal 1 (by simp[Prg.gm1]) (c+1);have e0:sm (P.n+1+1) (fun j=>tt (P.n+1) (T.goals.getD 1 ⟨0,[]⟩) j*Yx T.cols (P.fm1 s) (P.n+1) (Yu 0 P.one) j (c+1))=sm (P.n+1) (fun j=>(goalAt T 1).co j*P.fm (T.cols.getD j 0) c)+(goalAt T 1).last*P.one c:=by
   rw[sm];congr 1
   ·refine Qy fun j hj=>?_;simp only[tt,Yx,hj,if_true];rfl
   ·simp only[tt,Yx,Nat.lt_irrefl,if_false];rfl
  rw[e0]at hs;exact hs
 refine qm5 (y:=yOf P (P.n+1) T (goalAt T 1).co) (s:=-(goalAt T 1).last) (by grind) (fun c hc=>?_) ?_ fun i hi hie=>?_
 ·have:=hsp c;rw[hcc.1 c hc,show P.one c=0 from if_neg (by omega)]at this;grind
 ·have:=hsp P.n;rw[hcc.2,show P.one P.n=1 from if_pos rfl]at this;grind
 ·have hy:yOf P (P.n+1) T (goalAt T 1).co i≤0:=by
   rcases qka P (T:=T) (m:=P.n+1) (goalAt T 1).co h.tbl.on.once.c (i:=i)with⟨e,_⟩|⟨j,hj,ej,e⟩
   ·rw[e];exact Rat.le_refl
   ·rw[e];refine Rat.not_lt.1 (Ve he j (by rw[hcl];exact hj) ?_);rw[ej];unfold Prg.bd Prg.fx;simp[hie]
  have hs:0 < -(goalAt T 1).last:=by grind
  have h2:=Rat.inv_pos.2 hs;rw[Rat.div_def];exact Rat.mul_nonneg (by grind) (Rat.le_of_lt h2)
theorem J1.ended{s:Nat→Bool}(h:J1 P s T){k:Nat}(he:YL P.bd T 1=some k)(hl:YO P.bd (P.n+P.m) T k=none):False:=by obtain⟨h,r,hr,hra,hrp⟩:=h;have hcl:=h.tbl.on.lens.1;obtain⟨e1,e2,e3,_⟩:=ZJ he;rw[hcl]at e1;have:=qbs h.tbl hr hra (p:=k) (by omega);simp only[tt,e1,if_true]at this;have h2:=XQ hl r hr (by rw[hra];exact P.qau);grind
structure J2(P:Prg)(T:Tab):Prop where
 tbl:Tbl P T
 feas:Vn P.bd T
 dead:ZR P P.n T.rows.length T
 flat:Yq P P.n T.rows.length T
 len:T.rows.length=P.m
theorem K1.drop{s:Nat→Bool}(h:K1 P s T){k:Nat}(hk:k<P.n+1)(hka:T.cols.getD k 0=P.n+P.m):J2 P (Q6 k T):=by
 refine⟨h.tbl.drop hk hka,fun j hj hb=>?_,fun j hjb hj hx=>?_,fun j hjb hj hb c hc hcf=>?_,by rw[Zx];exact h.len⟩
 ·rw[Zx]at hj;rw[JW hj];exact h.feas j hj hb
 ·rw[Zx]at hj;obtain⟨d1,d2⟩:=h.dead j hj hj hx;refine⟨by rw[JW hj];exact d1,fun c hc hcx=>?_⟩;rw[Wg hj];rw[ZU]at hcx;exact d2 _ (VV (by omega) hc) hcx
 ·rw[Zx]at hj;rw[Wg hj];rw[ZU]at hcf;exact h.flat j hj hj hb _ (VV (by omega) hc) hcf
theorem qaa(h:Tbl P T)(hd:ZR P P.n T.rows.length T)(hz:Yq P P.n T.rows.length T)(hl:T.rows.length=P.m){w:Nat}(hw:V3 P.bd T=some w) :
  w<T.rows.length∧(rowAt (QL P.bd (P.n+P.m) T) w).co P.n=1∧J1 P (sOf P T) (pivot (QL P.bd (P.n+P.m) T) w P.n):=by
 obtain⟨w1,w2,w3,w4⟩:=Vm hw;obtain⟨l1,l2,l3,l4,l5⟩:=h.on.lens;have hT:=h.QL;have hcw:∀j,j<T.rows.length→(rowAt (QL P.bd (P.n+P.m) T) j).co P.n=if P.bd (T.basis.getD j 0)=true then 1 else 0:=fun j hj=>by rw[Ko (P:=P) hj (l3 j hj),if_neg (by omega),if_pos rfl]
 have hcols:∀j,(QL P.bd (P.n+P.m) T).cols.getD j 0=if j<P.n then T.cols.getD j 0 else if j=P.n then P.n+P.m else 0:=fun j=>by simp only[QL];rw[JX,l1]
 have hw1:(rowAt (QL P.bd (P.n+P.m) T) w).co P.n=1:=by rw[hcw w w1,if_pos w2]
 have hwl:w<(QL P.bd (P.n+P.m) T).rows.length:=by rw[Zi];exact w1
 have hca:(QL P.bd (P.n+P.m) T).cols.getD P.n 0=P.n+P.m:=by rw[hcols,if_neg (by omega),if_pos rfl]
 have hrl:∀j,j<T.rows.length→(rowAt (QL P.bd (P.n+P.m) T) j).last=(rowAt T j).last:=fun j hj=>by rw[V7 hj]
 have hd1:ZR P (P.n+1) (QL P.bd (P.n+P.m) T).rows.length (QL P.bd (P.n+P.m) T):=fun j hjb hj hx=>by
  rw[Zi]at hj;obtain⟨d1,d2⟩:=hd j hj hj hx;refine⟨by rw[hrl j hj];exact d1,fun c hc hcx=>?_⟩;rw[Ko (P:=P) hj (l3 j hj)];rw[hcols]at hcx;by_cases hcn:c<P.n
  ·rw[if_pos hcn]at hcx⊢;exact d2 c hcn hcx
  ·rw[if_neg hcn,if_pos (by omega),if_neg];intro hb;have hx':P.fx (T.basis.getD j 0)=true:=hx;rw[P.qhH hb]at hx';cases hx'
 have hz1:Yq P (P.n+1) (QL P.bd (P.n+P.m) T).rows.length (QL P.bd (P.n+P.m) T):=fun j hjb hj hb c hc hcf=>by
  rw[Zi]at hj;rw[Ko (P:=P) hj (l3 j hj)];rw[hcols]at hcf;by_cases hcn:c<P.n
  ·rw[if_pos hcn]at hcf⊢;exact hz j hj hj hb c hcn hcf
  ·rw[if_neg hcn,if_pos (by omega)]at hcf;rw[P.qf4 P.qau]at hcf;cases hcf
 have hpl:∀j,j<T.rows.length→(rowAt (pivot (QL P.bd (P.n+P.m) T) w P.n) j).last=if j=w then -(rowAt T w).last else(rowAt T j).last+(if P.bd (T.basis.getD j 0)=true then 1 else 0)*-(rowAt T w).last:=fun j hj=>by
  rw[Wv (by rw[Zi];exact hj),hw1,hrl w w1,hrl j hj,hcw j hj];have:-(rowAt T w).last/1 = -(rowAt T w).last:=by rw[Rat.div_def,show(1:Rat)⁻¹=1 from Rat.inv_eq_of_mul_eq_one (by grind)];grind
  rw[this]
 have hbs:P.bd ((QL P.bd (P.n+P.m) T).basis.getD w 0)=true:=w2;refine⟨w1,hw1,⟨hT.pivot hwl (by omega) (by rw[hw1];grind),fun j hj hb=>?_,?_,hz1.qc1 hT.on hwl (by omega) hbs (by rw[hca];exact P.qau),by rw[Q2,Zi];exact hl⟩,w,by rw[Q2,Zi];exact w1,?_,?_⟩
 ·rw[Q2,Zi]at hj;rw[hpl j hj];split
  ·grind
  ·rename_i hjw;rw[hT.on.pbas hwl (by omega),if_neg hjw]at hb;have hb':P.bd (T.basis.getD j 0)=true:=hb;rw[if_pos hb'];have:=w4 j hj hb';grind
 ·rw[Q2];exact hd1.pivot hT.on hwl (by omega) (by rw[hca];exact P.qhH P.qau)
 ·rw[hT.on.pbas hwl (by omega),if_pos rfl];exact hca
 ·rw[hpl w w1,if_pos rfl];grind
theorem qbV(h:Tbl P T)(hd:ZR P P.n T.rows.length T)(hz:Yq P P.n T.rows.length T)(hl:T.rows.length=P.m) :
  ∃f b T',YY P.bd (P.n+P.m) f T=some (b,T')∧(b=true→J2 P T')∧(b=false→P.Inf∧(goalAt T' 1).last≠0):=by
 cases hw:V3 P.bd T with
 | none=>exact⟨0,true,T,by simp only[YY,hw],fun _=>⟨h,Vl hw,hd,hz,hl⟩,fun h=>by cases h⟩
 | some w =>
  obtain⟨w1,w2,w3⟩:=qaa h hd hz hl hw;have hcl:=h.on.lens.1;obtain⟨f,⟨T3,r⟩,hc⟩:=qay (g:=1) (art:=P.n+P.m) (bd:=P.bd) (by simp[Prg.gm1]) w3.1.tbl.on w3.1.feas;have hi:=Xv (J:=J1 P (sOf P T)) (K:=K1 P (sOf P T)) (fun T k i hT he hl=>hT.step he hl) f _ T3 r w3 hc;cases hx:qgu (P.n+P.m) T3 with
  | some k =>
   obtain⟨k1,k2⟩:=XN hx;refine⟨f,true,Q6 k T3,by simp only[YY,hw,hcl,hc,hx],fun _=>?_,fun h=>by cases h⟩;have hK:K1 P (sOf P T) T3:=by
    rcases hi with⟨_,_,h⟩|⟨_,_,_,_,h⟩|⟨_,h,_⟩
    ·exact h.1
    ·exact h.1
    ·exact h
   exact hK.drop (by rw[←hK.tbl.on.lens.1];exact k1) k2
  | none =>
   refine⟨f,false,T3,by simp only[YY,hw,hcl,hc,hx],fun h=>(by cases h),fun _=>?_⟩;rcases hi with⟨_,he,h⟩|⟨k,_,he,hle,h⟩|⟨_,_,k,hk,e⟩
   ·exact h.infeas he
   ·exact(h.ended he hle).elim
   ·exact absurd e (XM hx k hk)
def WZ(P:Prg)(f1 f2:Nat)(T:Tab):Option (Nat×Rat) :=
 match qak P.fr P.fx T.rows.length 0 T with
 | (_,some _)=>some (2,0)
 | (T1,none)=>match YY P.bd (P.n+P.m) f1 (qaV P.fr P.bd T1.rows.length 0 T1)with
  | none=>none
  | some (false,_)=>some (2,0)
  | some (true,T3)=>match (List.range T3.cols.length).find? (fun k=>P.fr (T3.cols.getD k 0)&&decide ((goalAt T3 0).co k≠0))with
   | some _=>some (1,0)
   | none=>match ZS P.bd (P.n+P.m) 0 f2 T3 with
    | none=>none
    | some (_,some _)=>some (1,0)
    | some (T4,none)=>some (0,(goalAt T4 0).last)
theorem J2.step(h:J2 P T)(hg:qb1 P P.n 0 T){k i:Nat}(he:YL P.bd T 0=some k)(hl:YO P.bd (P.n+P.m) T k=some i):J2 P (pivot T i k)∧qb1 P P.n 0 (pivot T i k):=by have hon:On P.bd (P.n+P.m+1) P.fm P.one [P.gm] P.n T:=⟨h.tbl.on.good,h.tbl.on.once,fun i hi=>by have:=h.tbl.on.vars.1 i hi;omega,fun i hi=>by have:=h.tbl.on.vars.2 i hi;omega⟩;obtain⟨c1,c2,c3,c4,c5,c6,c7,c8⟩:=Wd (g:=0) (art:=P.n+P.m) hon h.feas he hl;have hd:=h.dead.pivot h.tbl.on c2 c1 (P.qhH c3);exact⟨⟨h.tbl.pivot c2 c1 (Rat.ne_of_lt c5.neg),c7,by rw[Q2];exact hd,h.flat.qc1 h.tbl.on c2 c1 c5.b c3,by rw[Q2];exact h.len⟩,hg.qc1 h.tbl.on (by simp) h.flat c2 c1 c5.b⟩
theorem qbU(h:Tbl P T)(hl:T.rows.length=P.m):∃f1 f2 a v,WZ P f1 f2 T=some (a,v)∧Res P a v:=by
 cases he:qak P.fr P.fx T.rows.length 0 T with
 | mk T1 r =>
 obtain⟨g1,g2,g3⟩:=qmZ T.rows.length 0 T h (fun i hi=>by omega) (by omega) T1 r he;cases r with
 | some i=>exact⟨0,0,2,0,by simp only[WZ,he],.inf (g1.inf g3.1 g3.2.1 g3.2.2.1 g3.2.2.2)⟩
 | none =>
  have hd1:ZR P P.n T1.rows.length T1:=g3;obtain⟨u1,u2,u3,u4⟩:=qnr T1.rows.length 0 T1 g1 hd1 (fun i hi=>by omega) (by omega);obtain⟨f1,b,T3,s1,s2,s3⟩:=qbV u1 (by rw[u2];exact u3) (by rw[u2];exact u4) (by rw[u2,g2];exact hl);cases b with
  | false=>exact⟨f1,0,2,0,by simp only[WZ,he,s1],.inf (s3 rfl).1⟩
  | true =>
   have hJ:=s2 rfl;have hcl:=hJ.tbl.on.lens.1;cases hf:(List.range T3.cols.length).find? (fun k=>P.fr (T3.cols.getD k 0)&&decide ((goalAt T3 0).co k≠0))with
   | some k =>have h1:=List.find?_some hf;have h2:=List.mem_range.1 (List.mem_of_find?_eq_some hf);simp only[Bool.and_eq_true,decide_eq_true_eq]at h1;exact⟨f1,0,1,0,by simp only[WZ,he,s1,hf],.unb (hJ.tbl.quP hJ.feas hJ.dead hJ.flat (by rw[←hcl];exact h2) h1.1 h1.2)⟩
   | none =>
    have hgf:qb1 P P.n 0 T3:=fun k hk hkf=>by rw[List.find?_eq_none]at hf;have:=hf k (List.mem_range.2 (by rw[hcl];exact hk));simp only[Bool.and_eq_true,decide_eq_true_eq,not_and,Decidable.not_not]at this;exact this hkf
    obtain⟨f2,⟨T4,r⟩,hc⟩:=qay (g:=0) (art:=P.n+P.m) (bd:=P.bd) (by simp) hJ.tbl.on hJ.feas;have hi:=Xv (J:=fun T=>J2 P T∧qb1 P P.n 0 T) (K:=fun T=>J2 P T) (fun T k i hT he hl=>⟨fun _=>hT.1.step hT.2 he hl,fun e=>⟨fun e2=>by have h1:=ZJ he;have:=hT.1.tbl.on.vars.2 k (by rw[←hT.1.tbl.on.lens.1];exact h1.1);omega,(hT.1.step hT.2 he hl).1⟩⟩) f2 T3 T4 r ⟨hJ,hgf⟩ hc
    rcases hi with⟨rfl,hen,hj,hg⟩|⟨k,rfl,hen,hle,hj,hg⟩|⟨_,hj,k,hk,e⟩
    ·refine⟨f1,f2,0,(goalAt T4 0).last,by simp only[WZ,he,s1,hf,hc],.opt (hj.tbl.opt hj.feas hj.dead hg fun k hk hb=>?_)⟩;exact Rat.not_lt.1 (Ve hen k (by rw[hj.tbl.on.lens.1];exact hk) hb)
    ·obtain⟨e1,e2,e3,_⟩:=ZJ hen;rw[hj.tbl.on.lens.1]at e1;exact⟨f1,f2,1,0,by simp only[WZ,he,s1,hf,hc],.unb (hj.tbl.unb hj.feas hj.dead e1 (P.qhH e2) (XQ hle) e3)⟩
    ·have:=hj.tbl.on.vars.2 k (by rw[←hj.tbl.on.lens.1];exact hk);omega
end
def Prg.tab(P:Prg):Tab:=⟨(List.range P.m).map (P.n+·),(List.range P.m).map fun i=>⟨P.b i,(List.range P.n).map (P.a i)⟩,List.range P.n,[⟨P.c0,(List.range P.n).map P.c⟩]⟩
theorem qqO:∀(n:Nat) (A:Nat→Vec Rat),(∀i,i<n→∀c,A i c=if c=i then 1 else 0)→det n A≠0:=by
 intro n;induction n with
 | zero=>intro A _;simp[det]
 | succ n ih =>intro A h;refine(Vd (q:=0) (by omega) fun c=>h 0 (by omega) c).2 (ih _ fun i hi c=>?_);simp only[mnr,shv];rw[if_neg (by omega),h (i+1) (by omega)];by_cases e:c=i<;>simp[e]
theorem qgE{n j d:Nat}(h:j<n):(List.range n).getD j d=j:=by simp[List.getD_eq_getElem?_getD,h]
theorem qfk{f:Nat→Rat}{n j:Nat}{d:Rat}:((List.range n).map f).getD j d=if j<n then f j else d:=by by_cases h:j<n<;>simp[List.getD_eq_getElem?_getD,h]
theorem Prg.qrO(P:Prg):Tbl P P.tab:=by
 have hb:∀i,i<P.m→P.tab.basis.getD i 0=P.n+i:=fun i hi=>by simp[Prg.tab,List.getD_eq_getElem?_getD,hi]
 have hc:∀j,j<P.n→P.tab.cols.getD j 0=j:=fun j hj=>qgE hj;have hr:∀i,i<P.m→rowAt P.tab i=⟨P.b i,(List.range P.n).map (P.a i)⟩:=fun i hi=>by simp[Prg.tab,rowAt,List.getD_eq_getElem?_getD,hi]
 have hl:P.tab.rows.length=P.m:=by simp[Prg.tab]
 have hA:∀j,j<P.n+1→∀c,Yx P.tab.cols P.fm P.n P.one j c=if c=j then 1 else 0:=fun j hj c=>by
  simp only[Yx];by_cases hjn:j<P.n
  ·rw[if_pos hjn,hc j hjn];simp only[Prg.fm,hjn,if_true]
  ·rw[if_neg hjn,show j=P.n by omega];rfl
 have hspan:∀(r:Row) (f:Vec Rat),(∀j,j<P.n→r.co j=f j)→r.last=f P.n→(∀c,P.n<c→f c=0)→Span (Yx P.tab.cols P.fm P.n P.one) P.n r f:=fun r f h1 h2 h3 c=>by
  by_cases hcn:c<P.n+1
  ·rw[Jb (j:=c) hcn fun j hj hne=>by rw[hA j hj,if_neg (Ne.symm hne)];grind,hA c hcn,if_pos rfl];simp only[tt];by_cases h:c<P.n
   ·rw[if_pos h,h1 c h];grind
   ·rw[if_neg h,h2,show c=P.n by omega];grind
  ·rw[h3 c (by omega),Jc fun j hj=>by rw[hA j hj,if_neg (by omega)];grind]
 refine⟨⟨⟨by simp[Prg.tab],by simp[Prg.tab],?_,by simp[Prg.tab],?_,?_,?_,?_⟩,⟨?_,?_,?_⟩,?_,?_⟩,?_⟩
 ·intro r h;simp only[Prg.tab,List.mem_map,List.mem_range]at h;obtain⟨i,hi,rfl⟩:=h;simp
 ·intro r h;simp only[Prg.tab,List.mem_singleton]at h;subst h;simp
 ·intro i hi;rw[hl]at hi;rw[hr i hi,hb i hi];refine hspan _ _ (fun j hj=>?_) ?_ fun c hc=>P.qin _ c hc
  ·rw[P.Jj hi,if_pos hj];unfold Row.co;rw[qfk,if_pos hj]
  ·rw[P.Jj hi,if_neg (by omega),if_pos rfl]
 ·intro i hi;have:i=0:=by simp at hi;exact hi
  subst this;refine hspan ⟨P.c0,(List.range P.n).map P.c⟩ P.gm (fun j hj=>?_) ?_ fun c hc=>P.qix c hc
  ·unfold Row.co;rw[qfk,if_pos hj];simp only[Prg.gm,hj,if_true]
  ·simp only[Prg.gm,Nat.lt_irrefl,if_false,if_true]
 ·exact qqO _ _ hA
 ·intro i j hi hj e;rw[hl]at hi hj;rw[hb i hi,hb j hj]at e;omega
 ·intro i j hi hj e;rw[hc i hi,hc j hj]at e;exact e
 ·intro i j hi hj e;rw[hl]at hi;rw[hb i hi,hc j hj]at e;omega
 ·intro i hi;rw[hl]at hi;rw[hb i hi];omega
 ·intro j hj;rw[hc j hj];omega
 ·intro v hv;by_cases h:v<P.n
  ·exact .inr ⟨v,h,hc v h⟩
  ·exact .inl ⟨v-P.n,by rw[hl];omega,by rw[hb _ (by omega)];omega⟩
structure Szd(P:Prg)(M C:Nat):Prop where
 i:∃(A:Nat→Nat→Int) (B:Nat→Int),∀i,i<P.m→(∀j,j<P.n→P.a i j=(A i j:Rat)∧(A i j).natAbs≤M)∧P.b i=(B i:Rat)∧(B i).natAbs≤M
 g:∃(δ:Int) (f:Nat→Int),δ≠0∧δ.natAbs≤C∧∀c,c<P.n+1→(δ:Rat)*P.gm c=(f c:Rat)∧(f c).natAbs≤C
 hM:1≤M
 hC:1≤C
def Prg.qkl(P:Prg)(M:Nat):Nat:=((P.n+2)*M)^(P.n+1)*((P.n+2)*M)
def Prg.lim(P:Prg)(M C:Nat):Nat:=((P.n+2)*M)^(P.n+1)*((P.n+2)*(M*C))
def fmI(n m:Nat)(A:Nat→Nat→Int)(B:Nat→Int)(v:Nat):Vec Int:=fun c=>if v<n then(if c=v then 1 else 0)else if v<n+m then(if c<n then A (v-n) c else if c=n then B (v-n)else 0)else 0
def qpZ(n m:Nat)(A:Nat→Nat→Int)(B:Nat→Int)(s:Nat→Bool)(v:Nat):Vec Int:=fun c=>match c with
 | 0=>if v=n+m then 1 else if s v=true then 1 else 0
 | c+1=>fmI n m A B v c
def Sz(L:Nat)(x:Rat):Prop:=x.num.natAbs≤L∧x.den≤L
section
variable{P:Prg}{M C:Nat}
theorem qe3{A:Nat→Nat→Int}{B:Nat→Int}(h:∀i,i<P.m→(∀j,j<P.n→P.a i j=(A i j:Rat)∧(A i j).natAbs≤M)∧P.b i=(B i:Rat)∧(B i).natAbs≤M)(v:Nat):P.fm v=Yn (fmI P.n P.m A B v):=by
 funext c;simp only[Prg.fm,Yn,fmI];by_cases h1:v<P.n
 ·rw[if_pos h1,if_pos h1];split<;>simp
 ·rw[if_neg h1,if_neg h1];by_cases h2:v<P.n+P.m
  ·rw[if_pos h2,if_pos h2];obtain⟨g1,g2,g3⟩:=h (v-P.n) (by omega);by_cases h3:c<P.n
   ·rw[if_pos h3,if_pos h3];exact(g1 c h3).1
   ·rw[if_neg h3,if_neg h3];split
    ·exact g2
    ·simp
  ·rw[if_neg h2,if_neg h2];simp
theorem qm1{A:Nat→Nat→Int}{B:Nat→Int}(hM:1≤M)(h:∀i,i<P.m→(∀j,j<P.n→P.a i j=(A i j:Rat)∧(A i j).natAbs≤M)∧P.b i=(B i:Rat)∧(B i).natAbs≤M)(v c:Nat):(fmI P.n P.m A B v c).natAbs≤M:=by
 simp only[fmI];by_cases h1:v<P.n
 ·rw[if_pos h1];split<;>simp<;>omega
 ·rw[if_neg h1];by_cases h2:v<P.n+P.m
  ·rw[if_pos h2];obtain⟨g1,g2,g3⟩:=h (v-P.n) (by omega);by_cases h3:c<P.n
   ·rw[if_pos h3];exact(g1 c h3).2
   ·rw[if_neg h3];split
    ·exact g3
    ·simp
  ·rw[if_neg h2];simp
theorem qiM{x:Rat}{k m:Nat}(hk:k≤(P.n+2)*M)(hk1:1≤k)(hm:m≤P.n+1)(h:x.num.natAbs≤k^m*k∧x.den≤k^m*(1:Int).natAbs):Sz (P.qkl M) x:=by have h1:k^m≤((P.n+2)*M)^(P.n+1):=Nat.le_trans (Nat.pow_le_pow_left hk m) (Nat.pow_le_pow_right (Nat.le_trans hk1 hk) hm);refine⟨Nat.le_trans h.1 (Nat.mul_le_mul h1 hk),Nat.le_trans h.2 (Nat.mul_le_mul h1 ?_)⟩;exact Nat.le_trans (by simp;exact hk1) hk
theorem qbv{x:Rat}{k m a b:Nat}(hs:Szd P M C)(hk:k≤(P.n+2)*M)(hk1:1≤k)(hm:m≤P.n+1)(ha:a≤(P.n+2)*C)(hb:b≤C)(h:x.num.natAbs≤k^m*a∧x.den≤k^m*b):Sz (P.lim M C) x:=by have h1:k^m≤((P.n+2)*M)^(P.n+1):=Nat.le_trans (Nat.pow_le_pow_left hk m) (Nat.pow_le_pow_right (Nat.le_trans hk1 hk) hm);have h3:C≤M*C:=Nat.le_mul_of_pos_left _ hs.hM;have h2:(P.n+2)*C≤(P.n+2)*(M*C):=Nat.mul_le_mul_left _ h3;have h4:M*C≤(P.n+2)*(M*C):=Nat.le_mul_of_pos_left _ (by omega);exact⟨Nat.le_trans h.1 (Nat.mul_le_mul h1 (Nat.le_trans ha h2)),Nat.le_trans h.2 (Nat.mul_le_mul h1 (Nat.le_trans hb (Nat.le_trans h3 h4)))⟩
theorem qbG(P:Prg):P.one=Yn fun c=>if c=P.n then 1 else 0:=by funext c;simp only[Prg.one,Yn];split<;>simp
theorem qiw{δ:Int}{f:Nat→Int}(h:∀c,c<P.n+1→(δ:Rat)*P.gm c=(f c:Rat)∧(f c).natAbs≤C)(c:Nat):(δ:Rat)*P.gm c=((if c<P.n+1 then f c else 0:Int):Rat):=by
 by_cases hc:c<P.n+1
 ·rw[if_pos hc];exact(h c hc).1
 ·rw[if_neg hc,P.qix c (by omega)];simp
theorem Tbl.size{T:Tab}(h:Tbl P T)(hs:Szd P M C):(∀i,i<T.rows.length→∀p,p<P.n+1→Sz (P.qkl M) (tt P.n (rowAt T i) p))∧∀p,p<P.n+1→Sz (P.lim M C) (tt P.n (goalAt T 0) p):=by
 obtain⟨A,B,hi⟩:=hs.i;obtain⟨δ,f,hδ,hδC,hg⟩:=hs.g;have hF:P.fm=fun v=>Yn (fmI P.n P.m A B v):=funext fun v=>qe3 hi v;have hB:∀v,nrm (P.n+1) (fmI P.n P.m A B v)≤(P.n+1)*M:=fun v=>qaO fun c _=>qm1 hs.hM hi v c;have hd:=h.on.good.dt;have hM:=hs.hM;have hB1:1≤(P.n+1)*M:=Nat.le_trans hM (Nat.le_mul_of_pos_left _ (by omega));have hk:(P.n+1)*M≤(P.n+2)*M:=Nat.mul_le_mul_right _ (by omega);rw[hF,qbG]at hd;refine⟨fun i hil p hp=>?_,fun p hp=>?_⟩
 ·have hsp:=h.on.good.row i hil;rw[hF,qbG]at hsp;exact qiM hk hB1 (by omega) (VT (δ:=1) (fi:=fmI P.n P.m A B (T.basis.getD i 0)) hB1 hB VJ hd (by decide) (fun c=>by simp only[Yn];grind) (hB _) hsp hp)
 ·have hsp:=h.on.good.goal 0 (by simp);rw[hF,qbG]at hsp;refine qbv hs hk hB1 (by omega) (a:=(P.n+1)*C) (Nat.mul_le_mul_right _ (by omega)) hδC (VT (δ:=δ) (f:=P.gm) (fi:=fun c=>if c<P.n+1 then f c else 0) hB1 hB VJ hd hδ (qiw hg) (qaO fun c hc=>?_) hsp hp);simp only[hc,if_true];exact(hg c hc).2
theorem qhn.size{s:Nat→Bool}{T:Tab}(h:qhn P s T)(hs:Szd P M C):(∀i,i<T.rows.length→∀p,p<P.n+1+1→Sz (P.qkl M) (tt (P.n+1) (rowAt T i) p))∧∀g,g<2→∀p,p<P.n+1+1→Sz (P.lim M C) (tt (P.n+1) (goalAt T g) p):=by
 obtain⟨A,B,hi⟩:=hs.i;obtain⟨δ,f,hδ,hδC,hg⟩:=hs.g;have hF:P.fm1 s=fun v=>Yn (qpZ P.n P.m A B s v):=funext fun v=>funext fun c=>by
  cases c with
  | zero=>simp only[Prg.fm1,Yn,qpZ];split<;>(try split)<;>simp
  | succ c=>simp only[Prg.fm1,Yn,qpZ];rw[qe3 hi v];rfl
 have hB:∀v,nrm (P.n+1+1) (qpZ P.n P.m A B s v)≤(P.n+2)*M:=fun v=>qaO fun c _=>by
  cases c with
  | zero=>have:=hs.hM;simp only[qpZ];split<;>(try split)<;>simp<;>omega
  | succ c=>exact qm1 hs.hM hi v c
 have h0:Yu 0 P.one=Yn fun c=>if c=P.n+1 then 1 else 0:=funext fun c=>by
  cases c with
  | zero=>simp[Yu,Yn]
  | succ c=>simp only[Yu,Yn,Prg.one];by_cases e:c=P.n<;>simp[e]
 have hd:=h.on.good.dt;have hM:=hs.hM;have hC:=hs.hC;have hB1:1≤(P.n+2)*M:=Nat.le_trans hM (Nat.le_mul_of_pos_left _ (by omega));rw[hF,h0]at hd;refine⟨fun i hil p hp=>?_,fun g hg2 p hp=>?_⟩
 ·have hsp:=h.on.good.row i hil;rw[hF,h0]at hsp;exact qiM (Nat.le_refl _) hB1 (Nat.le_refl _) (VT (δ:=1) (fi:=qpZ P.n P.m A B s (T.basis.getD i 0)) hB1 hB VJ hd (by decide) (fun c=>by simp only[Yn];grind) (hB _) hsp hp)
 ·have hsp:=h.on.good.goal g (by simp[Prg.gm1];omega);rw[hF,h0]at hsp;have hg3:g=0∨g=1:=by omega
  rcases hg3 with rfl|rfl
  ·refine qbv hs (Nat.le_refl _) hB1 (Nat.le_refl _) (a:=(P.n+2)*C) (Nat.le_refl _) hδC (VT (δ:=δ) (f:=Yu 0 P.gm) (fi:=fun c=>match c with|0=>0|c+1=>if c<P.n+1 then f c else 0) hB1 hB VJ hd hδ (fun c=>?_) (qaO fun c hc=>?_) hsp hp)
   ·cases c with
    | zero=>simp only[Yu];grind
    | succ c=>exact qiw hg c
   ·cases c with
    | zero=>simp
    | succ c =>
          have:c<P.n+1:=by omega
          simp only[this,if_true];exact(hg c this).2
  ·refine qbv hs (Nat.le_refl _) hB1 (Nat.le_refl _) (a:=(P.n+2)*C) (b:=(1:Int).natAbs) (Nat.le_refl _) (by simp;exact hC) (VT (δ:=1) (f:=Yu (-1) fun _=>0) (fi:=fun c=>match c with|0=>-1|c+1=>0) hB1 hB VJ hd (by decide) (fun c=>?_) (qaO fun c hc=>?_) hsp hp)
   ·cases c with
    | zero=>simp only[Yu];rw[show((-1:Int):Rat) = -1 from rfl,show((1:Int):Rat)=1 from rfl];grind
    | succ c=>simp[Yu]
   ·cases c with
    | zero=>simp;exact hC
    | succ c=>simp
end
end Go.LP
namespace Go.AX.Run
open Go.RowKit Go.Proofs Go.AX Go.Num Tryz
section
attribute [local simp] Qq Qh Qk Qr QR QU QO Q4 QX QP QK Zd alen
def oI:Option Nat→Int|none=>-1|some k=>(k:Int)
def Tb.lp(T:Tb):LP.Tab:=⟨T.basis,T.rows.map fun r=>⟨r.1,r.2⟩,T.cols,T.goals.map fun r=>⟨r.1,r.2⟩⟩
theorem qaK(T:Tb)(i:Nat):LP.rowAt T.lp i=⟨(T.row i).1,(T.row i).2⟩:=by simp only[LP.rowAt,Tb.lp,Tb.row,List.getD_eq_getElem?_getD,List.getElem?_map];cases T.rows[i]?<;>rfl
theorem Vi(T:Tb)(i:Nat):LP.goalAt T.lp i=⟨(T.goal i).1,(T.goal i).2⟩:=by simp only[LP.goalAt,Tb.lp,Tb.goal,List.getD_eq_getElem?_getD,List.getElem?_map];cases T.goals[i]?<;>rfl
theorem qam(T:Tb)(i k:Nat):(LP.rowAt T.lp i).co k=(T.row i).2.getD k 0:=by rw[qaK];rfl
theorem qby(T:Tb)(i:Nat):(LP.rowAt T.lp i).last=(T.row i).1:=by rw[qaK]
theorem qiP(T:Tb)(i k:Nat):(LP.goalAt T.lp i).co k=(T.goal i).2.getD k 0:=by rw[Vi];rfl
theorem Z4(T:Tb):T.lp.rows.length=T.rows.length:=by simp[Tb.lp]
structure Fit(n:Nat)(F:List Fct)(T:Tb):Prop where
 va:∀i,i<T.cols.length→T.cols.getD i 0≤n+F.length
 n:n≤1000
 f:F.length≤1000
 c:T.cols.length≤1000
 r:T.rows.length≤1000
 g:T.goals.length≤1000
 vb:∀i,i<T.basis.length→T.basis.getD i 0≤10000
 vc:∀i,i<T.cols.length→T.cols.getD i 0≤10000
 sr:∀j,j<T.rows.length→szq (T.row j).1≤1000∧∀q∈(T.row j).2,szq q≤1000
 sg:∀j,j<T.goals.length→szq (T.goal j).1≤1510∧∀q∈(T.goal j).2,szq q≤1510
theorem JI{n k:Nat}{p:Nat→Bool}(hk:k<n)(hp:p k=true)(h:∀j,j<k→p j=false):(List.range n).find? p=some k:=by rw[List.find?_range_eq_some];exact⟨hp,List.mem_range.2 hk,fun j hj=>by rw[h j hj];rfl⟩
theorem JH{n:Nat}{p:Nat→Bool}(h:∀j,j<n→p j=false):(List.range n).find? p=none:=by rw[List.find?_eq_none];intro j hj;rw[h j (List.mem_range.1 hj)];simp
def Kh(p:Nat→Bool)(j:Nat):Prop:=∀j',j'<j→p j'=false
theorem Kh.zero(p:Nat→Bool):Kh p 0:=fun j h=>by omega
theorem Kh.succ{p:Nat→Bool}{j:Nat}(h:Kh p j)(hj:p j=false):Kh p (j+1):=fun j' h'=>by
 by_cases e:j'=j
 ·rw[e];exact hj
 ·exact h j' (by omega)
theorem ZK{l:List Nat}{i:Nat}(h:i<l.length):l.getD i 0=l[i]:=by rw[List.getD_eq_getElem?_getD,List.getElem?_eq_getElem h];rfl
theorem Jk{l:List Rat}{i:Nat}(h:i<l.length):l.getD i 0=l[i]:=by rw[List.getD_eq_getElem?_getD,List.getElem?_eq_getElem h];rfl
def Kind(H:Qf)(N:Nat)(f:Nat)(fs cs:List AV)(kb:Nat→Bool):Prop:=∀v,v≤10000→Qc prog f (fs++AV.v (.int .i64 (v:Nat))::cs) H N fun r H' N'=>r=.v (.bool (kb v))∧H'=H∧N'=N
section
variable{n:Nat}{F:List Fct}{H:Qf}{N:Nat}{loc:Loc→Nat}{T:Tb}
def qqJ(kb:Nat→Bool)(T:Tb)(i k:Nat):Bool:=kb (T.cols.getD k 0)&&decide ((LP.rowAt T.lp i).co k≠0)
theorem qhY(kb:Nat→Bool)(T:Tb)(i:Nat):LP.We kb T.lp i=(List.range T.cols.length).find? (qqJ kb T i):=rfl
theorem qcm(hR:Rep n F H N loc T)(hF:Fit n F T)(i:Nat)(hi:i<T.rows.length){f:Nat}{fs cs:List AV}{kb:Nat→Bool}(hk:Kind H N f fs cs kb) :
  Qc prog 125 [.ptr (loc .tab) 7 0 0,.v (.int .i64 (i:Nat)),.fn (.func f) fs cs] H N fun r H' N'=>r=.v (.int .i64 (oI (LP.We kb T.lp i)))∧H'=H∧N'=N:=by
 refine Qc.body func125 ntmps125 ?_;have htab:=hR.tab;unfold tref Z5 at htab;obtain⟨capr,tr,hrows⟩:=hR.rows;obtain⟨capk,tk,hcols⟩:=hR.cols;obtain⟨capc,tc,hrc⟩:=hR.rc i hi;have hc1000:=hF.c;have hrl:=hR.hrl i hi;have hrg:=ZF T loc tr i hi;unfold Yb at hrg;simp[htab];refine Qp.of (fun(j:Nat) st=>j≤T.cols.length∧Kh (qqJ kb T i) j∧∃env,st=⟨38,env,H,N⟩∧env 0=.ptr (loc .tab) 7 0 0∧env 1=.v (.int .i64 (i:Nat))∧env 2=.fn (.func f) fs cs∧env 12=.ref (loc .cols) 1 0 T.cols.length none∧env 13=.v (.int .i64 (T.cols.length:Nat))∧env 14=.v (.int .i64 (j:Nat)))
  (fun j=>T.cols.length-j) 0 ⟨by omega,Kh.zero _,_,rfl,by simp,by simp,by simp,by simp,by simp,by simp⟩ ?_
 rintro j _ ⟨hj,hno,env,rfl,g0,g1,g2,g12,g13,g14⟩;by_cases hjN:j<T.cols.length
 ·have hv:=hF.vc j hjN;have hjr:j<(T.row i).2.length:=by omega
  have e1:=ZK hjN;have e2:=Jk hjr;rw[e1]at hv;simp[g2,g12,g13,g14,hjN,hcols,Zq];refine(hk _ hv).mono ?_;rintro r H' N' ⟨rfl,rfl,rfl⟩;cases hb:kb T.cols[j]with
  | false =>simp[-Qa,-Qb,undef,g0,g1,g2,g12,g13,g14,QH (show j+1<9223372036854775808 by omega)];exact⟨j+1,⟨by omega,hno.succ (by unfold qqJ;rw[e1,hb];rfl),rfl⟩,by omega⟩
  | true =>
   simp[-Qa,-Qb,g0,g1,g2,g12,g13,g14,htab,hrows,hrg,hi,hrc,hjr,hjN,ZI,Kz];by_cases h0:(T.row i).2[j]=0
   ·simp[h0,QH (show j+1<9223372036854775808 by omega)];exact⟨j+1,⟨by omega,hno.succ (by unfold qqJ;rw[qam,e2,h0];simp),rfl⟩,by omega⟩
   ·simp[h0];rw[qhY,JI (k:=j) hjN (by unfold qqJ;rw[qam,e1,hb,e2];simp[h0]) fun j' h'=>hno j' h'];rfl
 ·have hjE:j=T.cols.length:=by omega
  subst hjE;simp[g13,g14];rw[qhY,JH fun j' h'=>hno j' h'];rfl
end
end
section
attribute [local simp] Qq Qh Qk Qr QR QU QO Q4 QX QP QK Zd alen
section
variable{n:Nat}{F:List Fct}{H:Qf}{N:Nat}{loc:Loc→Nat}{T:Tb}
def kdP(kb:Nat→Bool)(l:List Nat)(k:Nat):Bool:=kb (l.getD k 0)
theorem qcH(hR:Rep n F H N loc T)(hF:Fit n F T){f:Nat}{fs cs:List AV}{kb:Nat→Bool}(hk:Kind H N f fs cs kb) :
  Qc prog 124 [.ref (loc .cols) 1 0 T.cols.length none,.fn (.func f) fs cs] H N fun r H' N'=>r=.v (.int .i64 (oI ((List.range T.cols.length).find? (kdP kb T.cols))))∧H'=H∧N'=N:=by
 refine Qc.body func124 ntmps124 ?_;obtain⟨capk,tk,hcols⟩:=hR.cols;have hc1000:=hF.c;simp;refine Qp.of (fun(j:Nat) st=>j≤T.cols.length∧Kh (kdP kb T.cols) j∧∃env,st=⟨19,env,H,N⟩∧env 0=.ref (loc .cols) 1 0 T.cols.length none∧env 1=.fn (.func f) fs cs∧env 7=.v (.int .i64 (T.cols.length:Nat))∧env 8=.v (.int .i64 (j:Nat)))
  (fun j=>T.cols.length-j) 0 ⟨by omega,Kh.zero _,_,rfl,by simp,by simp,by simp,by simp⟩ ?_
 rintro j _ ⟨hj,hno,env,rfl,g0,g1,g7,g8⟩;by_cases hjN:j<T.cols.length
 ·have hv:=hF.vc j hjN;have e1:=ZK hjN;rw[e1]at hv;simp[g0,g1,g7,g8,hjN,hcols,Zq];refine(hk _ hv).mono ?_;rintro r H' N' ⟨rfl,rfl,rfl⟩;cases hb:kb T.cols[j]with
  | false =>simp[g0,g1,g7,g8,QH (show j+1<9223372036854775808 by omega)];exact⟨j+1,⟨by omega,hno.succ (by unfold kdP;rw[e1,hb]),rfl⟩,by omega⟩
  | true =>simp[g0,g1,g7,g8];rw[JI (k:=j) hjN (by unfold kdP;rw[e1,hb]) fun j' h'=>hno j' h'];rfl
 ·have hjE:j=T.cols.length:=by omega
  subst hjE;simp[g7,g8];rw[JH fun j' h'=>hno j' h'];rfl
def eqP(v:Nat)(l:List Nat)(k:Nat):Bool:=decide (l.getD k 0=v)
theorem qlw(hR:Rep n F H N loc T)(hF:Fit n F T)(v:Nat) :
  Qc prog 132 [.ref (loc .cols) 1 0 T.cols.length none,.v (.int .i64 (v:Nat))] H N fun r H' N'=>r=.v (.int .i64 (oI (LP.qgu v T.lp)))∧H'=H∧N'=N:=by
 refine Qc.body func132 ntmps132 ?_;obtain⟨capk,tk,hcols⟩:=hR.cols;have hc1000:=hF.c;have hI:LP.qgu v T.lp=(List.range T.cols.length).find? (eqP v T.cols):=rfl;simp;refine Qp.of (fun(j:Nat) st=>j≤T.cols.length∧Kh (eqP v T.cols) j∧∃env,st=⟨19,env,H,N⟩∧env 0=.ref (loc .cols) 1 0 T.cols.length none∧env 1=.v (.int .i64 (v:Nat))∧env 7=.v (.int .i64 (T.cols.length:Nat))∧env 8=.v (.int .i64 (j:Nat)))
  (fun j=>T.cols.length-j) 0 ⟨by omega,Kh.zero _,_,rfl,by simp,by simp,by simp,by simp⟩ ?_
 rintro j _ ⟨hj,hno,env,rfl,g0,g1,g7,g8⟩;by_cases hjN:j<T.cols.length
 ·have e1:=ZK hjN;by_cases he:v=T.cols[j]
  ·simp[g0,g1,g7,g8,hjN,hcols,Zq,he];rw[←he,hI,JI (k:=j) hjN (by unfold eqP;rw[e1,he];simp) fun j' h'=>hno j' h'];rfl
  ·have he2:¬(v:Int)=(T.cols[j]:Int):=by omega
   simp[g0,g1,g7,g8,hjN,hcols,Zq,he2,QH (show j+1<9223372036854775808 by omega)];exact⟨j+1,⟨by omega,hno.succ (by unfold eqP;rw[e1];simp;exact fun h=>he h.symm),rfl⟩,by omega⟩
 ·have hjE:j=T.cols.length:=by omega
  subst hjE;simp[g7,g8];rw[hI,JH fun j' h'=>hno j' h'];rfl
theorem Vf{bd:Nat→Bool}{cols:List Nat}{co:Nat→Rat}{k:Nat}(h:¬(bd (cols.getD k 0)=true∧0<co k)):LP.YB bd cols co (k+1)=LP.YB bd cols co k:=by
 simp only[LP.YB];split
 ·rename_i h0;rw[if_neg h,h0]
 ·rename_i b h0;rw[if_neg fun hh=>h ⟨hh.1,hh.2.1⟩,h0]
theorem qd3{bd:Nat→Bool}{cols:List Nat}{co:Nat→Rat}{k:Nat}(h:bd (cols.getD k 0)=true∧0<co k):LP.YB bd cols co (k+1)=match LP.YB bd cols co k with
  | none=>some k
  | some b=>if cols.getD k 0<cols.getD b 0 then some k else some b:=by
 simp only[LP.YB];cases LP.YB bd cols co k with
 | none=>exact if_pos h
 | some b=>simp only[h.1,h.2,true_and]
theorem qd4(hR:Rep n F H N loc T)(hF:Fit n F T)(g:Nat)(hg:g<T.goals.length) :
  Qc prog 168 [.ptr (loc .tab) 7 0 0,.ptr (loc (.gp g)) 2 0 0] H N fun r H' N'=>r=.v (.int .i64 (oI (LP.YL (Qi n F) T.lp g)))∧H'=H∧N'=N:=by
 refine Qc.body func168 ntmps168 ?_;have htab0:=hR.tab;have hbd:=fun v hv=>JF (N:=N) htab0 (hR.lt .tab trivial) (by have:=hF.n;omega) (by have:=hF.f;omega) v hv;have htab:=hR.tab;unfold tref Z5 at htab;obtain⟨capk,tk,hcols⟩:=hR.cols;obtain⟨capp,tp,hgp⟩:=hR.gp g hg;obtain⟨capc,tc,hgc⟩:=hR.gc g hg;have hgl:=hR.hgl g hg;have hc1000:=hF.c;unfold Yb at hgp;have hE:LP.YL (Qi n F) T.lp g=LP.YB (Qi n F) T.cols (fun k=>(T.goal g).2.getD k 0) T.cols.length:=by unfold LP.YL;rw[Vi];rfl
 generalize hco:(fun k=>(T.goal g).2.getD k 0)=co at hE;have hco':∀k,(T.goal g).2.getD k 0=co k:=fun k=>by rw[←hco]
 simp[htab];refine Qp.of (fun(j:Nat) st=>j≤T.cols.length∧∃env,st=⟨60,env,H,N⟩∧env 0=.ptr (loc .tab) 7 0 0∧env 1=.ptr (loc (.gp g)) 2 0 0∧env 5=.v (.int .i64 (oI (LP.YB (Qi n F) T.cols co j)))∧env 11=.ref (loc .cols) 1 0 T.cols.length none∧env 12=.v (.int .i64 (T.cols.length:Nat))∧env 13=.v (.int .i64 (j:Nat)))
  (fun j=>T.cols.length-j) 0 ⟨by omega,_,rfl,by simp,by simp,by simp[LP.YB,oI],by simp,by simp,by simp⟩ ?_
 rintro j _ ⟨hj,env,rfl,g0,g1,g5,g11,g12,g13⟩;by_cases hjN:j<T.cols.length
 ·have hv:=hF.vc j hjN;have hjg:j<(T.goal g).2.length:=by omega
  have e1:=ZK hjN;have e2:=(hco' j).symm.trans (Jk hjg);rw[e1]at hv;simp[g0,g5,g11,g12,g13,hjN,hcols,Zq];refine(hbd _ (by omega)).mono ?_;rintro r H' N' ⟨rfl,rfl,rfl⟩;cases hb:Qi n F T.cols[j]with
  | false =>simp[-Qa,-Qb,undef,g0,g1,g5,g11,g12,g13,QH (show j+1<9223372036854775808 by omega)];exact⟨j+1,⟨by omega,by rw[Vf (fun h=>by rw[e1,hb]at h;cases h.1)],rfl⟩,by omega⟩
  | true =>
   by_cases h0:(T.goal g).2[j]=0
   ·simp[-Qa,-Qb,undef,g0,g1,g5,g11,g12,g13,hgp,hgc,hjg,hjN,ZI,Kz,h0,QH (show j+1<9223372036854775808 by omega)];exact⟨j+1,⟨by omega,by rw[Vf (fun h=>by rw[e2,h0]at h;exact absurd h.2 (by decide))],rfl⟩,by omega⟩
   ·simp[-Qa,-Qb,g1,hgp,hgc,hjg,hjN,ZI,Kz,h0];refine Qc.pv (ZZ (T.goal g).2[j]) (by simp[Qn]) rfl ?_;by_cases hn:(T.goal g).2[j].num<0
    ·have hn':=ZL.1 hn;simp[-Qa,-Qb,undef,g0,g1,g5,g11,g12,g13,hn,QH (show j+1<9223372036854775808 by omega)];exact⟨j+1,⟨by omega,by rw[Vf (fun h=>by rw[e2]at h;have:=h.2;grind)],rfl⟩,by omega⟩
    ·have hn':¬(T.goal g).2[j]<0:=fun h=>hn (ZL.2 h);have hp:Qi n F (T.cols.getD j 0)=true∧0<co j:=⟨by rw[e1,hb],by rw[e2];grind⟩;have ht:=qd3 hp;cases ho:LP.YB (Qi n F) T.cols co j with
     | none =>rw[ho]at ht g5;simp[-Qa,-Qb,undef,g0,g1,g5,g11,g12,g13,hn,oI,QH (show j+1<9223372036854775808 by omega)];exact⟨j+1,⟨by omega,by rw[ht],rfl⟩,by omega⟩
     | some b =>
      rw[ho]at ht g5;replace ht:LP.YB (Qi n F) T.cols co (j+1)=if T.cols.getD j 0<T.cols.getD b 0 then some j else some b:=ht
      have hb2:=(LP.ZJ ho).1;have hbN:b<T.cols.length:=by omega
      have eb:=ZK hbN;rw[eb,e1]at ht;by_cases hlt:T.cols[j]<T.cols[b]
      ·rw[if_pos hlt]at ht;simp[-Qa,-Qb,g0,g1,g5,g11,g12,g13,hn,oI,htab,hcols,hbN,Zq,hlt,QH (show j+1<9223372036854775808 by omega),show ¬(b:Int)<0 by omega];exact⟨j+1,⟨by omega,by rw[ht],rfl⟩,by omega⟩
      ·rw[if_neg hlt]at ht;simp[-Qa,-Qb,g0,g1,g5,g11,g12,g13,hn,oI,htab,hcols,hbN,Zq,hlt,QH (show j+1<9223372036854775808 by omega),show ¬(b:Int)<0 by omega];exact⟨j+1,⟨by omega,by rw[ht],rfl⟩,by omega⟩
 ·have hjE:j=T.cols.length:=by omega
  subst hjE;simp[g12,g13,g5,hE]
theorem qpC(b:Rat):szq b⁻¹≤szq b:=by
 unfold szq;rw[Rat.num_inv,Rat.den_inv];by_cases h:b.num=0
 ·rw[if_pos h,h];simp only[Int.sign_zero,Int.zero_mul,Int.natAbs_zero];have e0:nd 0=1:=Zo (by omega);have e1:nd 1=1:=Zo (by omega);have:=YC b.den;rw[e0,e1];omega
 ·rw[if_neg h];have:(b.num.sign*(b.den:Int)).natAbs=b.den:=by rw[Int.natAbs_mul,Int.natAbs_sign_of_ne_zero h,Int.natAbs_natCast,Nat.one_mul]
  rw[this];omega
theorem qpB(a b:Rat):szq (a/b)≤szq a+szq b:=by rw[Rat.div_def];have h1:=qey a b⁻¹;have h2:=qpC b;omega
def lvI(o:Option (Nat×Rat)):Int:=match o with|none=>-1|some (b,_)=>(b:Int)
def lvQ(o:Option (Nat×Rat)):AV:=match o with|none=>.v (.string { data:=#[] })|some (_,l)=>rs l
theorem XT{bd:Nat→Bool}{art:Nat}{basis:List Nat}{la a:Nat→Rat}{i:Nat}(h:¬(bd (basis.getD i 0)=true∧a i<0)):LP.ZX bd art basis la a (i+1)=LP.ZX bd art basis la a i:=by
 simp only[LP.ZX];cases LP.ZX bd art basis la a i with
 | none=>exact if_neg h
 | some p=>exact if_neg h
theorem qef{bd:Nat→Bool}{art:Nat}{basis:List Nat}{la a:Nat→Rat}{i:Nat}(h:bd (basis.getD i 0)=true∧a i<0):LP.ZX bd art basis la a (i+1)=match LP.ZX bd art basis la a i with
  | none=>some (i,la i / -a i)
  | some (b,l)=>if la i / -a i<l then some (i,la i / -a i)else if la i / -a i=l∧(basis.getD i 0=art∨(basis.getD b 0≠art∧basis.getD i 0<basis.getD b 0))then some (i,l)else some (b,l):=by
 simp only[LP.ZX];cases LP.ZX bd art basis la a i with
 | none=>exact if_pos h
 | some p=>exact if_pos h
theorem qgv(hR:Rep n F H N loc T)(hF:Fit n F T)(k:Nat)(hk:k<T.cols.length) :
  Qc prog 169 [.ptr (loc .tab) 7 0 0,.v (.int .i64 (k:Nat))] H N fun r H' N'=>r=.v (.int .i64 (oI (LP.YO (Qi n F) (n+F.length) T.lp k)))∧H'=H∧N'=N:=by
 refine Qc.body func169 ntmps169 ?_;have htab0:=hR.tab;have hn1:=hF.n;have hf1:=hF.f;have hr1:=hF.r;have hbd:=fun v hv=>JF (N:=N) htab0 (hR.lt .tab trivial) (by omega) (by omega) v hv;have hart:=Yt (N:=N) htab0 (hR.lt .tab trivial) (by omega) (by omega);have hcal:Calc H (loc .tab) 7:=Ju htab0;have htab:=hR.tab;unfold tref Z5 at htab;obtain⟨capr,tr,hrows⟩:=hR.rows;obtain⟨capb,tb,hbas⟩:=hR.basis;have hbl:=hR.hbl;have ltab:=hR.lt .tab trivial;have lrow:=hR.lt .rows trivial;have lbas:=hR.lt .basis trivial;have hE:LP.YO (Qi n F) (n+F.length) T.lp k=(LP.ZX (Qi n F) (n+F.length) T.basis (fun i=>(T.row i).1) (fun i=>(T.row i).2.getD k 0) T.rows.length).map (·.1):=by unfold LP.YO;simp only[qby,qam,Z4];rfl
 have hgI:∀o:Option (Nat×Rat),oI (o.map (·.1))=lvI o:=fun o=>by cases o<;>rfl
 generalize hla:(fun i=>(T.row i).1)=la at hE;generalize hco:(fun i=>(T.row i).2.getD k 0)=co at hE;have hla':∀i,(T.row i).1=la i:=fun i=>by rw[←hla]
 have hco':∀i,(T.row i).2.getD k 0=co i:=fun i=>by rw[←hco]
 have hqs:∀i,i<T.rows.length→szq (la i / -co i)≤2000:=fun i hi=>by
  have h1:=(hF.sr i hi).1;have h2:szq (co i)≤1000:=by
   have hkl:k<(T.row i).2.length:=by rw[hR.hrl i hi];exact hk
   rw[←hco' i,Jk hkl];exact(hF.sr i hi).2 _ (List.getElem_mem _)
  rw[hla']at h1;have:=qpB (la i) (-co i);rw[Kb]at this;omega
 simp[htab];refine Qp.of (fun(j:Nat) st=>j≤T.rows.length∧(∀b l,LP.ZX (Qi n F) (n+F.length) T.basis la co j=some (b,l)→szq l≤2000)∧∃env,st=⟨104,env,H,N⟩∧env 0=.ptr (loc .tab) 7 0 0∧env 1=.v (.int .i64 (k:Nat))∧env 5=.v (.int .i64 (lvI (LP.ZX (Qi n F) (n+F.length) T.basis la co j)))∧env 6=lvQ (LP.ZX (Qi n F) (n+F.length) T.basis la co j)∧env 14=.ref (loc .basis) 1 0 T.basis.length none∧env 15=.v (.int .i64 (T.rows.length:Nat))∧env 16=.v (.int .i64 (j:Nat)))
  (fun j=>T.rows.length-j) 0 ⟨by omega,fun b l h=>(by cases h),_,rfl,by simp,by simp,by simp[LP.ZX,lvI],by simp[LP.ZX,lvQ],by simp,by simp[hbl],by simp⟩ ?_
 rintro j _ ⟨hj,hls,env,rfl,g0,g1,g5,g6,g14,g15,g16⟩;by_cases hjN:j<T.rows.length
 ·have hjb:j<T.basis.length:=by omega
  have hv:=hF.vb j hjb;have e1:=ZK hjb;have hrg:=ZF T loc tr j hjN;unfold Yb at hrg;obtain⟨capc,tc,hrc⟩:=hR.rc j hjN;have hjr:k<(T.row j).2.length:=by rw[hR.hrl j hjN];exact hk
  have e2:=(hco' j).symm.trans (Jk hjr);have e3:=hla' j;have hqj:=hqs j hjN;have hsr:=(hF.sr j hjN).2 _ (List.getElem_mem hjr);rw[e1]at hv;simp[g0,g1,g5,g14,g15,g16,hjN,hjb,hbas,htab,hrows,hrg,hrc,hjr,hk,Zq,ZI];rw[←e2]at hsr⊢;refine(hbd _ (by omega)).mono ?_;rintro r H' N' ⟨rfl,rfl,rfl⟩;cases hb:Qi n F T.basis[j]with
  | false =>have hs:=XT (bd:=Qi n F) (art:=n+F.length) (basis:=T.basis) (la:=la) (a:=co) (i:=j) (fun h=>by rw[e1,hb]at h;cases h.1);simp[-Qa,-Qb,undef,g0,g1,g5,g6,g14,g15,g16,QH (show j+1<9223372036854775808 by omega)];exact⟨j+1,⟨by omega,by rw[hs];exact hls,by rw[hs],by rw[hs],rfl⟩,by omega⟩
  | true =>
   simp[-Qa,-Qb];refine Qc.pv (ZZ (co j)) (by simp[Qn]) rfl ?_;by_cases hn:(co j).num<0
   ·have hn':=ZL.1 hn;have hp:Qi n F (T.basis.getD j 0)=true∧co j<0:=⟨by rw[e1,hb],hn'⟩;have ht:=qef (art:=n+F.length) (la:=la) hp;have hne:-co j≠0:=by grind
    have hqn:Lq (co j):=(YW _).2 (by omega);simp[-Qa,-Qb,hn,g0,g1,g5,g6,g14,g15,g16];refine Qm.walk (fun _=>false) mixed ?_;simp[Q0,g0,htab,hjN,hrows,hrg,ltab,lrow];refine QF.pure (k:=9) (Y8 (co j) hqn) ?_ ?_ ?_
    ·simp[Qn]
    ·simp[Qn]
    simp;rw[e3];refine QF.look (loc .tab) (sz:=7) (i:=0) (off:=0) (u:=rs (la j / -co j)) ?_ ?_ (fun H1 N1 e=>Vb (by obtain⟨ty,rest,tl,fz,cap,hH⟩:=hcal;exact⟨ty,rest,tl,fz,cap,e.trans hH⟩) _ _ ?_ hne) ?_
    ·simp
    ·exact ltab
    ·have:=(hF.sr j hjN).1;rw[e3]at this;rw[Kb];omega
    simp[g0,g1,g5,g6,g14,g15,g16];refine⟨Zg.ofM (by kernel_rfl),?_⟩;cases ho:LP.ZX (Qi n F) (n+F.length) T.basis la co j with
    | none =>rw[ho]at ht g5 g6;replace ht:LP.ZX (Qi n F) (n+F.length) T.basis la co (j+1)=some (j,la j / -co j):=ht;simp[-Qa,-Qb,undef,lvI,QH (show j+1<9223372036854775808 by omega)];exact⟨j+1,⟨by omega,by rw[ht];rintro b l h;injection h with h;injection h with h1 h2;subst h2;exact hqj,by rw[ht];try rfl,by rw[ht];try rfl,rfl⟩,by omega⟩
    | some p =>
     obtain⟨b,l⟩:=p;rw[ho]at ht g5 g6;replace ht:LP.ZX (Qi n F) (n+F.length) T.basis la co (j+1)=if la j / -co j<l then some (j,la j / -co j)else if la j / -co j=l∧(T.basis.getD j 0=(n+F.length)∨(T.basis.getD b 0≠(n+F.length)∧T.basis.getD j 0<T.basis.getD b 0))then some (j,l)else some (b,l):=ht
     replace g6:env 6=rs l:=g6;replace g5:env 5=.v (.int .i64 (b:Int)):=g5;have hl:=hls b l ho;have hb2:=(LP.XU ho).1;have hbN:b<T.basis.length:=by omega
     have eb:=ZK hbN;rw[eb,e1]at ht;simp[-Qa,-Qb,lvI,lvQ,show ¬(b:Int)<0 by omega];refine(qiL hcal (la j / -co j) l (by omega)).mono ?_;rintro r H' N' ⟨rfl,rfl,rfl⟩;by_cases hlt:la j / -co j<l
     ·rw[if_pos hlt]at ht;simp[-Qa,-Qb,hlt,g0,g1,g14,g15,g16,QH (show j+1<9223372036854775808 by omega)];exact⟨j+1,⟨by omega,by rw[ht];rintro b l h;injection h with h;injection h with h1 h2;subst h2;exact hqj,by rw[ht];try rfl,by rw[ht];try rfl,rfl⟩,by omega⟩
     ·rw[if_neg hlt]at ht;simp[-Qa,-Qb,hlt,g0,g1,g14,g15,g16];have hlook:∀(st:St) (K:Cls→AV→Qf→Nat→Prop),loc .tab<st.N→st.H.b (loc .tab)=some (tref T loc n F)→K (.lod [loc .tab]) (.v (.int .i64 ((n+F.length:Nat):Int))) st.H st.N→QF prog 131 [.ptr (loc .tab) 7 0 0] st K:=fun st K h1 h2 h3 =>QF.qbx (loc .tab) (sz:=7) (i:=0) (off:=0) (u:=.v (.int .i64 ((n+F.length:Nat):Int))) (by simp) h1 (fun H1 N1 e hN1=>Yt (e.trans h2) hN1 (by omega) (by omega)) h3
      refine Qm.walk (fun _=>false) mixed ?_;by_cases hq:la j / -co j=l
      ·by_cases hva:T.basis[j]=n+F.length
       ·have hva':((T.basis[j]:Nat):Int)=((n+F.length:Nat):Int):=by omega
        rw[if_pos ⟨hq,.inl hva⟩]at ht;simp[-Int.natCast_add,-Qa,-Qb,qle,hq,g0,g6];refine hlook _ _ ?_ ?_ ?_
        ·exact ltab
        ·exact htab0
        simp[-Int.natCast_add,-Qa,-Qb,undef,hva',g0,g1,g5,g6,g14,g15,g16,QH (show j+1<9223372036854775808 by omega)];exact⟨Zg.ofM (by kernel_rfl),j+1,⟨by omega,by rw[ht];rintro b l h;injection h with h;injection h with h1 h2;subst h2;exact hl,by rw[ht],by rw[ht],rfl⟩,by omega⟩
       ·have hva':¬((T.basis[j]:Nat):Int)=((n+F.length:Nat):Int):=by omega
        simp[-Int.natCast_add,-Qa,-Qb,qle,hq,g0,g6];refine hlook _ _ ?_ ?_ ?_
        ·exact ltab
        ·exact htab0
        simp[-Int.natCast_add,-Qa,-Qb,Q0,hva',g0,g5,htab,hbas,hbN,Zq,ltab,lbas];refine hlook _ _ ?_ ?_ ?_
        ·exact ltab
        ·exact htab0
        by_cases hba:T.basis[b]=n+F.length
        ·have hba':((T.basis[b]:Nat):Int)=((n+F.length:Nat):Int):=by omega
         rw[if_neg fun h=>h.2.elim hva fun h=>h.1 hba]at ht;simp[-Int.natCast_add,-Qa,-Qb,undef,hba',g0,g1,g5,g6,g14,g15,g16,QH (show j+1<9223372036854775808 by omega)];exact⟨Zg.ofM (by kernel_rfl),j+1,⟨by omega,by rw[ht];rintro b l h;injection h with h;injection h with h1 h2;subst h2;exact hl,by rw[ht],by rw[ht],rfl⟩,by omega⟩
        ·have hba':¬((T.basis[b]:Nat):Int)=((n+F.length:Nat):Int):=by omega
         by_cases hl2:T.basis[j]<T.basis[b]
         ·rw[if_pos ⟨hq,.inr ⟨hba,hl2⟩⟩]at ht;simp[-Int.natCast_add,-Qa,-Qb,Q0,hba',hl2,g0,g1,g5,g6,g14,g15,g16,htab,hbas,hbN,Zq,ltab,lbas,QH (show j+1<9223372036854775808 by omega)];exact⟨Zg.ofM (by kernel_rfl),j+1,⟨by omega,by rw[ht];rintro b l h;injection h with h;injection h with h1 h2;subst h2;exact hl,by rw[ht],by rw[ht],rfl⟩,by omega⟩
         ·rw[if_neg fun h=>h.2.elim hva fun h=>hl2 h.2]at ht;simp[-Int.natCast_add,-Qa,-Qb,Q0,hba',hl2,g0,g1,g5,g6,g14,g15,g16,htab,hbas,hbN,Zq,ltab,lbas,QH (show j+1<9223372036854775808 by omega)];exact⟨Zg.ofM (by kernel_rfl),j+1,⟨by omega,by rw[ht];rintro b l h;injection h with h;injection h with h1 h2;subst h2;exact hl,by rw[ht],by rw[ht],rfl⟩,by omega⟩
      ·rw[if_neg fun h=>hq h.1]at ht;simp[-Int.natCast_add,-Qa,-Qb,undef,qle,hq,g0,g1,g5,g6,g14,g15,g16,QH (show j+1<9223372036854775808 by omega)];exact⟨Zg.ofM (by kernel_rfl),j+1,⟨by omega,by rw[ht];rintro b l h;injection h with h;injection h with h1 h2;subst h2;exact hl,by rw[ht],by rw[ht],rfl⟩,by omega⟩
   ·have hs:=XT (bd:=Qi n F) (art:=n+F.length) (basis:=T.basis) (la:=la) (a:=co) (i:=j) (fun h=>hn (ZL.2 h.2));simp[-Qa,-Qb,hn,g0,g1,g5,g6,g14,g15,g16,QH (show j+1<9223372036854775808 by omega)];exact⟨j+1,⟨by omega,by rw[hs];exact hls,by rw[hs],by rw[hs],rfl⟩,by omega⟩
 ·have hjE:j=T.rows.length:=by omega
  subst hjE;simp[g15,g16,g5,hE,hgI]
end
end
theorem qqF(r:Rat×List Rat)(k:Nat):LP.newRow ⟨r.1,r.2⟩ k=⟨byX r.1 r.2 k,byL r.2 k⟩:=by
 unfold LP.newRow LP.Row.co byX byL;congr 1;apply List.ext_getElem
 ·simp
 ·intro i h1 h2;simp only[List.length_map,List.length_range]at h2;simp only[List.getElem_set,List.getElem_map,List.getElem_range];by_cases h:k=i
  ·subst h;simp
  ·rw[if_neg h,if_neg fun e=>h e.symm,Jk h2]
theorem qjJ(r b:Rat×List Rat)(k:Nat)(hl:b.2.length=r.2.length):LP.subst ⟨r.1,r.2⟩ k ⟨b.1,b.2⟩=⟨(qdz r k b).1,(qdz r k b).2⟩:=by
 unfold LP.subst LP.Row.co qdz W4;congr 1;apply List.ext_getElem
 ·simp[hl]
 ·intro i h1 h2;simp only[List.length_map,List.length_range]at h2;simp only[List.getElem_zipWith,List.getElem_set,List.getElem_map,List.getElem_range,h2,if_true];rw[Jk (l:=b.2) (by omega)];by_cases h:k=i
  ·subst h;simp
  ·rw[if_neg h,if_neg fun e=>h e.symm,Jk h2]
theorem qn4(l:List Rat)(k:Nat):(byL l k).length=l.length:=by simp[byL]
section
variable{n:Nat}{F:List Fct}{H:Qf}{N:Nat}{loc:Loc→Nat}{T:Tb}
theorem qjp{i:Nat}(hi:i<T.rows.length):T.row i=T.rows[i]:=by unfold Tb.row;rw[List.getD_eq_getElem?_getD,List.getElem?_eq_getElem hi];rfl
theorem qiz{i:Nat}(hi:i<T.goals.length):T.goal i=T.goals[i]:=by unfold Tb.goal;rw[List.getD_eq_getElem?_getD,List.getElem?_eq_getElem hi];rfl
theorem KU(hrl:∀i,i<T.rows.length→(T.row i).2.length=T.cols.length)(hgl:∀i,i<T.goals.length→(T.goal i).2.length=T.cols.length){i k:Nat}(hi:i<T.rows.length):(T.pivot i k).lp=LP.pivot T.lp i k:=by
 have hb:LP.newRow (LP.rowAt T.lp i) k=⟨(T.by' i k).1,(T.by' i k).2⟩:=by rw[qaK];exact qqF _ k
 have hbl:(T.by' i k).2.length=T.cols.length:=by unfold Tb.by';simp only[qn4];exact hrl i hi
 unfold LP.pivot Tb.pivot Tb.lp;simp only[LP.Tab.mk.injEq,true_and];have hb':=hb;unfold Tb.lp at hb';rw[hb'];refine⟨?_,?_⟩
 ·apply List.ext_getElem
  ·simp
  ·intro j h1 h2;simp only[List.length_map,List.length_range]at h1;simp only[List.getElem_set,List.getElem_map,List.getElem_range];by_cases h:i=j
   ·subst h;simp only[if_true]
   ·rw[if_neg h,if_neg fun e=>h e.symm,qjp h1];exact(qjJ T.rows[j] (T.by' i k) k (by rw[hbl,←qjp h1,hrl j h1])).symm
 ·apply List.ext_getElem
  ·simp
  ·intro j h1 h2;simp only[List.length_map]at h1;simp only[List.getElem_map];exact(qjJ T.goals[j] (T.by' i k) k (by rw[hbl,←qiz h1,hgl j h1])).symm
theorem qi7{i k:Nat}(hi:i<T.rows.length):(T.pivot i k).row i=T.by' i k:=by unfold Tb.row Tb.pivot;simp[List.getD_eq_getElem?_getD,hi]
theorem Y3(T:Tb)(i k:Nat):(T.pivot i k).rows.length=T.rows.length∧(T.pivot i k).goals.length=T.goals.length∧(T.pivot i k).cols.length=T.cols.length∧(T.pivot i k).basis.length=T.basis.length:=by simp[Tb.pivot]
structure qkq(n:Nat)(F:List Fct)(I:Tb→Prop):Prop where
 fit:∀T,I T→Fit n F T
 piv:∀T i k,I T→i<T.rows.length→k<T.cols.length→(T.row i).2.getD k 0≠0→I (T.pivot i k)
structure Mv(n:Nat)(F:List Fct)(H:Qf)(N:Nat)(loc:Loc→Nat)(T:Tb)(H':Qf)(N':Nat)(loc':Loc→Nat)(T':Tb):Prop where
 rep:Rep n F H' N' loc' T'
 le:N≤N'
 L:H'.L=H.L
 fr:∀t,t<N→(∀L,T.valid L→loc L≠t)→H'.b t=H.b t
 lo:∀L,T'.valid L→(T.valid L∧loc' L=loc L)∨N≤loc' L
 tab:loc' .tab=loc .tab
 gp:∀j,j<T.goals.length→j<T'.goals.length→loc' (.gp j)=loc (.gp j)
theorem Mv.refl(h:Rep n F H N loc T):Mv n F H N loc T H N loc T:=⟨h,Nat.le_refl _,rfl,fun _ _ _=>rfl,fun L v=>.inl ⟨v,rfl⟩,rfl,fun _ _ _=>rfl⟩
theorem Mv.trans{H1 H2:Qf}{N1 N2:Nat}{loc1 loc2:Loc→Nat}{T1 T2:Tb}(h:Mv n F H N loc T H1 N1 loc1 T1)(k:Mv n F H1 N1 loc1 T1 H2 N2 loc2 T2)(hg:∀j,j<T.goals.length→j<T2.goals.length→j<T1.goals.length):Mv n F H N loc T H2 N2 loc2 T2:=by
 refine⟨k.rep,Nat.le_trans h.le k.le,k.L.trans h.L,fun t ht hL=>?_,fun L v=>?_,k.tab.trans h.tab,fun j h1 h2=>(k.gp j (hg j h1 h2) h2).trans (h.gp j h1 (hg j h1 h2))⟩
 ·rw[k.fr t (Nat.lt_of_lt_of_le ht h.le) fun L v=>?_,h.fr t ht hL];rcases h.lo L v with⟨v1,e⟩|e
  ·rw[e];exact hL L v1
  ·omega
 ·rcases k.lo L v with⟨v1,e⟩|e
  ·rw[e];exact h.lo L v1
  ·exact .inr (Nat.le_trans h.le e)
theorem Mv.ext{H1:Qf}{N1:Nat}(h:Rep n F H N loc T)(e:Ext H N H1 N1):Mv n F H N loc T H1 N1 loc T:=⟨h.ext e,e.1,e.2.1,fun t ht _=>e.2.2 t ht,fun L v=>.inl ⟨v,rfl⟩,rfl,fun _ _ _=>rfl⟩
theorem Mv.keep{H1:Qf}{N1:Nat}{loc1:Loc→Nat}{T1:Tb}(h:Mv n F H N loc T H1 N1 loc1 T1){q:Nat}(hq:q<N)(hL:∀L,T.valid L→loc L≠q):H1.b q=H.b q∧∀L,T1.valid L→loc1 L≠q :=
 ⟨h.fr q hq hL,fun L v=>by
  rcases h.lo L v with⟨v1,e⟩|e
  ·rw[e];exact hL L v1
  ·omega⟩
theorem qeF{i k:Nat}(L:Loc):(T.pivot i k).valid L↔T.valid L:=by obtain⟨h1,h2,h3,h4⟩:=Y3 T i k;cases L<;>simp only[Tb.valid,h1,h2]
theorem KW{I:Tb→Prop}(hI:qkq n F I)(hR:Rep n F H N loc T)(hT:I T)(i k:Nat)(hi:i<T.rows.length)(hk:k<T.cols.length)(ha:(T.row i).2.getD k 0≠0) :
  Qc prog 127 [.ptr (loc .tab) 7 0 0,.v (.int .i64 (i:Nat)),.v (.int .i64 (k:Nat))] H N fun r H' N'=>∃loc',Mv n F H N loc T H' N' loc' (T.pivot i k)∧I (T.pivot i k):=by
 have hP:=hI.piv T i k hT hi hk ha;have hF:=hI.fit _ hT;have hF2:=hI.fit _ hP;have h2:=hF2.sr i (by rw[(Y3 T i k).1];exact hi);rw[qi7 hi]at h2;refine(qoZ hR i k hi hk ha hF.c hF.r hF.g (fun j hj=>?_) hF.sg ⟨by omega,fun q hq=>by have:=h2.2 q hq;omega⟩).mono ?_
 ·obtain⟨a,b⟩:=hF.sr j hj;exact⟨by omega,fun q hq=>by have:=b q hq;omega⟩
 ·rintro r H' N' ⟨loc',h1,h2,h3,h4,h5,h6⟩;refine⟨loc',⟨h1,h2,h3,h4,fun L v=>?_,h6 .tab (by simp),fun j _ _=>h6 (.gp j) (by simp)⟩,hP⟩;rcases h5 L with e|e
  ·exact .inl ⟨(qeF L).1 v,e⟩
  ·exact .inr (by omega)
end
section
attribute [local simp] Qq Qh Qk Qr QR QU QO Q4 QX QP QK Zd alen
def Zt(n:Nat)(v:Nat):Bool:=decide (v<n)
section
variable{n:Nat}{F:List Fct}{H:Qf}{N:Nat}{loc:Loc→Nat}{T:Tb}{I:Tb→Prop}
theorem qcK(hR:Rep n F H N loc T):Kind H N 96 [.ptr (loc .tab) 7 0 0] [] (Zt n):=fun v hv=>Jw hR.tab v
def qtP(n:Nat)(F:List Fct)(H:Qf)(N:Nat)(loc:Loc→Nat)(T:Tb)(I:Tb→Prop)(i:Nat)(st:St):Prop:=i≤T.rows.length∧∃env G N' loc' T',st=⟨34,env,G,N'⟩∧env 0=.ptr (loc .tab) 7 0 0∧env 8=.v (.int .i64 (T.rows.length:Nat))∧env 9=.v (.int .i64 (i:Nat)) ∧
 Mv n F H N loc T G N' loc' T'∧I T'∧T'.rows.length=T.rows.length∧T'.goals.length=T.goals.length∧LP.qaV (Zt n) (Qi n F) (T.rows.length-i) i T'.lp=LP.qaV (Zt n) (Qi n F) T.rows.length 0 T.lp
theorem qeB(hI:qkq n F I)(hR:Rep n F H N loc T)(hT:I T) :
  Qc prog 94 [.ptr (loc .tab) 7 0 0] H N fun r H' N'=>∃loc' T',Mv n F H N loc T H' N' loc' T'∧I T'∧T'.rows.length=T.rows.length∧T'.goals.length=T.goals.length∧T'.lp=LP.qaV (Zt n) (Qi n F) T.rows.length 0 T.lp:=by
 refine Qc.body func94 ntmps94 ?_;have htab:=hR.tab;unfold tref Z5 at htab;have hr1:=(hI.fit _ hT).r;simp[htab];refine Qp.of (qtP n F H N loc T I) (fun j=>T.rows.length-j) 0 ⟨by omega,_,_,_,loc,T,rfl,by simp,by simp,by simp,Mv.refl hR,hT,rfl,rfl,rfl⟩ ?_;rintro i _ ⟨hi,env,G,N',loc',T',rfl,g0,g8,g9,hM,hT',hl,hgl,hu⟩;by_cases hiN:i<T.rows.length
 ·have hR':=hM.rep;have htl:=hM.tab;have hF':=hI.fit _ hT';have htab':=hR'.tab;have htab0:=hR'.tab;rw[htl]at htab' htab0;unfold tref Z5 at htab';have hi':i<T'.rows.length:=by omega
  have hib:i<T'.basis.length:=by rw[hR'.hbl];exact hi'
  obtain⟨cb,tb,hbas⟩:=hR'.basis;have hv:=hF'.vb i hib;have e1:=ZK hib;rw[e1]at hv;have hn1:=hF'.n;have hf1:=hF'.f;have ltab:=hR'.lt .tab trivial;rw[htl]at ltab;have eu:LP.qaV (Zt n) (Qi n F) (T.rows.length-i) i T'.lp=if Qi n F T'.basis[i]=true then(match LP.We (Zt n) T'.lp i with|some k=>LP.qaV (Zt n) (Qi n F) (T.rows.length-(i+1)) (i+1) (LP.pivot T'.lp i k)|none=>LP.qaV (Zt n) (Qi n F) (T.rows.length-(i+1)) (i+1) T'.lp)else LP.qaV (Zt n) (Qi n F) (T.rows.length-(i+1)) (i+1) T'.lp:=by rw[show T.rows.length-i=(T.rows.length-(i+1))+1 by omega,LP.qaV,show T'.lp.basis.getD i 0=T'.basis[i] from e1]<;>rfl
  simp[g0,g8,g9,hiN,htab',hbas,hl,hR'.hbl,Zq];refine(JF htab0 ltab (by omega) (by omega) _ (by omega)).mono ?_;rintro r H' N2 ⟨rfl,rfl,rfl⟩;cases hb:Qi n F T'.basis[i]with
  | false =>rw[hb,if_neg (by simp)]at eu;simp[g0,g9,QH (show i+1<9223372036854775808 by omega)];exact⟨i+1,⟨by omega,_,_,_,loc',T',rfl,by simp[g0],by simp[g8],by simp,hM,hT',hl,hgl,eu.symm.trans hu⟩,by omega⟩
  | true =>
   rw[hb,if_pos rfl]at eu;simp[g0,g9];rw[←htl];refine(qcm hR' hF' i hi' (qcK hR')).mono ?_;rintro r H' N2 ⟨rfl,rfl,rfl⟩;cases hc:LP.We (Zt n) T'.lp i with
   | none =>rw[hc]at eu;simp[oI,g0,g9,QH (show i+1<9223372036854775808 by omega)];exact⟨i+1,⟨by omega,_,_,_,loc',T',rfl,by simp[g0],by simp[g8],by simp,hM,hT',hl,hgl,eu.symm.trans hu⟩,by omega⟩
   | some k =>rw[hc]at eu;obtain⟨k1,k2,k3⟩:=LP.Xw hc;rw[qam]at k3;simp[oI,g0,g9,show(0:Int)≤(k:Int) by omega];rw[←htl];refine(KW hI hR' hT' i k hi' k1 k3).mono ?_;rintro r H2 N2 ⟨loc2,hM2,hI2⟩;obtain⟨p1,p2,p3,p4⟩:=Y3 T' i k;simp[g9,QH (show i+1<9223372036854775808 by omega)];refine⟨i+1,⟨by omega,_,_,_,loc2,T'.pivot i k,rfl,by simp[g0],by simp[g8],by simp,hM.trans hM2 (fun j h1 h2=>by omega),hI2,by omega,by omega,?_⟩,by omega⟩;rw[KU hR'.hrl hR'.hgl hi'];exact eu.symm.trans hu
 ·have hiE:i=T.rows.length:=by omega
  subst hiE;simp[g8,g9];refine⟨loc',T',hM,hT',hl,hgl,?_⟩;rw[←hu,Nat.sub_self];rfl
end
end
end Go.AX.Run
