/- Part 3 of the proof: an abstract machine over the model, contracts of the functions, the mathematics of the simplex. -/
import Derived.Test.YtphliffdmedfbaaGreatDoorPb
import Derived.Shelf.LaysM
import Derived.Shelf.Strconv.Itoa3
import Derived.Shelf.Small.Strs
import Derived.Shelf.Strings.Search3
import Derived.Ground.NamesProg
import Derived.Test.YtphliffdmedfbaaGreatDoorProg
import Derived.Sort.Grow
import Derived.Lib.LaidTab
import Derived.Deep.Draws
import Derived.Shelf.Bits.Mul64
import Derived.Laws.IdiomStrings
set_option maxRecDepth 100000
set_option maxHeartbeats 8000000
set_option linter.all false
set_option exponentiation.threshold 5000
namespace Go.AX.Run
open Go.RowKit Go.Proofs Go.AX Go.Num Tryz
section
attribute [local simp] Qh QJ Q7 ZP J5 Yr Qk WH Jg Vp qa3 bs1
def qgD(s:Bool)(m:Nat)(s':Bool)(m':Nat):Nat:=if s=s' then m/m' else if m%m'=0 then m/m' else m/m'+1
def qlU(s:Bool)(m:Nat)(s':Bool)(m':Nat):Nat:=if s=s' then m%m' else if m%m'=0 then 0 else m'-m%m'
theorem qnu(s s':Bool)(m m':Nat)(h:0<m'):zi (s !=s') (qgD s m s' m')=Int.fdiv (zi s m) (zi s' m')∧zi s' (qlU s m s' m')=Int.fmod (zi s m) (zi s' m'):=by
 have key:∀a b q r:Int,b≠0→a=b*q+r→((0<b∧0≤r∧r<b)∨(b<0∧r≤0∧b<r))→q=Int.fdiv a b∧r=Int.fmod a b:=by
  intro a b q r hb ha hr;have h1:=Int.mul_fdiv_add_fmod a b;have h2:0<b→0≤Int.fmod a b∧Int.fmod a b<b:=fun h=>⟨Int.fmod_nonneg_of_pos a h,Int.fmod_lt_of_pos a h⟩;have h3:b<0→Int.fmod a b≤0∧b<Int.fmod a b:=fun h=>by
   have e:Int.fmod a b =-Int.fmod (-a) (-b):=by rw[Int.neg_fmod_neg];omega
   have g1:=Int.fmod_nonneg_of_pos (-a) (b:=-b) (by omega);have g2:=Int.fmod_lt_of_pos (-a) (b:=-b) (by omega);omega
  generalize Int.fdiv a b=Q at *;generalize Int.fmod a b=R at *;have e:b*(q-Q)=R-r:=by rw[Int.mul_sub];omega
  have hq:q=Q:=by
   rcases hr with⟨g1,g2,g3⟩|⟨g1,g2,g3⟩
   ·have g4:=h2 g1;rcases Int.lt_trichotomy (q-Q) 0 with h|h|h
    ·have:b*(q-Q)≤b*(-1):=Int.mul_le_mul_of_nonneg_left (by omega) (by omega);omega
    ·omega
    ·have:b*1≤b*(q-Q):=Int.mul_le_mul_of_nonneg_left (by omega) (by omega);omega
   ·have g4:=h3 g1;rcases Int.lt_trichotomy (q-Q) 0 with h|h|h
    ·have:(-b)*(q-Q)≤(-b)*(-1):=Int.mul_le_mul_of_nonneg_left (by omega) (by omega);rw[Int.neg_mul,Int.neg_mul]at this;omega
    ·omega
    ·have:(-b)*1≤(-b)*(q-Q):=Int.mul_le_mul_of_nonneg_left (by omega) (by omega);rw[Int.neg_mul,Int.neg_mul]at this;omega
  subst hq;exact⟨rfl,by rw[Int.sub_self,Int.mul_zero]at e;omega⟩
 have hdm:=Nat.div_add_mod m m';have hml:=Nat.mod_lt m h;have hdm':(m:Int)=m'*((m/m':Nat):Int)+((m%m':Nat):Int):=by rw[←Int.natCast_mul,←Int.natCast_add,hdm]
 unfold zi qgD qlU;generalize m/m'=q at *;generalize m%m'=r at *;cases s<;>cases s'
 ·exact key _ _ _ _ (by simp;omega) (by simpa using hdm') (.inl ⟨by simp;omega,by simp,by simp;omega⟩)
 ·by_cases hr:r=0
  ·simp[hr]at hdm'⊢;exact key _ _ _ _ (by omega) (by rw[hdm',Int.neg_mul_neg];omega) (.inr ⟨by omega,by omega,by omega⟩)
  ·simp[hr];exact key _ _ _ _ (by omega) (by rw[hdm',Int.neg_mul,Int.mul_neg,Int.neg_neg,Int.mul_add];omega) (.inr ⟨by omega,by omega,by omega⟩)
 ·by_cases hr:r=0
  ·simp[hr]at hdm'⊢;exact key _ _ _ _ (by omega) (by rw[hdm',Int.mul_neg];omega) (.inl ⟨by omega,by omega,by omega⟩)
  ·simp[hr];exact key _ _ _ _ (by omega) (by rw[hdm',Int.mul_neg,Int.mul_add];omega) (.inl ⟨by omega,by omega,by omega⟩)
 ·simp only[bne_self_eq_false,Bool.false_eq_true,if_true,if_false];exact key _ _ _ _ (by omega) (by rw[hdm',Int.neg_mul];omega) (.inr ⟨by omega,by omega,by omega⟩)
theorem qt5:qdx prog 82 1 [(0,.v (.int .i64 1))]=some (.ro [[.v (.int .i64 1)]]):=by kernel_rfl
theorem qem(s s':Bool)(m m':Nat)(h:nlb m≤1000000)(h':nlb m'≤1000000)(h0:0<m'):Qg prog 153 [nm s m,nm s' m'] (.tup [nm (s !=s') (qgD s m s' m'),nm s' (qlU s m s' m')]):=by
 refine Qg.body func153 ntmps153 ?_;simp;refine Qc.pv (qcs m m' h h' h0) (by simp[Qt]) (by simp[Qt]) ?_;have hq:nlb (m/m')≤1000000:=Nat.le_trans (qfp (Nat.div_le_self _ _)) h;have hml:=Nat.mod_lt m h0;by_cases hs:s=s'
 ·subst hs;simp;refine Qm.walk (fun _=>false) mixed ?_;simp[Q0];refine⟨Zg.ofM (by kernel_rfl),?_⟩;simp[qgD,qlU];exact .dat _ 9 (by simp[Qt])
 ·have hsn:(s !=s')=true:=by cases s<;>cases s'<;>simp_all
  by_cases hr:m%m'=0
  ·simp[hs,hr,nlb,Zh];refine Qm.walk (fun _=>false) mixed ?_;simp[Q0];refine⟨Zg.ofM (by kernel_rfl),?_⟩;simp[qgD,qlU,hs,hr,hsn];exact .dat _ 9 (by simp[Qt])
  ·have hn:0<nlb (m%m'):=by have:=(not_congr (Jp (a:=m%m'))).2 hr;omega
   have hn':(0:Int)<(nlb (m%m'):Int):=by omega
   have hl1:nl [1]=[[.v (.int .i64 1)]]:=rfl;have hlb1:lbs 1=.ro [[.v (.int .i64 1)]]:=by unfold lbs;rw[qfh (by decide) (by decide)];rfl
   simp[hs,hn];refine Qm.walk (fun _=>true) mixed ?_;simp[qt5];refine QF.pure (k:=9) (u:=lbs (m/m'+1)) (by rw[←hlb1];exact qi9 _ 1 (by omega) (by unfold nlb;rw[qfh (by decide) (by decide)];simp)) (by simp[Qt]) (Qt _ _) ?_;simp[Q0];refine QF.pure (k:=9) (qbA m' (m%m') (by omega) (by omega)) (by simp[Qt]) (Qt _ _) ?_;simp;refine⟨Zg.ofM (by kernel_rfl),?_⟩;refine Qm.walk (fun _=>true) mixed ?_;simp[Q0];refine⟨Zg.ofM (by kernel_rfl),?_⟩;simp[qgD,qlU,hs,hr,hsn];exact .dat _ 9 (by simp[Qt])
end
end Go.AX.Run
namespace Go.Proofs
open Go.Shelf Tryz
def Tryz.qcL:Go.Shelf.Ren:=⟨fun|171=>180|243=>207|246=>229|283=>245|284=>246|285=>247|286=>248|129=>256|317=>255|318=>257|319=>258|320=>259|337=>262|338=>263|n=>n,fun|3=>3|9=>9|2=>2|4=>4|171=>256|0=>0|53=>193|37=>116|5=>5|173=>259|212=>270|51=>190|20=>20|213=>271|46=>159|232=>278|233=>279|n=>n,fun|17=>5|18=>6|19=>7|n=>n⟩
theorem Tryz.qly:Go.Proofs.LaysM.n171 prog Tryz.qcL:={
 mixed:=by kernel_rfl
 f129:=func256.trans (congrArg some (by kernel_rfl))
 f171:=func180.trans (congrArg some (by kernel_rfl))
 f243:=func207.trans (congrArg some (by kernel_rfl))
 f246:=func229.trans (congrArg some (by kernel_rfl))
 f283:=func245.trans (congrArg some (by kernel_rfl))
 f284:=func246.trans (congrArg some (by kernel_rfl))
 f285:=func247.trans (congrArg some (by kernel_rfl))
 f286:=func248.trans (congrArg some (by kernel_rfl))
 f317:=func255.trans (congrArg some (by kernel_rfl))
 f318:=func257.trans (congrArg some (by kernel_rfl))
 f319:=func258.trans (congrArg some (by kernel_rfl))
 f320:=func259.trans (congrArg some (by kernel_rfl))
 f337:=func262.trans (congrArg some (by kernel_rfl))
 f338:=func263.trans (congrArg some (by kernel_rfl))
 t0:=underlying0
 a0:=Tryz.isAgg0
 z0:=Tryz.sizeOf0
 v0:=Tryz.zeroValue0
 t2:=underlying2
 a2:=Tryz.isAgg2
 z2:=Tryz.sizeOf2
 v2:=Tryz.zeroValue2
 t3:=underlying3
 a3:=Tryz.isAgg3
 z3:=Tryz.sizeOf3
 v3:=Tryz.zeroValue3
 t4:=underlying4
 a4:=Tryz.isAgg4
 z4:=Tryz.sizeOf4
 v4:=Tryz.zeroValue4
 t5:=underlying5
 a5:=Tryz.isAgg5
 z5:=Tryz.sizeOf5
 v5:=Tryz.zeroValue5
 t9:=underlying9
 a9:=Tryz.isAgg9
 z9:=Tryz.sizeOf9
 v9:=Tryz.zeroValue9
 t20:=underlying20
 a20:=Tryz.isAgg20
 z20:=Tryz.sizeOf20
 v20:=Tryz.zeroValue20
 t37:=underlying116
 a37:=Tryz.isAgg116
 z37:=Tryz.sizeOf116
 v37:=Tryz.zeroValue116
 t46:=underlying159
 a46:=Tryz.isAgg159
 z46:=Tryz.sizeOf159
 v46:=Tryz.zeroValue159
 t51:=underlying190
 a51:=Tryz.isAgg190
 z51:=Tryz.sizeOf190
 v51:=Tryz.zeroValue190
 t53:=underlying193
 a53:=Tryz.isAgg193
 z53:=Tryz.sizeOf193
 v53:=Tryz.zeroValue193
 t171:=underlying256
 a171:=Tryz.isAgg256
 z171:=Tryz.sizeOf256
 v171:=Tryz.zeroValue256
 t173:=underlying259
 a173:=Tryz.isAgg259
 z173:=Tryz.sizeOf259
 v173:=Tryz.zeroValue259
 t212:=underlying270
 a212:=Tryz.isAgg270
 z212:=Tryz.sizeOf270
 v212:=Tryz.zeroValue270
 t213:=underlying271
 a213:=Tryz.isAgg271
 z213:=Tryz.sizeOf271
 t232:=underlying278
 a232:=Tryz.isAgg278
 z232:=Tryz.sizeOf278
 v232:=Tryz.zeroValue278
 t233:=underlying279
 a233:=Tryz.isAgg279
 z233:=Tryz.sizeOf279
 v233:=Tryz.zeroValue279
 g17:=by kernel_rfl
 g18:=by kernel_rfl
 g19:=by kernel_rfl
 i0:=by kernel_rfl
 i2:=by kernel_rfl
 i3:=by kernel_rfl
 i4:=by kernel_rfl
 i5:=by kernel_rfl
 i9:=by kernel_rfl
 i20:=by kernel_rfl
 i37:=by kernel_rfl
 i46:=by kernel_rfl
 i51:=by kernel_rfl
 i53:=by kernel_rfl
 i171:=by kernel_rfl
 i173:=by kernel_rfl
 i212:=by kernel_rfl
 i232:=by kernel_rfl
 i233:=by kernel_rfl
 m17:=by kernel_rfl
 m18:=by kernel_rfl
 m19:=by kernel_rfl }
open Go.RowKit Go.Sort Go.Lib in
theorem Tryz.strconv_Itoa(n:Int)(h0:-9223372036854775808≤n)(h1:n≤9223372036854775807)(w:World)(htab:Lib.TabIs prog w "internal/strconv.uint64pow10" .u64 Lib.pow10Tab) :
  Calls prog 180 #[.int .i64 n] w fun e w'=>e=.returned (.string ⟨(Lib.itoa n).toArray⟩)∧∃k os,w'=grow (w.drewN k) os:=Any.strconv_Itoa Tryz.qly n h0 h1 w htab
def Tryz.qeb:Go.Shelf.Ren:=⟨fun|137=>193|217=>215|266=>233|n=>n,fun|9=>9|5=>5|3=>3|n=>n,fun|n=>n⟩
theorem Tryz.qoC:Go.Proofs.Lays.n137 prog Tryz.qeb:={
 mixed:=by kernel_rfl
 f137:=func193.trans (congrArg some (by kernel_rfl))
 f217:=func215.trans (congrArg some (by kernel_rfl))
 f266:=func233.trans (congrArg some (by kernel_rfl))
 t3:=underlying3
 a3:=Tryz.isAgg3
 z3:=Tryz.sizeOf3
 v3:=Tryz.zeroValue3
 t5:=underlying5
 a5:=Tryz.isAgg5
 z5:=Tryz.sizeOf5
 v5:=Tryz.zeroValue5
 t9:=underlying9
 a9:=Tryz.isAgg9
 z9:=Tryz.sizeOf9
 v9:=Tryz.zeroValue9 }
open Go.RowKit Go.Lib in
theorem Tryz.strings_IndexByte(s:ByteArray)(c:Int)(w:World) :
  Calls prog 193 #[.string s,.int .u8 c] w fun e w'=>e=.returned (.int .i64 (Lib.indexByte s.data.toList c.toNat.toUInt8))∧w'=w:=Any.strings_IndexByte Tryz.qoC s c w
def Tryz.qec:Go.Shelf.Ren:=⟨fun|144=>160|143=>194|219=>216|217=>215|225=>226|224=>225|267=>234|266=>233|314=>250|n=>n,fun|9=>9|4=>4|3=>3|5=>5|46=>159|146=>191|51=>190|n=>n,fun|1=>2|n=>n⟩
theorem Tryz.qoD:Go.Proofs.Lays.n144 prog Tryz.qec:={
 mixed:=by kernel_rfl
 f143:=func194.trans (congrArg some (by kernel_rfl))
 f144:=func160.trans (congrArg some (by kernel_rfl))
 f217:=func215.trans (congrArg some (by kernel_rfl))
 f219:=func216.trans (congrArg some (by kernel_rfl))
 f224:=func225.trans (congrArg some (by kernel_rfl))
 f225:=func226.trans (congrArg some (by kernel_rfl))
 f266:=func233.trans (congrArg some (by kernel_rfl))
 f267:=func234.trans (congrArg some (by kernel_rfl))
 f314:=func250.trans (congrArg some (by kernel_rfl))
 t3:=underlying3
 a3:=Tryz.isAgg3
 z3:=Tryz.sizeOf3
 v3:=Tryz.zeroValue3
 t4:=underlying4
 a4:=Tryz.isAgg4
 z4:=Tryz.sizeOf4
 v4:=Tryz.zeroValue4
 t5:=underlying5
 a5:=Tryz.isAgg5
 z5:=Tryz.sizeOf5
 v5:=Tryz.zeroValue5
 t9:=underlying9
 a9:=Tryz.isAgg9
 z9:=Tryz.sizeOf9
 v9:=Tryz.zeroValue9
 t46:=underlying159
 a46:=Tryz.isAgg159
 z46:=Tryz.sizeOf159
 v46:=Tryz.zeroValue159
 t51:=underlying190
 a51:=Tryz.isAgg190
 z51:=Tryz.sizeOf190
 v51:=Tryz.zeroValue190
 t146:=underlying191
 a146:=Tryz.isAgg191
 z146:=Tryz.sizeOf191
 v146:=Tryz.zeroValue191
 g1:=by kernel_rfl }
open Go.RowKit Go.Lib in
theorem Tryz.strings_Contains_one(s:ByteArray)(c:UInt8)(w:World) :
  Calls prog 160 #[.string s,.string ⟨#[c]⟩] w fun e w'=>e=.returned (.bool (decide (0≤Lib.indexByte s.data.toList c)))∧w'=w:=Any.strings_Contains_one Tryz.qoD s c w
end Go.Proofs
namespace Go.AX
open Go.RowKit
section
variable{P:Program}{E:Env}{B:Nat}{w0 w:World}{H:Qf}
theorem Zm.grow(h:Zm E B w0 H w)(os:Array Obj):QD E w (Sort.grow w os)∧Zm E B w0 H (Sort.grow w os):=by
 have hold:∀k,k<w.heap.size→(Sort.grow w os).heap[k]?=w.heap[k]?:=fun k hk=>by show(w.heap++os)[k]?=_;rw[Array.getElem?_append_left hk]
 have hsz:w.heap.size≤(Sort.grow w os).heap.size:=by show _≤(w.heap++os).size;simp
 have hkp:QD E w (Sort.grow w os):=fun c hc=>hold c (h.slt c hc);have hlt:∀{c:Nat} {q:Obj},w.heap[c]?=some q→c<w.heap.size:=fun hq=>(Array.getElem?_eq_some_iff.1 hq).1;have hob:=h.objs (L:=H.L) (Env.le.refl E) (fun c hc=>hc) hkp (fun c q hq _=>hold c (hlt hq)) (fun c hc=>.inl hc) (fun _ _ h=>h);refine⟨hkp,h.lt,h.gst,fun id b hb hc0=>?_,h.inj,h.mu,h.frz,fun c hc=>?_,h.so,Nat.le_trans h.bas hsz,h.bel.trans ⟨rfl,rfl,rfl,hsz,fun k hk=>hold k (Nat.lt_of_lt_of_le hk h.bas)⟩,hob.1,hob.2.1,hob.2.2.1,hob.2.2.2.1,hob.2.2.2.2⟩
 ·obtain⟨cur,z,q1,q2,q3,q4,q5,q6,q7,q8,q9⟩:=h.blk id b hb hc0;exact⟨cur,z,(hold _ (hlt q1)).trans q1,q2,q3,q4,q5,q6,q7,q8,fun i j x hx=>(q9 i j x hx).mono (Env.le.refl E) hkp⟩
 ·have:=h.slt c hc;omega
theorem Zm.drewN(h:Zm E B w0 H w):∀k,Zm E B w0 H (w.drewN k)
 | 0=>h
 | k+1=>(Zm.drewN h k).drew
theorem Zm.qsV(h:Zm E B w0 H w){p:Nat×List Value}(hp:p∈tabs){name:String}{k:IntKind}{zs:List Int}(hg:P.globalNamed name=some p.1)(hz:p.2=zs.map fun z=>Value.int k z):Lib.TabIs P w name k zs:=by obtain⟨g,t,o,q⟩:=h.bel.tb p hp;have hb:=(h.bel.toBelow.block _ g).trans q;unfold Lib.TabIs World.var?;rw[hg,Option.bind_some];simp only[hb,hz]
theorem Qg.shelf{f:FuncId}{ls:List Value}{v:Value}(h1:∃fn body,P.funcs[f]?=some fn∧(fn.name=="runtime.NumGoroutine")=false∧fn.body=some body)
  (h:∀E B w0 w,Zm E B w0 QQ w→Calls P f ls.toArray w fun e w'=>e=.returned v∧∃k os,w'=Sort.grow (w.drewN k) os):Qg P f (ls.map .v) (.v v):=by
 refine⟨h1,fun E B w0 w args' hH hN hl hd=>?_⟩;have:args'=ls.toArray:=by
  apply Array.ext_getElem?;intro i;have hl':args'.size=ls.length:=by simpa using hl
  by_cases hi:i<ls.length
  ·have h2:=hd i (.v ls[i]) (by simp[hi]);rw[Array.getD_eq_getD_getElem?,Array.getElem?_eq_getElem (by omega),Option.getD_some]at h2;generalize hq:args'[i]'(by omega)=q at h2;cases h2;rw[Array.getElem?_eq_getElem (by omega),hq];simp[hi]
  ·simp[hl',hi]
 subst this;refine(h E B w0 w hH).mono ?_;rintro e w' ⟨rfl,k,os,rfl⟩;have h2:=(hH.drewN k).grow os;exact⟨v,E,_,_,_,rfl,Env.le.refl E,fun c hc=>h2.1 c hc,h2.2,hN,Den.v _,rfl⟩
end
end Go.AX
namespace Go.Proofs
open Go.Shelf Tryz
def Tryz.qed:Go.Shelf.Ren:=⟨fun|212=>137|263=>170|264=>171|n=>n,fun|46=>159|51=>190|146=>191|53=>193|148=>194|n=>n,fun|n=>n⟩
theorem Tryz.qoE:Go.Proofs.Lays.n212 prog Tryz.qed:={
 mixed:=by kernel_rfl
 f212:=func137.trans (congrArg some (by kernel_rfl))
 f263:=func170.trans (congrArg some (by kernel_rfl))
 f264:=func171.trans (congrArg some (by kernel_rfl))
 t46:=underlying159
 a46:=Tryz.isAgg159
 z46:=Tryz.sizeOf159
 v46:=Tryz.zeroValue159
 t51:=underlying190
 a51:=Tryz.isAgg190
 z51:=Tryz.sizeOf190
 v51:=Tryz.zeroValue190
 t53:=underlying193
 a53:=Tryz.isAgg193
 z53:=Tryz.sizeOf193
 v53:=Tryz.zeroValue193
 t146:=underlying191
 a146:=Tryz.isAgg191
 z146:=Tryz.sizeOf191
 v146:=Tryz.zeroValue191
 t148:=underlying194
 a148:=Tryz.isAgg194
 z148:=Tryz.sizeOf194
 v148:=Tryz.zeroValue194 }
open Go.RowKit Go.Lib in
theorem Tryz.bits_Mul(x y:Nat)(hx:x<18446744073709551616)(hy:y<18446744073709551616)(w:World) :
  Calls prog 137 #[.int .u64 x,.int .u64 y] w fun e w'=>e=.returned (.tuple #[.int .u64 ((x*y/18446744073709551616:Nat):Int),.int .u64 ((x*y%18446744073709551616:Nat):Int)])∧w'=w:=Any.bits_Mul Tryz.qoE x y hx hy w
end Go.Proofs
namespace Go.AX.Run
open Go.RowKit Go.Proofs Go.AX Go.Num Tryz
section
def str(l:List UInt8):AV:=.v (.string (bs l))
theorem QB(l:List UInt8):(bs l).size=l.length:=rfl
theorem qav(l:List UInt8)(a b:Nat):(bs l).extract a b=bs ((l.take b).drop a):=by apply ByteArray.ext;simp[bs,ByteArray.data_extract,List.drop_take]
theorem qhP{l:List UInt8}:(bs l={ data:=#[] })=(l=[]):=propext (Z8 (b:=[]))
theorem Qq(l:List UInt8):alen prog 9 (.v (.string (bs l)))=some (.v (.int .i64 (l.length:Int))):=by kernel_rfl
theorem Y1(l:List UInt8)(lo hi:Option AV):aslice prog 9 (.v (.string (bs l))) lo hi=match abounds l.length lo hi with|some (l',h)=>some (.v (.string (bs ((l.take h).drop l'))))|none=>none:=by
 have:∀s:ByteArray,aslice prog 9 (.v (.string s)) lo hi=match abounds s.size lo hi with|some (l',h)=>some (.v (.string (s.extract l' h)))|none=>none:=fun s=>by kernel_rfl
 rw[this,QB];split<;>rename_i h<;>simp[qav]
theorem Yh(l:List UInt8)(i:Int):aindex prog 9 (.v (.string (bs l))) i=if 0≤i∧i<l.length then some (.v (.int .u8 ((l.getD i.toNat 0).toNat:Int)))else none:=by
 have:∀s:ByteArray,aindex prog 9 (.v (.string s)) i=if 0≤i∧i<s.size then some (.v (.int .u8 (astr s i)))else none:=fun s=>by kernel_rfl
 rw[this,QB];split
 ·rename_i h;have h1:i.toNat<l.length:=by omega
  rw[astr,dif_pos (by rw[QB];exact h1),List.getD_eq_getElem?_getD,List.getElem?_eq_getElem h1];rfl
 ·rfl
attribute [local simp] Qq
theorem Kv(s p:List UInt8)(hs:s.length<9223372036854775808)(hp:p.length<9223372036854775808):Qg prog 172 [str s,str p] (.v (.bool (decide (p <+: s)))):=by
 refine Qg.body func172 ntmps172 ?_;simp[str];by_cases h:p.length≤s.length
 ·simp[-Qa,-Qb,h,Y1,abounds,idx];have:(bs (List.take p.length s)=bs p)=(p <+: s):=by rw[Z8,List.prefix_iff_eq_take];exact propext eq_comm
  simp only[this];exact .dat _ 9 rfl
 ·simp[-Qa,-Qb,h];have:decide (p <+: s)=false:=by simp;exact fun hp=>h hp.length_le
  rw[this];exact .dat _ 9 rfl
theorem qbf(s p:List UInt8)(hs:s.length<9223372036854775808)(hp:p.length<9223372036854775808):Qg prog 138 [str s,str p] (.tup [str (if p <+: s then s.drop p.length else s),.v (.bool (decide (p <+: s)))]):=by
 refine Qg.body func138 ntmps138 ?_;simp;refine Qc.pu (Kv s p hs hp) ?_;by_cases h:p <+: s
 ·have:=h.length_le;simp[-Qa,-Qb,h,Y1,abounds,idx,str,this];exact .dat _ 9 rfl
 ·simp[-Qa,-Qb,h];exact .dat _ 9 rfl
theorem qcp(s p:List UInt8)(hs:s.length<9223372036854775808)(hp:p.length<9223372036854775808):Qg prog 102 [str s,str p] (.tup [str (if p <+: s then s.drop p.length else s),.v (.bool (decide (p <+: s)))]):=by refine Qg.body func102 ntmps102 ?_;simp;refine Qc.pu (qbf s p hs hp) ?_;simp;exact .dat _ 9 rfl
theorem qaq(s p:List UInt8)(hs:s.length<9223372036854775808)(hp:p.length<9223372036854775808):Qg prog 146 [str s,str p] (str (if p <+: s then s.drop p.length else s)):=by
 refine Qg.body func146 ntmps146 ?_;simp;refine Qc.pu (Kv s p hs hp) ?_;by_cases h:p <+: s
 ·have:=h.length_le;simp[-Qa,-Qb,h,Y1,abounds,idx,str,this];exact .dat _ 9 rfl
 ·simp[-Qa,-Qb,h];exact .dat _ 9 rfl
theorem Kc(s p:List UInt8)(hs:s.length<9223372036854775808)(hp:p.length<9223372036854775808):Qg prog 104 [str s,str p] (str (if p <+: s then s.drop p.length else s)):=by refine Qg.body func104 ntmps104 ?_;simp;refine Qc.pu (qaq s p hs hp) ?_;simp;exact .dat _ 9 rfl
theorem JY(s p:List UInt8)(hs:s.length<9223372036854775808)(hp:p.length<9223372036854775808):Qg prog 210 [str s,str p] (.v (.bool (decide (p <+: s)))):=by refine Qg.body func210 ntmps210 ?_;simp;refine Qc.pu (Kv s p hs hp) ?_;simp;exact .dat _ 9 rfl
theorem qiH(n:Nat):Lib.decDigits n=dg n:=by
 induction n using Nat.strongRecOn with
 | _ n ih =>
  rw[Lib.decDigits,dg];by_cases h:n<10
  ·simp[h,Nat.toUInt8]
  ·simp[h,Nat.toUInt8,ih (n/10) (by omega)]
theorem qoz(z:Int):Lib.itoa z=il z:=by
 unfold Lib.itoa il;split
 ·rw[qiH]
 ·rw[qiH];congr 1;omega
theorem qiI(z:Int)(h0:-9223372036854775808≤z)(h1:z≤9223372036854775807):Qg prog 180 [.v (.int .i64 z)] (str (il z)) :=
 Qg.shelf (ls:=[.int .i64 z]) ⟨_,_,func180,by kernel_rfl,rfl⟩ fun E B w0 w h=>by have:=Tryz.strconv_Itoa z h0 h1 w (h.qsV (p:=(5,qo0.map fun z=>.int .u64 z)) (by simp[tabs]) (by kernel_rfl) (by kernel_rfl));rw[qoz]at this;exact this
theorem XK(H:Qf)(id:Nat)(a b:Blk):(H.set id a).set id b=H.set id b:=by
 cases H with|mk f L =>
 simp only[Qf.set,Qf.mk.injEq,and_true];funext j;by_cases e:j=id<;>simp[e]
theorem qhJ(x y:Nat)(hx:x<18446744073709551616)(hy:y<18446744073709551616):Qg prog 137 [.v (.int .u64 x),.v (.int .u64 y)] (.v (.tuple #[.int .u64 ((x*y/18446744073709551616:Nat):Int),.int .u64 ((x*y%18446744073709551616:Nat):Int)])) :=
 Qg.shelf (ls:=[.int .u64 x,.int .u64 y]) ⟨_,_,func137,by kernel_rfl,rfl⟩ fun E B w0 w hH=>(Tryz.bits_Mul x y hx hy w).mono fun e w' ⟨h1,h2⟩=>⟨h1,0,#[],by rw[h2];cases w;simp[World.drewN,Sort.grow]⟩
theorem qbe(n:Nat)(h:n<9223372036854775808):aconv prog 3 159 (.v (.int .i64 (n:Int)))=some (.v (.int .u64 (n:Int))):=by
 have e:aconv prog 3 159 (.v (.int .i64 (n:Int)))=some (.v (.int .u64 (IntKind.u64.wrap (n:Int)))):=by kernel_rfl
 rw[e,IntKind.wrap_u64];congr 3;omega
theorem qh1(n:Nat)(h:n<9223372036854775808):aconv prog 159 3 (.v (.int .u64 (n:Int)))=some (.v (.int .i64 (n:Int))):=by
 have e:aconv prog 159 3 (.v (.int .u64 (n:Int)))=some (.v (.int .i64 (IntKind.i64.wrap (n:Int)))):=by kernel_rfl
 rw[e,Ql (by omega) (by omega)]
theorem qsB:({ data:=#[48,48,48,48,48,48,48,48,48,48,48,48,48,48,48,48,48,48,48,48,48,48,48,48,48,48,48,48,48,48,48,48,48,48,48,48,48,48,48,48,48,48,48,48,48,48,48,48,48,48,48,48,48,48,48,48,48,48,48,48,48,48,48,48] }:ByteArray)=bs (List.replicate 64 48):=rfl
theorem qjn(k:Nat)(hk:k≤8):Qg prog 184 [str [48],.v (.int .i64 (k:Int))] (str (List.replicate k 48)):=by
 refine Qg.body func184 ntmps184 ?_;by_cases h0:k=0
 ·subst h0;simp;exact .dat _ 9 rfl
 by_cases h1:k=1
 ·subst h1;simp;exact .dat _ 9 rfl
 have hm:=qhJ 1 k (by omega) (by omega);rw[Nat.one_mul,Nat.div_eq_of_lt (by omega),Nat.mod_eq_of_lt (by omega)]at hm;have hp:=JY (List.replicate 64 48) [48] (by simp) (by simp);rw[decide_eq_true (show[48] <+: List.replicate 64 (48:UInt8) from⟨List.replicate 63 48,rfl⟩)]at hp;have c1:aconv prog 3 159 (.v (.int .i64 1))=some (.v (.int .u64 1)):=qbe 1 (by omega);have hk1:¬(k:Int)=1:=by omega
 simp[h0,hk1,str,qbe k (by omega),c1,show ¬(k:Int)<0 by omega];refine Qc.pu hm ?_;simp[V1,undef,-Qa,-Qb,qh1 k (by omega),show ¬(9223372036854775807:Int)<(k:Int) by omega,Yh,show(k:Int)≤128 by omega];have hne:∀b:UInt8,b≠48→¬[48] <+: List.replicate 128 b:=fun b hb h=>by rw[show List.replicate 128 b=b::List.replicate 127 b from rfl]at h;exact hb (List.cons_prefix_cons.1 h).1.symm
 have hs:=JY (List.replicate 128 32) [48] (by simp) (by simp);rw[decide_eq_false (hne 32 (by decide))]at hs;have hd:=JY (List.replicate 128 45) [48] (by simp) (by simp);rw[decide_eq_false (hne 45 (by decide))]at hd;refine Qc.pu hs ?_;simp[-Qa,-Qb,show(k:Int)≤128 by omega];refine Qc.pu hd ?_;simp[-Qa,-Qb,show(k:Int)≤64 by omega];refine Qc.pu hp ?_;simp[-Qa,-Qb,qsB,Y1,abounds,idx,show(k:Int)≤64 by omega];have ht:(List.replicate 64 (48:UInt8)).take k=List.replicate k 48:=by rw[List.take_replicate,Nat.min_eq_left (by omega)]
 rw[←ht];exact .v _
end
section
attribute [local simp] Qq Qh
def qhg:List AV:=(List.range 256).map fun i=>.v (.bool (decide (48≤i∧i≤57)))
theorem qaZ:qhg.length=256:=by kernel_rfl
theorem qkA(b:Nat)(h:b<256):qhg[b]?=some (.v (.bool (decide (48≤b∧b≤57)))):=by simp[qhg,h]
theorem qeP:(∀c∈qhg,c.one=true)=True:=eq_true (by simp[qhg])
def zsL:List AV:=List.replicate 256 (.v (.bool false))
theorem qkf:zsL.length=256:=by simp[zsL]
theorem tyA:ZQ prog 164=true∧Jm prog 164=true∧prog.cellsOf 164=256∧azero prog 164=some zsL:=by refine⟨by kernel_rfl,by kernel_rfl,by kernel_rfl,by kernel_rfl⟩
def qhf(k:Nat):List AV:=(List.range 256).map fun i=>.v (.bool (decide (48≤i∧i<48+k)))
theorem qeO(k:Nat):(qhf k).length=256:=by simp[qhf]
theorem qkz(k:Nat)(h:k<10):(qhf k).set (48+k) (.v (.bool true))=qhf (k+1):=by
 refine List.ext_getElem (by simp[qhf]) fun i h1 h2=>?_;rw[List.getElem_set];simp only[qhf,List.getElem_map,List.getElem_range];by_cases e:48+k=i
 ·rw[if_pos e];congr 2;exact(decide_eq_true (by omega)).symm
 ·rw[if_neg e];congr 2;exact decide_eq_decide.2 (by omega)
theorem qsq(k:Nat)(h:k<10):aindex prog 9 (.v (.string (bs [48,49,50,51,52,53,54,55,56,57]))) (k:Int)=some (.v (.int .u8 ((48+k:Nat):Int))):=by rw[Yh,if_pos ⟨by omega,by simp;omega⟩];rcases(by omega:k=0∨k=1∨k=2∨k=3∨k=4∨k=5∨k=6∨k=7∨k=8∨k=9)with rfl|rfl|rfl|rfl|rfl|rfl|rfl|rfl|rfl|rfl<;>rfl
theorem qdG(u:Unit):Qg prog 141 [str [48,49,50,51,52,53,54,55,56,57]] (.tup [.agg qhg,.v (.bool true)]):=by
 refine Qg.body func141 ntmps141 ?_;have hz:zsL=qhf 0:=by kernel_rfl
 have hl:qhg=qhf 10:=by kernel_rfl
 simp[str];refine Qp.of (fun(k:Nat) st=>k≤10∧∃env,st=⟨21,env,QQ.set 0 ⟨164,256,[qhf k],false,some 1⟩,1⟩∧env 0=.v (.string (bs [48,49,50,51,52,53,54,55,56,57]))∧env 2=.ptr 0 256 0 0∧env 4=.v (.int .i64 (k:Nat))) (fun k=>10-k) 0 ⟨by omega,_,rfl,by simp,by simp,by simp⟩ ?_;rintro k _ ⟨hk,env,rfl,g0,g2,g4⟩;by_cases hk2:k<10
 ·have hd:=qsq k hk2;have hset:=qkz k hk2;obtain⟨b,hb⟩:∃b,b=48+k:=⟨_,rfl⟩;rw[←hb]at hd hset;have hs2:(qhf k).take b++AV.v (.bool true)::(qhf k).drop (b+1)=qhf (k+1):=by rw[←hset,List.set_eq_take_append_cons_drop,if_pos (by rw[qeO];omega)]
  simp[g0,g2,g4,show(k:Int)<10 by omega,hd,show ¬(128:Int)≤(b:Int) by omega,show(b:Int)<256 by omega,show b≤255 by omega,qeO,hs2,XK,QH (show k+1<9223372036854775808 by omega)];exact⟨k+1,⟨by omega,_,⟨rfl,rfl⟩,by simp[g0],by simp[g2],by simp⟩,by omega⟩
 ·have hkE:k=10:=by omega
  subst hkE;have ht:qhg.take 256=qhg:=List.take_of_length_le (by rw[qaZ];exact Nat.le_refl _);simp[g0,g2,g4,←hl,qaZ,ht,qeP,XK];exact .dat _ 9 (by simp[qhg])
theorem qdV{H:Qf}{N id:Nat}(b:Nat)(h:48≤b)(h2:b≤57)(hH:H.b id=some ⟨164,256,[qhg],false,some 1⟩) :
  Qc prog 173 [.ptr id 256 0 0,.v (.int .u8 (b:Int))] H N fun r H' N'=>r=.v (.bool true)∧H'=H∧N'=N:=by
 refine Qc.body func173 ntmps173 ?_;simp[hH,show(b:Int)<256 by omega,show b≤256 by omega,qkA b (by omega),h,h2]
theorem qow{c:UInt8}(h:isD c=true):∃b:Nat,c.toNat=b∧48≤b∧b≤57:=⟨_,rfl,ZW.1 h⟩
theorem qmt{H:Qf}{N id:Nat}(s:List UInt8)(h:∀b∈s,isD b=true)(hl:s.length<9223372036854775808)(hH:H.b id=some ⟨164,256,[qhg],false,some 1⟩) :
  Qc prog 143 [str s,.ptr id 256 0 0] H N fun r H' N'=>r=str []∧H'=H∧N'=N:=by
 refine Qc.body func143 ntmps143 ?_;simp;refine Qp.of (fun(n:Nat) st=>n≤s.length∧∃env,st=⟨22,env,H,N⟩∧env 0=str (s.take n)∧env 1=.ptr id 256 0 0) (fun n=>n) s.length ⟨Nat.le_refl _,_,rfl,by simp,by simp⟩ ?_;rintro n _ ⟨hn,env,rfl,h0,h1⟩;cases n with
 | zero =>simp[h0,h1,str]
 | succ n =>
  have e1:IntKind.i64.wrap (((n+1:Nat):Int)-1)=n:=by rw[Ql (by omega) (by omega)];omega
  have e3:min (n+1) s.length=n+1:=by omega
  have e4:(0:Int)<((n+1:Nat):Int):=by omega
  obtain⟨b,hb,hb1,hb2⟩:=qow (h s[n] (List.getElem_mem (by omega)));simp[-Int.natCast_add,h0,h1,str,e3,e1,Yh,show(n:Int)<((n+1:Nat):Int) by omega,hb];refine(qdV b hb1 hb2 hH).mono ?_;rintro r H' N' ⟨rfl,rfl,rfl⟩;simp[-Int.natCast_add,Y1,abounds,idx,h0,h1,str,e3,e1,show(n:Int)≤((n+1:Nat):Int) by omega];refine⟨n,⟨by omega,?_⟩,by omega⟩;rw[List.take_take,Nat.min_eq_left (by omega)]
theorem qms{H:Qf}{N id:Nat}:Qc prog 142 [str [],.ptr id 256 0 0] H N fun r H' N'=>r=str []∧H'=H∧N'=N:=by refine Qc.body func142 ntmps142 ?_;simp[str];refine Qp.of (fun(n:Unit) st=>∃env,st=⟨16,env,H,N⟩∧env 0=str []) (fun n=>0) () ⟨_,rfl,by simp[str]⟩ ?_;rintro n _ ⟨env,rfl,h0⟩;simp[h0,str]
theorem qez(s:List UInt8)(h:∀b∈s,isD b=true)(hl:s.length<9223372036854775808):Qg prog 103 [str s,str [48,49,50,51,52,53,54,55,56,57]] (str []):=by
 refine Qg.body func103 ntmps103 ?_;by_cases h0:s=[]
 ·subst h0;simp[str,-Qa,-Qb,qhP];exact .dat _ 9 rfl
 ·simp[str,-Qa,-Qb,qhP,h0];refine Qc.pv (qdG ()) rfl (by kernel_rfl) ?_;simp[-qrR,tyA,qkf,qaZ,qeP];refine(qmt s h hl (by simp[qkf])).mono ?_;rintro r H' N' ⟨rfl,rfl,rfl⟩;simp;refine qms.mono ?_;rintro r H' N' ⟨rfl,rfl,rfl⟩;simp;exact .dat _ 9 rfl
end
section
attribute [local simp] Qq Qh alen Num.QB
theorem qfN(s:List UInt8)(h:∀b∈s,isD b=true):Num.val s<10^s.length:=by
 have:∀(k:Nat) (s:List UInt8),s.length=k→(∀b∈s,isD b=true)→Num.val s<10^s.length:=by
  intro k;induction k with
  | zero=>intro s hs _;rw[List.eq_nil_of_length_eq_zero hs];decide
  | succ k ih =>
   intro s hs h;rcases List.eq_nil_or_concat s with rfl|⟨t,c,rfl⟩
   ·simp at hs
   ·rw[List.concat_eq_append]at *;have h1:=ih t (by simp at hs;exact hs) (fun b hb=>h b (by simp[hb]));have h2:=ZW.1 (h c (by simp));rw[Kf,List.length_append,List.length_singleton,Nat.pow_succ];omega
 exact this _ s rfl h
theorem wrap_u8{n:Int}(h0:0≤n)(h:n<256):IntKind.u8.wrap n=n:=by
 have:IntKind.u8.bits=8:=rfl;unfold IntKind.wrap;simp only[this,IntKind.signed];have:(2:Int)^8=256:=by decide
 simp_all;omega
theorem qdW(n:Int):aconv prog 5 3 (.v (.int .u8 n))=some (.v (.int .i64 (IntKind.i64.wrap n))):=by kernel_rfl
attribute [local simp] qdW
def sbL(s:List UInt8):List (List AV):=s.map fun b=>[.v (.int .u8 b.toNat)]
theorem Y9(s:List UInt8):(sbL s).length=s.length:=by simp[sbL]
theorem qpg(s:List UInt8)(i:Nat)(h:i<s.length):(sbL s)[i]?=some [.v (.int .u8 s[i].toNat)]:=by simp[sbL,h]
theorem qkE(s:List UInt8)(h:∀b∈s,isD b=true)(h1:1≤s.length)(h2:s.length≤9):Qg prog 227 [str s] (.tup [.v (.int .i64 (Num.val s)),.v .nilIface]):=by
 refine⟨⟨_,_,func227,by kernel_rfl,rfl⟩,(Qv.data (Q:=fun r=>r=(.tup [.v (.int .i64 (Num.val s)),.v .nilIface])) (Qv.QM func227 rfl (by simp[ntmps227]) ?_)).mono fun r H N h=>h.2.2⟩;obtain⟨c,t,rfl⟩:∃c t,s=c::t:=by
  cases s with
  | nil=>simp at h1
  | cons c t=>exact⟨c,t,rfl⟩
 have hc:=ZW.1 (h c (by simp));have hc1:¬c.toNat=45:=by omega
 have hc2:¬c.toNat=43:=by omega
 have hc1':¬(c.toNat:Int)=45:=by omega
 have hc2':¬(c.toNat:Int)=43:=by omega
 refine Qe.seq (Qd _ _ _ ?_);simp[str,-Qa,-Qb];refine Qe.seq (Qd _ _ _ ?_);simp[-Qa,-Qb];refine Qe.seq (Qe.seq (Qd _ _ _ ?_));simp[-Qa,-Qb,undef,show(t.length:Int)+1<19 by simp at h2;omega,show(0:Int)<(t.length:Int)+1 by omega];refine Qe.cond (b:=true) rfl ?_;simp only[if_true];refine Qe.seq (Qd _ _ _ ?_);simp[-Qa,-Qb];refine Qe.seq (Qe.seq (Qd _ _ _ ?_));simp[-Qa,-Qb,Yh,hc1',hc2'];refine Qe.cond (b:=false) rfl ?_;simp only[Bool.false_eq_true,if_false];refine Qe.skip ?_;refine Qe.seq (Qd _ _ _ ?_);simp[-Qa,-Qb];refine Qe.seq (Qe.seq (Qe.QW (K:=fun st=>∃env,st=⟨77,env,QQ,0⟩∧env 0=str (c::t)∧env 5=str (c::t)∧env 6=.v (.int .i64 0)∧env 46=str (c::t)) 1 ?_ ?_))
 ·simp[str]
 rintro _ ⟨env,rfl,g0,g5,g6,g46⟩;refine Qx.step (u:=.ro (sbL (c::t))) (st1:=⟨77,env,QQ,0⟩) rfl (Qw.qpF (e:=5) (z:=bs (c::t)) rfl (by kernel_rfl) (by kernel_rfl) g46 (by simp[maxLen]at h2⊢;omega)) rfl (Z0 _ _ _ ?_);simp[Y9];refine Qd _ _ _ ?_;simp[-Qa,-Qb];generalize hs:c::t=s at *;have hlen:(t.length:Int)+1=s.length:=by rw[←hs];simp
 have hc3:(s.getD 0 0).toNat=c.toNat:=by rw[←hs];rfl
 have hpow:(10:Nat)^s.length≤1000000000:=Nat.pow_le_pow_right (n:=10) (by omega) h2;rw[hlen];refine Qp.of (fun(i:Nat) st=>i≤s.length∧∃env,st=⟨77,env,QQ,0⟩∧env 5=str s∧env 6=.v (.int .i64 (Num.val (s.take i):Nat))∧env 47=.ro (sbL s)∧env 48=.v (.int .i64 (s.length:Nat))∧env 49=.v (.int .i64 (i:Nat))) (fun i=>s.length-i) 0
  ⟨by omega,_,rfl,by simp[g5],by simp[g6,Num.val],by simp,by simp,by simp⟩ ?_
 rintro i _ ⟨hi,env,rfl,g5,g6,g47,g48,g49⟩;by_cases hiN:i<s.length
 ·have hd:=ZW.1 (h s[i] (List.getElem_mem hiN));have hv:=qfN (s.take i) (fun b hb=>h b (List.mem_of_mem_take hb));have hv2:=qfN (s.take (i+1)) (fun b hb=>h b (List.mem_of_mem_take hb));have e0:s.take (i+1)=s.take i++[s[i]]:=by rw[List.take_add_one];simp[hiN]
  rw[e0]at hv2;rw[Kf]at hv2;have hl9:(s.take i++[s[i]]).length≤9:=by simp;omega
  have hp2:(10:Nat)^(s.take i++[s[i]]).length≤1000000000:=Nat.pow_le_pow_right (n:=10) (by omega) hl9;have hv3:Num.val (s.take i)*10+(s[i].toNat-48)<1000000000:=Nat.lt_of_lt_of_le hv2 hp2;clear hv hv2 hp2;have e9:Num.val (s.take (i+1))=Num.val (s.take i)*10+(s[i].toNat-48):=by rw[e0,Kf]
  clear e0;generalize hx:Num.val (s.take i)=x at *;generalize hb:s[i].toNat=b at *;have w1:IntKind.u8.wrap ((b:Int)-48)=((b-48:Nat):Int):=by rw[wrap_u8 (by omega) (by omega)];omega
  have w2:IntKind.i64.wrap ((b-48:Nat):Int)=((b-48:Nat):Int):=wrapn (by omega);have w3:IntKind.i64.wrap ((x:Int)*10)=((x*10:Nat):Int):=by rw[Ql (by omega) (by omega)];omega
  have w4:IntKind.i64.wrap (((x*10:Nat):Int)+((b-48:Nat):Int))=((x*10+(b-48):Nat):Int):=by rw[Ql (by omega) (by omega)];omega
  have w5:IntKind.i64.wrap ((i:Int)+1)=((i+1:Nat):Int):=by rw[Ql (by omega) (by omega)];omega
  have w6:¬(9:Int)<((b-48:Nat):Int):=by omega
  simp[-Int.natCast_add,-Int.natCast_mul,-Qa,-Qb,g5,g6,g47,g48,g49,hiN,qpg s i hiN,hb,w1,w2,w3,w4,w5,w6];exact⟨i+1,⟨by omega,by rw[e9],rfl⟩,by omega⟩
 ·have hiE:i=s.length:=by omega
  subst hiE;rw[List.take_length]at g6;have hc4:(s[0]'(by omega)).toNat=c.toNat:=by subst hs;rfl
  simp[-Qa,-Qb,g47,g48,g49];refine Qd _ _ _ ?_;simp[-Qa,-Qb,g5,g6,str,Yh,show 0<s.length by omega,hc4,hc1'];exact .dat _ 9 rfl
theorem qpI:∃ms,prog.underlying 209=some (.interface ms):=by
 have h:(match prog.underlying 209 with|some (.interface _)=>true|_=>false)=true:=by kernel_rfl
 split at h
 ·rename_i ms hq;exact⟨ms,hq⟩
 ·cases h
theorem qnE(s:List UInt8)(h:∀b∈s,isD b=true)(h1:1≤s.length)(h2:s.length≤9):Qg prog 206 [str s] (.tup [.v (.int .i64 (Num.val s:Nat)),.v .nilIface]):=by
 refine⟨⟨_,_,func206,by kernel_rfl,rfl⟩,(Qv.data (Q:=fun r=>r=(.tup [.v (.int .i64 (Num.val s:Nat)),.v .nilIface])) (Qv.QM func206 rfl (by simp[ntmps206]) ?_)).mono fun r H N h=>h.2.2⟩;refine Qe.seq (Qd _ _ _ ?_);simp[-Qa,-Qb];refine Qe.seq (Qd _ _ _ ?_);simp[-Qa,-Qb];refine Qc.pu (qkE s h h1 h2) ?_;simp[-Qa,-Qb];refine Qe.seq (Qe.seq (Qe.QW (K:=fun st=>∃env,st=⟨18,env,QQ,0⟩∧env 4=.v (.int .i64 (Num.val s:Nat))∧env 11=.v .nilIface) 1 ?_ ?_))
 ·simp
 rintro _ ⟨env,rfl,g4,g11⟩;obtain⟨ms,hms⟩:=qpI;refine Qx.step (u:=.v (.bool false)) (st1:=⟨18,env,QQ,0⟩) rfl (Qw.nilIface (x:=.tmp 11) rfl (.inr rfl) hms g11) rfl (Z0 _ _ _ ?_);simp;refine Qd _ _ _ ?_;simp;refine Qd _ _ _ ?_;simp[g4];exact .dat _ 9 rfl
end
section
def chN(s:List UInt8):Nat:=(s.length+8)/9
def qdO(s:List UInt8)(k:Nat):List UInt8:=(s.take (s.length-9*k)).drop (s.length-9*k-9)
def ch(s:List UInt8):List Nat:=(List.range (chN s)).map fun k=>Num.val (qdO s k)
theorem qaw(s:List UInt8):(ch s).length=chN s:=by simp[ch]
theorem qeE(a b:List UInt8):Num.val (a++b)=Num.val a*10^b.length+Num.val b:=by
 have:∀(b:List UInt8) (x:Nat),b.foldl (fun a b=>a*10+(b.toNat-48)) x=x*10^b.length+b.foldl (fun a b=>a*10+(b.toNat-48)) 0:=by
  intro b;induction b with
  | nil=>intro x;simp
  | cons c b ih =>intro x;simp only[List.foldl_cons,List.length_cons];rw[ih (x*10+(c.toNat-48)),ih (0*10+(c.toNat-48)),Nat.zero_mul,Nat.zero_add,Nat.add_mul,Nat.pow_succ,Nat.mul_assoc,Nat.mul_comm 10,Nat.add_assoc]
 unfold Num.val;rw[List.foldl_append,this]
theorem qa9(s:List UInt8)(k:Nat)(h:k<chN s):1≤(qdO s k).length∧(qdO s k).length≤9:=by unfold chN at h;simp only[qdO,List.length_drop,List.length_take];omega
theorem qeW(s:List UInt8)(h:∀b∈s,isD b=true)(k:Nat):∀b∈qdO s k,isD b=true:=fun b hb=>h b (List.mem_of_mem_take (List.mem_of_mem_drop hb))
theorem qqG(s:List UInt8)(h:∀b∈s,isD b=true):∀x∈ch s,x<1000000000:=by intro x hx;simp only[ch,List.mem_map,List.mem_range]at hx;obtain⟨k,hk,rfl⟩:=hx;exact Nat.lt_of_lt_of_le (qfN _ (qeW s h k)) (Nat.pow_le_pow_right (n:=10) (by omega) (qa9 s k hk).2)
theorem qqH(s:List UInt8):lv 1000000000 (ch s)=Num.val s:=by
 have:∀(n:Nat) (s:List UInt8),s.length≤n→lv 1000000000 (ch s)=Num.val s:=by
  intro n;induction n with
  | zero=>intro s hs;rw[List.eq_nil_of_length_eq_zero (Nat.le_zero.1 hs)];rfl
  | succ n ih =>
   intro s hs;by_cases h0:s.length=0
   ·rw[List.eq_nil_of_length_eq_zero h0];rfl
   ·have e1:ch s=Num.val (qdO s 0)::ch (s.take (s.length-9)):=by
     unfold ch;have e:chN s=chN (s.take (s.length-9))+1:=by simp only[chN,List.length_take];omega
     rw[e,List.range_succ_eq_map,List.map_cons,List.map_map];congr 1;refine List.map_congr_left fun k hk=>?_;simp only[List.mem_range,chN,List.length_take]at hk;simp only[Function.comp];congr 1;simp only[qdO,List.length_take,List.take_take];congr 1
     ·omega
     ·congr 1;omega
    rw[e1,lv,ih _ (by simp only[List.length_take];omega)];have e2:qdO s 0=s.drop (s.length-9):=by simp[qdO]
    rw[e2];have e3:=qeE (s.take (s.length-9)) (s.drop (s.length-9));rw[List.take_append_drop]at e3;rw[e3];by_cases h9:s.length≤9
    ·rw[show s.length-9=0 by omega];simp[Num.val]
    ·rw[List.length_drop,show s.length-(s.length-9)=9 by omega,show(10:Nat)^9=1000000000 by decide,Nat.mul_comm];omega
 exact this _ s (Nat.le_refl _)
def chY(s:List UInt8):List (List AV):=(ch s).map fun(x:Nat)=>[.v (.int .i64 (x:Int))]
theorem qbb(s:List UInt8):(chY s).length=chN s:=by simp[chY,qaw]
theorem qhT(s:List UInt8)(k:Nat)(h:k<(chY s).length):(chY s)[k]=[.v (.int .i64 (Num.val (qdO s k):Int))]:=by simp[chY,ch]
def chV(s:List UInt8):AV:=.fn (.func 205) [] [.rop [str s]]
theorem qba(s:List UInt8):Qu 9 (chV s)=true:=by simp[chV,Qu,str]
attribute [local simp] Qq Qh
theorem qdQ(s:List UInt8)(h:∀b∈s,isD b=true)(hs:s.length≤1000000000):qny prog 205 [.rop [str s]] 1 (chY s):=by
 intro id r H N hp hb hL hsz hps I F h0 step;refine⟨⟨_,_,func205,by kernel_rfl,rfl⟩,Qv.QM func205 rfl (by simp[ntmps205]) (Qe.seq (Qd _ _ _ ?_))⟩;simp[str];refine Qe.block (Qe.loop (fun(k:Nat) st=>∃env H N,st=⟨26,env,H,N⟩∧k≤chN s∧env 0=.yl id∧env 1=.rop [str s]∧env 3=.v (.int .i64 ((s.length:Int)-9*k))∧I k H N∧H.L id=some r) (fun k=>chN s-k) 0 ⟨_,_,_,rfl,Nat.zero_le _,rfl,rfl,by simp,h0,hL⟩ ?_);rintro k _ ⟨env,H,N,rfl,hk,g0,g1,g3,hI,hL⟩;refine Qe.seq (Qd _ _ _ ?_);by_cases hkN:k<chN s
 ·have hk':=hkN;unfold chN at hk';obtain⟨m,hm⟩:∃m,m=s.length-9*k:=⟨_,rfl⟩;have hm1:(s.length:Int)-9*k=m:=by omega
  have hm2:0<m:=by omega
  have hm3:m≤s.length:=by omega
  rw[hm1]at g3;simp[g3,hm2];have w1:IntKind.i64.wrap ((m:Int)-9)=(m:Int)-9:=Ql (by omega) (by omega);have w2:(if 9<(m:Int)then(m:Int)-9 else 0)=((m-9:Nat):Int):=by split<;>omega
  have hsl:(s.take m).drop (m-9)=qdO s k:=by rw[hm];rfl
  refine Qe.seq (Qe.block (Qe.seq (Qd _ _ _ ?_)));have w3:((m-9:Nat):Int)≤(m:Int):=by omega
  simp[g1,g3,str,w1,amax,w2,Y1,abounds,idx,w3,hm3,hsl];refine Qc.pu (qnE (qdO s k) (qeW s h k) (qa9 s k hkN).1 (qa9 s k hkN).2) ?_;simp;refine Qe.seq (Qe.QW (K:=fun st=>∃env,st=⟨26,env,H,N⟩∧env 0=.yl id∧env 1=.rop [str s]∧env 3=.v (.int .i64 (m:Int))∧env 22=.yl id∧env 23=.v (.int .i64 (Num.val (qdO s k):Nat))) 2 ?_ ?_)
  ·simp[g0,g1,g3]
  ·rintro _ ⟨env,rfl,g0,g1,g3,g22,g23⟩;simp;refine Qx.yield (id:=id) (r:=r) rfl rfl rfl g22 hL hp hb (by simp[hsz]) hps ?_;have hst:=step k (by rw[qbb];omega) H N hI hL;rw[qhT]at hst;unfold Round at hst;simp[g23];refine hst.mono fun e s1 ⟨a1,a2,a3⟩=>⟨a1,a2,a3.mono fun e2 s2 ⟨b1,j,b2,b3⟩=>⟨b1,j,b2,?_⟩⟩;refine⟨_,rfl,Z0 _ _ _ ?_⟩;cases j with
   | none =>
    simp;refine Qe.cond (b:=false) rfl (Qe.skip ?_);refine Qd _ _ _ ?_;have hr:({ r with pend:=none }:Zw)=r:=by cases r;simp at hp;subst hp;rfl
    rw[if_pos rfl]at b3;simp[g3,w1];exact⟨k+1,⟨_,_,_,⟨rfl,rfl,rfl⟩,by omega,by simpa using g0,by simpa[str]using g1,by simp;omega,b3,by simpa[Qf.Je]using hr⟩,by omega⟩
   | some j =>simp;refine Qe.cond (b:=true) rfl (Qe.ret ?_);rw[if_neg (by simp)]at b3;simp;exact .inr ⟨some j,by simp,b3,by simp[Qf.Je]⟩
 ·have hkE:k=chN s:=by omega
  subst hkE;have hz:¬9*(chN s:Int)<(s.length:Int):=by unfold chN;omega
  simp[g3,hz];refine .inl ⟨?_,hL⟩;rw[qbb];exact hI
theorem qdR(s:List UInt8):Qg prog 179 [str s] (chV s):=by
 refine Qg.body func179 ntmps179 ?_;simp[aptr,Qs,acells,str];refine Frz.fn _ _ _ _ _ (fun _=>.v undef) (fun _=>.ptr 0 1 0 0) rfl rfl (fun j x' h=>by simp at h) (fun j x' h=>by simp at h) (fun j x' h=>?_) (fun j x' h=>?_)
 ·cases j with
  | zero=>simp
  | succ j=>simp at h
 ·cases j with
  | zero =>simp at h;subst h;exact .cell 0 1 0 0 ⟨9,1,[[str s]],false,some 1⟩ [str s] [str s] trivial (by simp[str]) rfl rfl rfl (fun _=>str s) (fun j x h=>by cases j<;>simp at h⊢ ;try exact h.symm) (fun j x h=>by cases j<;>simp at h;subst h;exact .dat _ 9 rfl)
  | succ j=>simp at h
end
section
attribute [local simp] Qq Qh QJ Q7
def qkh(H:Qf)(N:Nat)(x:AV)(xs:List Nat):Prop:=(xs=[]∧x=.v (.slice none 0 0))∨(∃id cap,0<id∧id<N∧x=.ref id 1 0 xs.length none∧H.b id=some ⟨3,1,nl xs,false,cap⟩)
theorem qis{H:Qf}{N:Nat}{x:AV}{xs:List Nat}(c:Nat)(h:qkh H N x xs)(hN:0<N)(hl:xs.length<1000000000) :
  ∃r H2 N2,(∀n env,aappend prog ⟨n,env,H.set N ⟨3,1,[[.v (.int .i64 (c:Int))]],false,some 1⟩,N+1⟩ 82 x (.ref N 1 0 1 none)=some (r,⟨n,env,H2,N2⟩))∧qkh H2 N2 r (xs++[c])∧H2.b 0=H.b 0∧N<N2∧H2.L=H.L:=by
 rcases h with⟨rfl,rfl⟩|⟨id,cap,h0,h1,rfl,h3⟩
 ·have e:nl [c]=[[.v (.int .i64 (c:Int))]]:=rfl;refine⟨.ref (N+1) 1 0 1 none,(H.set N ⟨3,1,nl [c],false,some 1⟩).set (N+1) ⟨3,1,nl [c],false,none⟩,N+2,fun n env=>?_,.inr ⟨N+1,none,by omega,by omega,rfl,by simp⟩,?_,by omega,rfl⟩
  ·simp[aappend,QA,Zp,Zb,e,maxLen]
  ·simp[show ¬0=N by omega]
 ·have e:nl [c]=[[.v (.int .i64 (c:Int))]]:=rfl;have e2:nl xs++nl [c]=nl (xs++[c]):=by simp[nl]
  refine⟨.ref (N+1) 1 0 (xs.length+1) none,((H.set N ⟨3,1,nl [c],false,some 1⟩).kill id).set (N+1) ⟨3,1,nl (xs++[c]),false,none⟩,N+2,fun n env=>?_,.inr ⟨N+1,none,by omega,by omega,by simp,by simp⟩,?_,by omega,rfl⟩
  ·rw[←e2];have e3:(nl xs).take xs.length=nl xs:=List.take_of_length_le (by rw[QJ];omega);simp[aappend,QA,Zp,Zb,e,h3,show ¬id=N by omega,QJ,e3,show(xs.length+1)*8≤140737488355328 by omega,maxLen,show xs.length+1≤9223372036854775807 by omega]
  ·simp[show ¬0=N by omega,show ¬0=id by omega]
theorem qm2{H H':Qf}{N:Nat}{x:AV}{xs:List Nat}(hb:H'.b=H.b)(h:qkh H N x xs):qkh H' N x xs:=by unfold qkh at *;rw[hb];exact h
theorem qgq{H:Qf}{N:Nat}{x:AV}{xs:List Nat}(h:qkh H N x xs):acells x=[x]∧x.one=true:=by
 rcases h with⟨_,rfl⟩|⟨id,cap,_,_,rfl,_⟩
 ·exact⟨rfl,rfl⟩
 ·exact⟨rfl,rfl⟩
theorem qpd(z:Int):Qz prog 82 1 [(0,.v (.int .i64 z))]=some (3,[[.v (.int .i64 z)]]):=by kernel_rfl
attribute [local simp] qpd
theorem qit{H:Qf}{N:Nat}{x:AV}{xs:List Nat}(b:Blk)(h:qkh H N x xs):qkh (H.set 0 b) N x xs:=by
 rcases h with h|⟨id,cap,h0,h1,h2,h3⟩
 ·exact .inl h
 ·exact .inr ⟨id,cap,h0,h1,h2,by simp[show ¬id=0 by omega,h3]⟩
theorem qlq{H:Qf}{N:Nat}{x:AV}{xs:List Nat}{F G:Nat→Prop}(hF:∀id,F id)(h:qkh H N x xs):Frz H F G x (.ro (nl xs)):=by
 rcases h with⟨rfl,rfl⟩|⟨id,cap,h0,h1,rfl,h3⟩
 ·exact Frz.nil ..
 ·have:=qaG (k:=8) (off:=0) (len:=xs.length) (mx:=none) h3 rfl (by simp) (by rw[List.all_eq_true];intro e he;exact List.all_eq_true.1 (qlI 7 xs) e (List.mem_of_mem_drop (List.mem_of_mem_take he)));have:=qq1 (F:=F) (G:=G) (fun id _ _=>hF id) this;simpa[List.take_of_length_le,QJ]using this
theorem qcd(s:List UInt8)(h:∀b∈s,isD b=true)(hs:s.length≤1000000000):Qg prog 204 [.v (.slice none 0 0),chV s] (.ro (nl (ch s))):=by
 refine Qg.body func204 ntmps204 ?_;simp[chV];refine Kn.iter (ys:=chY s) rfl (qdQ s h hs) (by simp) rfl
  (fun k H' N'=>∃x,H'.b 0=some ⟨82,1,[[x]],false,some 1⟩∧qkh H' N' x ((ch s).take k)∧0<N')
  (fun j H' N'=>False) ?_ ?_ ?_ ?_ ?_ ?_
 ·rintro k H N H' hb ⟨x,h1,h2,h3⟩;exact⟨x,by rw[hb];exact h1,qm2 hb h2,h3⟩
 ·exact fun j H N H' hb h=>h
 ·exact⟨_,by simp,.inl ⟨by simp,rfl⟩,by omega⟩
 ·rintro k hk H N ⟨x,h0,hg,hN⟩;simp[qhT];intro H1 hb;have e0:=h0;rw[←hb]at e0;have hg1:=qm2 hb hg;rw[qbb]at hk;have hkl:k<(ch s).length:=by rw[qaw];exact hk
  obtain⟨r,H2,N2,hr,hg2,hz,hn,hL⟩:=qis (H:=H1) (N:=N) (Num.val (qdO s k)) hg1 hN (by rw[List.length_take,qaw];unfold chN;omega);obtain⟨ec,eo⟩:=qgq hg2;have hz2:=hz.trans e0;simp[e0,hr,hz2,ec,eo,hL];have et:(ch s).take (k+1)=(ch s).take k++[Num.val (qdO s k)]:=by rw[List.take_add_one];simp[ch,hk]
  rw[et];exact⟨qit _ hg2,by omega⟩
 ·rintro H' N' hL ⟨x,h0,hg,hN⟩;rw[qbb,List.take_of_length_le (by rw[qaw];omega)]at hg;simp[h0];exact qlq (fun _=>trivial) hg
 ·rintro j H' N' _ h;exact h.elim
theorem qgb(s:List UInt8)(h:∀b∈s,isD b=true)(hs:s.length≤1000000000):Qg prog 178 [chV s] (.ro (nl (ch s))):=by refine Qg.body func178 ntmps178 ?_;simp;refine Qc.pv (qcd s h hs) (by simp[qba]) (Qo _) ?_;simp;exact .dat _ 9 (Qo _)
end
section
attribute [local simp] Qq Qh QJ Q7 Yr J5
def zs(z:Int):AV:=str (il z)
theorem Qj(z:Int)(k:Nat):Qu (k+1) (zs z)=true:=rfl
theorem qiD(z:Int):([45] <+: il z)=(z<0):=by
 apply propext;unfold il;constructor
 ·rintro⟨t,ht⟩;split at ht
  ·assumption
  ·exact absurd ht.symm JU
 ·intro h;rw[if_pos h];exact⟨_,rfl⟩
theorem qfc(z:Int):(if[45] <+: il z then(il z).drop 1 else il z)=dg z.natAbs:=by
 by_cases h:z<0
 ·rw[if_pos (by rw[qiD];exact h)];simp[il,h]
 ·rw[if_neg (by rw[qiD];exact h)];simp[il,h]
theorem Z3(z:Int):(il z).length=nd z.natAbs+(if z<0 then 1 else 0):=by unfold il nd;split<;>simp
theorem Vc(z:Int)(hs:nd z.natAbs<1000000000):Qg prog 102 [zs z,str [45]] (.tup [str (dg z.natAbs),.v (.bool (decide (z<0)))]):=by have:=qcp (il z) [45] (by rw[Z3];split<;>omega) (by decide);rw[show([45]:List UInt8).length=1 from rfl,qfc]at this;simpa only[qiD,zs]using this
theorem qjl(z:Int)(hs:nd z.natAbs<1000000000):Qg prog 148 [zs z] (nm (decide (z<0)) z.natAbs):=by
 refine Qg.body func148 ntmps148 ?_;simp;refine Qc.pu (Vc z hs) ?_;simp;refine Qc.pv (qdR (dg z.natAbs)) rfl (qba _) ?_;simp;refine Qc.pv (qgb (dg z.natAbs) (YA _) (by unfold nd at hs;omega)) (by simp[qba]) (Qo _) ?_;simp;refine Qc.pv (Kd (ch (dg z.natAbs)) (by rw[qaw];unfold chN;unfold nd at hs;omega)) (by rw[List.all_cons,Qo];rfl) (Qo _) ?_;have e:AV.ro (nl (cutz (ch (dg z.natAbs))))=lbs z.natAbs:=by unfold lbs;rw[ZO (B:=1000000000) (by decide) _ (qqG _ (YA _)),qqH,Kk]
 rw[e];simp[WH];exact .dat _ 9 (Zz _ _ _)
theorem qib(z:Int)(hs:nd z.natAbs<1000000000):Qg prog 68 [zs z] (.v (.int .i64 (nd z.natAbs:Nat))):=by refine Qg.body func68 ntmps68 ?_;simp;have:=Kc (il z) [45] (by rw[Z3];split<;>omega) (by decide);rw[show([45]:List UInt8).length=1 from rfl,qfc]at this;refine Qc.pu this ?_;simp[str];exact .dat _ 9 rfl
theorem dg0{n:Nat}:(dg n=[48])=(n=0):=by
 apply propext;constructor
 ·intro h;have:=Kk n;rw[h]at this;simpa[Num.val]using this.symm
 ·rintro rfl;rw[QN (by omega)];rfl
theorem qcj(z:Int)(hs:nd z.natAbs<1000000000):Qg prog 67 [zs z] (.v (.bool true)):=by
 refine Qg.body func67 ntmps67 ?_;have hne:¬bs (dg z.natAbs)={ data:=#[] }:=fun h=>qod _ (Z8 (b:=[]).1 h);by_cases h0:z.natAbs=0
 ·have hz:¬z<0:=by omega
  have he:bs (dg z.natAbs)={ data:=#[48] }:=Z8 (b:=[48]).2 (dg0.symm▸h0);simp;refine Qc.pu (Vc z hs) ?_;simp[-Qa,-Qb,str,he,hz];exact .dat _ 9 rfl
 ·have he:¬bs (dg z.natAbs)={ data:=#[48] }:=fun h=>h0 (dg0▸Z8 (b:=[48]).1 h);obtain⟨b,l,e,hb1,hb2⟩:=XA (n:=z.natAbs) (by omega);have hb3:¬(b.toNat:Int)=48:=by omega
  have hb4:¬b.toNat=48:=by omega
  have ht:=qez (dg z.natAbs) (YA _) (by unfold nd at hs;omega);simp;refine Qc.pu (Vc z hs) ?_;rw[e]at he hne ht⊢;simp[-Qa,-Qb,str,he,hne,Yh,hb3,show(0:Int)<(l.length:Int)+1 by omega];refine Qc.pu ht ?_;simp[-Qa,-Qb,str,qhP];exact .dat _ 9 rfl
theorem KQ(z:Int)(hs:nd z.natAbs≤4096):Qg prog 32 [zs z] (.v (.int .i64 0)):=by refine Qg.body func32 ntmps32 ?_;simp;refine Qc.pu (qcj z (by omega)) ?_;simp;refine Qc.pu (qib z (by omega)) ?_;simp[show ¬(4096:Int)<(nd z.natAbs:Int) by omega];exact .dat _ 9 rfl
end
end Go.AX.Run
namespace Go.AX
open Go.RowKit
section
variable{P:Program}
theorem Qw.qnB{st:St}{o:Oper}{c:Call}{t tx e:TypeId}{s x:Operand}(ho:o.op=.call c)(hcl:c.callee=.builtin .append)(ha:c.args=#[s,x])(hat:c.argTypes=#[t,tx])(hu:P.underlying t=some (.slice e))(ht:ZQ P e=true)(hux:P.underlying tx=some .string)
  (hsl:qm6 (ev st s)=true) (hz:ev st x=.v (.string ⟨#[]⟩)):Qw P st o (ev st s) st:=fun E B w0 a w hr=>by
 have hexec:∀v y w' ,(Builtin.append_ #[t,tx] o.type #[a.eval s,a.eval x]).run P w=.ok y w'→v=y→(execOp a.eval o).run P w=.ok (.value v) w':=fun v y w' hrun hv=>by subst hv;simp only[execOp,ho,resolve,hcl,ha,hat,invoke,builtin,Sem.run_bind,Sem.run_pure,Result.andThen_ok,List.map_toArray,List.map_cons,List.map_nil,hrun]
 have hds:=hr.ev s;have hdx:=hr.ev x;rw[hz]at hdx;have hy:a.eval x=.string ⟨#[]⟩:=by generalize hq:a.eval x=q at hdx;cases hdx;rfl
 refine⟨a.eval s,w,E,hexec _ _ _ ?_ rfl,Env.le.refl E,QD.refl E w,hr,hds⟩;have hS:∃A n c,a.eval s=.slice A n c∧n≤c:=by
  generalize hq:a.eval s=q at hds;generalize hes:ev st s=es at hds hsl;cases hds<;>simp only[qm6]at hsl<;>(try cases hsl)
  ·split at hsl<;>first|(rename_i heq;cases heq;exact⟨_,_,_,rfl,Nat.le_refl _⟩)|(rename_i heq;cases heq)|(cases hsl)
  ·rename_i hc' _ _ _ _;exact⟨_,_,_,rfl,hc'⟩
  ·rename_i hlen _ _;exact⟨_,_,_,rfl,hlen⟩
 obtain⟨As,n,cs,hse,hle⟩:=hS;rw[hse,hy];have h0:(ByteArray.mk #[]).size=0:=rfl;cases As<;>simp[Builtin.append_,run_underlying hu,run_underlying hux,QG ht,Builtin.lenOf,h0,hle,Builtin.firstCells,loadCells,storeCells]
end
end Go.AX
namespace Go.AX.Run
open Go.RowKit Go.Proofs Go.AX Go.Num Tryz
section
attribute [local simp] Qq Qh Qk
theorem qst:abinop prog .eql 205 (.v (.pointer none)) (.v (.pointer none))=some (.v (.bool true)):=by kernel_rfl
theorem qsu(id:Nat):abinop prog .eql 205 (.ptr id 2 0 0) (.v (.pointer none))=some (.v (.bool false)):=by kernel_rfl
theorem qri(id:Nat):abinop prog .neq 205 (.ptr id 2 0 0) (.ptr id 2 0 0)=some (.v (.bool false)):=by
 have h:ZQ prog 207=true:=by kernel_rfl
 have hu:prog.underlying 205=some (.pointer 207):=by kernel_rfl
 simp[abinop,aeq,hu,h]
attribute [local simp] qst qsu qri
def qah(a x:AV):Blk:=⟨207,2,[[a,x]],false,some 1⟩
theorem qtX:∀f∈[230],qp6 prog f Extern.AbiNoEscape.same:=fun f hf=>by simp only[List.mem_cons,List.not_mem_nil,or_false]at hf;subst hf;exact⟨_,func230,by kernel_rfl,by kernel_rfl,by kernel_rfl,by kernel_rfl⟩
theorem qbE{st:St}{o:Oper}{t:TypeId}{x:Operand}{ty:TypeId}(ho:o.op=.call ⟨.value (.func 230),#[x],#[t]⟩):Qw prog st o (ev st x) st:=by
 refine Qw.ext (qtX _ (by simp)) ho rfl fun E w ys hys hd=>?_;have hsz:ys.size=1:=hys;have h0:=hd 0 x rfl;refine⟨ys.getD 0 undef,?_,h0⟩;have:ys=#[ys.getD 0 undef]:=by
  apply Array.ext
  ·simp[hsz]
  ·intro i h1 h2;have:i=0:=by omega
   subst this;simp[Array.getD_eq_getD_getElem?,Array.getElem?_eq_getElem h1]
 rw[this];rfl
theorem WI{H:Qf}{N id:Nat}{a x:AV}(hb:H.b id=some (qah a x))(ha:a=.v (.pointer none)∨a=.ptr id 2 0 0) :
  Qc prog 208 [.ptr id 2 0 0] H N fun r H' N'=>H'=H.set id (qah (.ptr id 2 0 0) x)∧N'=N:=by
 refine⟨⟨_,_,func208,by kernel_rfl,rfl⟩,Qv.QM func208 rfl (by simp[ntmps208]) (Qe.seq (Qd _ _ _ ?_))⟩;rcases ha with rfl|rfl
 ·simp[hb,qah];refine Qe.cond (b:=true) rfl ?_;simp only[if_true];refine Qe.QW (K:=fun st=>∃env,st=⟨20,env,H,N⟩∧env 7=.ptr id 2 0 0∧env 8=.ptr id 2 0 0) 2 ?_ ?_
  ·simp
  rintro _ ⟨env,rfl,g7,g8⟩;refine Qx.step (u:=.ptr id 2 0 0) (st1:=⟨20,env,H,N⟩) rfl (Qw.qmr (u:=207) (x:=.tmp 8) rfl (by kernel_rfl) (by kernel_rfl) (by kernel_rfl) (by simp) g8 hb rfl (by simp[qah]) (by omega)) rfl ?_;refine Qx.step (u:=.ptr id 2 0 0) rfl (qbE (x:=.tmp 9) (ty:=0) rfl) rfl ?_;refine Qx.step (u:=.ptr id 2 0 0) rfl (Qw.qgp (u:=207) (x:=.tmp 10) rfl (by kernel_rfl) (by kernel_rfl) (by kernel_rfl) (by simp) rfl hb rfl rfl (by simp[qah])) rfl (Z0 _ _ _ ?_);simp[g7,hb,qah]
 ·simp[hb,qah];refine Qe.cond (b:=false) rfl ?_;simp only[Bool.false_eq_true,if_false];refine Qd _ _ _ ?_;simp[hb,qah];exact(Xf hb).symm
end
section
attribute [local simp] Qq Qh Qk
def Buf(H:Qf)(N id:Nat)(x:AV)(bs:List UInt8):Prop:=(bs=[]∧x=.v (.slice none 0 0))∨∃j cap,id<j∧j<N∧x=.ref j 1 0 bs.length none∧H.b j=some ⟨5,1,sbL bs,false,cap⟩
def Bld(H:Qf)(N id:Nat)(bs:List UInt8):Prop:=∃a x,H.b id=some (qah a x)∧id<N∧(a=.v (.pointer none)∨a=.ptr id 2 0 0)∧Buf H N id x bs
theorem qju(a b:List UInt8):sbL (a++b)=sbL a++sbL b:=by simp[sbL]
theorem qci{H:Qf}{N id:Nat}{x:AV}{bs:List UInt8}(h:Buf H N id x bs):acells x=[x]∧x.one=true:=by
 rcases h with⟨_,rfl⟩|⟨j,cap,_,_,rfl,_⟩
 ·exact⟨rfl,rfl⟩
 ·exact⟨rfl,rfl⟩
theorem qa5{H:Qf}{N id:Nat}{x:AV}{bs:List UInt8}(b:Blk)(h:Buf H N id x bs):Buf (H.set id b) N id x bs:=by
 rcases h with h|⟨j,cap,h0,h1,h2,h3⟩
 ·exact .inl h
 ·exact .inr ⟨j,cap,h0,h1,h2,by simp[show ¬j=id by omega,h3]⟩
theorem qkO{H:Qf}{N id:Nat}{x:AV}{bs:List UInt8}(c:UInt8)(h:Buf H N id x bs)(hN:id<N)(hl:bs.length<1000000000) :
  ∃r H2 N2,(∀n env,aappend prog ⟨n,env,H.set N ⟨5,1,[[.v (.int .u8 c.toNat)]],false,some 1⟩,N+1⟩ 116 x (.ref N 1 0 1 none)=some (r,⟨n,env,H2,N2⟩))∧Buf H2 N2 id r (bs++[c])∧(∀j,j≤id→H2.b j=H.b j)∧N<N2∧H2.L=H.L:=by
 have e:sbL [c]=[[.v (.int .u8 c.toNat)]]:=rfl;rcases h with⟨rfl,rfl⟩|⟨j,cap,h0,h1,rfl,h3⟩
 ·refine⟨.ref (N+1) 1 0 1 none,(H.set N ⟨5,1,sbL [c],false,some 1⟩).set (N+1) ⟨5,1,sbL [c],false,none⟩,N+2,fun n env=>?_,.inr ⟨N+1,none,by omega,by omega,rfl,by simp⟩,fun j hj=>?_,by omega,rfl⟩
  ·simp[aappend,QA,Zp,Zb,e,maxLen]
  ·simp[show ¬j=N+1 by omega,show ¬j=N by omega]
 ·have e2:sbL bs++sbL [c]=sbL (bs++[c]):=(qju _ _).symm;refine⟨.ref (N+1) 1 0 (bs.length+1) none,((H.set N ⟨5,1,sbL [c],false,some 1⟩).kill j).set (N+1) ⟨5,1,sbL (bs++[c]),false,none⟩,N+2,fun n env=>?_,.inr ⟨N+1,none,by omega,by omega,by simp,by simp⟩,fun i hi=>?_,by omega,rfl⟩
  ·rw[←e2];have e3:(sbL bs).take bs.length=sbL bs:=List.take_of_length_le (by rw[Y9];omega);simp[aappend,QA,Zp,Zb,e,h3,show ¬j=N by omega,Y9,e3,show(bs.length+1)≤140737488355328 by omega,maxLen,show bs.length+1≤9223372036854775807 by omega]
  ·simp[show ¬i=N+1 by omega,show ¬i=N by omega,show ¬i=j by omega]
theorem qbL(z:Int):Qz prog 116 1 [(0,.v (.int .u8 z))]=some (5,[[.v (.int .u8 z)]]):=by kernel_rfl
attribute [local simp] qbL
theorem qdt{H:Qf}{N id:Nat}{bs:List UInt8}(c:UInt8)(h:Bld H N id bs)(hl:bs.length<1000000000) :
  Qc prog 181 [.ptr id 2 0 0,.v (.int .u8 c.toNat)] H N fun r H' N'=>Bld H' N' id (bs++[c])∧(∀j,j<id→H'.b j=H.b j)∧H'.L=H.L∧N≤N':=by
 obtain⟨a,x,hb,hN,ha,hx⟩:=h;refine Qc.body func181 ntmps181 ?_;simp;refine(WI hb ha).mono ?_;rintro r H' N' ⟨rfl,rfl⟩;have hx2:=qa5 (qah (.ptr id 2 0 0) x) hx;obtain⟨r2,H2,N2,hr,hx3,hz,hn,hL⟩:=qkO c hx2 hN hl;have hz2:H2.b id=some (qah (.ptr id 2 0 0) x):=by rw[hz id (by omega)];simp
 obtain⟨ec,eo⟩:=qci hx3;unfold qah at hr hz2;simp[qah,hr,hz2,ec,eo];refine⟨⟨.ptr id 2 0 0,r2,by simp[qah],by omega,.inr rfl,qa5 _ hx3⟩,fun j hj=>?_,hL,by omega⟩;simp[show ¬j=id by omega,hz j (by omega)]
theorem qdb(s:List UInt8):sbytes (bs s)=sbL s:=by simp[sbytes,sbL,bs]
theorem qn3{H:Qf}{N id:Nat}{x:AV}{bs:List UInt8}(s:List UInt8)(h:Buf H N id x bs)(hN:id<N)(hl:bs.length+s.length<1000000000){env:Nat→AV}{p q:Operand}(hp:ev ⟨19,env,H,N⟩ p=x)(hq:ev ⟨19,env,H,N⟩ q=str s) :
  ∃r H2 N2,(∀o:Oper,o.op=.call ⟨.builtin .append,#[p,q],#[116,9]⟩→Qw prog ⟨19,env,H,N⟩ o r ⟨19,env,H2,N2⟩)∧Buf H2 N2 id r (bs++s)∧(∀j,j≤id→H2.b j=H.b j)∧N≤N2∧H2.L=H.L:=by
 have f1:Wn prog 116=some 5:=by kernel_rfl
 have f2:qsf prog 9=true:=by kernel_rfl
 have f3:qkR prog 5=true:=by kernel_rfl
 by_cases hs:s=[]
 ·subst hs;refine⟨x,H,N,fun o ho=>?_,by simpa using h,fun j _=>rfl,Nat.le_refl _,rfl⟩;have:=Qw.qnB (P:=prog) (st:=⟨19,env,H,N⟩) (e:=5) ho rfl rfl rfl (by kernel_rfl) (by kernel_rfl) (by kernel_rfl) (by rw[hp];rcases h with⟨_,rfl⟩|⟨j,cap,_,_,rfl,_⟩<;>rfl) (by rw[hq];rfl);rwa[hp]at this
 ·have hs0:0<s.length:=List.length_pos_iff.2 hs;rcases h with⟨rfl,rfl⟩|⟨j,cap,h0,h1,rfl,h3⟩
  ·refine⟨.ref N 1 0 s.length none,H.set N ⟨5,1,sbL s,false,none⟩,N+1,fun o ho=>Qw.qmN ho rfl rfl rfl ?_,.inr ⟨N,none,by omega,by omega,by simp,by simp⟩,fun i hi=>?_,by omega,rfl⟩
   ·rw[hp,hq];simp[qaX,f1,str,f2,f3,hs0,qdb,Y9,Num.QB,show s.length≤140737488355328 by omega]
   ·simp[show ¬i=N by omega]
  ·refine⟨.ref N 1 0 (bs.length+s.length) none,(H.kill j).set N ⟨5,1,sbL (bs++s),false,none⟩,N+1,fun o ho=>Qw.qmN ho rfl rfl rfl ?_,.inr ⟨N,none,by omega,by omega,by simp,by simp⟩,fun i hi=>?_,by omega,rfl⟩
   ·rw[hp,hq];have e3:(sbL bs).take bs.length=sbL bs:=List.take_of_length_le (by rw[Y9];omega);simp[qaX,f1,str,f2,f3,hs0,qdb,Y9,Num.QB,h3,e3,qju,show bs.length+s.length≤140737488355328 by omega]
   ·simp[show ¬i=N by omega,show ¬i=j by omega]
theorem Jz{H:Qf}{N id:Nat}{bs:List UInt8}(s:List UInt8)(h:Bld H N id bs)(hl:bs.length+s.length<1000000000) :
  Qc prog 183 [.ptr id 2 0 0,str s] H N fun r H' N'=>Bld H' N' id (bs++s)∧(∀j,j<id→H'.b j=H.b j)∧H'.L=H.L∧N≤N':=by
 obtain⟨a,x,hb,hN,ha,hx⟩:=h;refine⟨⟨_,_,func183,by kernel_rfl,rfl⟩,Qv.QM func183 rfl (by simp[ntmps183]) (Qe.seq (Qd _ _ _ ?_))⟩;simp;refine Qe.seq (Qd _ _ _ ?_);simp;refine(WI hb ha).mono ?_;rintro r H' N' ⟨rfl,rfl⟩;have hx2:=qa5 (qah (.ptr id 2 0 0) x) hx;simp;refine Qe.seq (Qe.QW (K:=fun st=>∃env,st=⟨19,env,H.set id (qah (.ptr id 2 0 0) x),N'⟩∧env 1=str s∧env 8=.ptr id 2 0 0∧env 12=x∧env 13=str s) 6 ?_ ?_)
 ·simp[qah]
 rintro _ ⟨env,rfl,g1,g8,g12,g13⟩;simp;obtain⟨r2,H2,N2,hr,hx3,hz,hn,hL⟩:=qn3 (env:=env) (p:=.tmp 12) (q:=.tmp 13) s hx2 hN hl g12 g13;have hz2:H2.b id=some (qah (.ptr id 2 0 0) x):=by rw[hz id (by omega)];simp
 obtain⟨ec,eo⟩:=qci hx3;refine Qx.step rfl (hr _ rfl) rfl (Z0 _ _ _ ?_);unfold qah at hz2;simp[g8,hz2,ec,eo];refine Qd _ _ _ ?_;simp[str,g1];refine⟨⟨.ptr id 2 0 0,r2,by simp[qah],by omega,.inr rfl,qa5 _ hx3⟩,fun j hj=>?_,hL,by omega⟩;simp[show ¬j=id by omega,hz j (by omega)]
end
end Go.AX.Run
namespace Go.AX
open Go.RowKit
section
variable{P:Program}{ops:Array Oper}{st:St}{Q:List Cls→St→Prop}{cs:List Cls}{lit:Nat→Bool}
theorem qlb(n:Nat)(env:Nat→AV)(H:Qf)(N d:Nat)(u:AV)(H':Qf)(N':Nat):St.eff ⟨n,env,H,N⟩ (some d) u H' N'=⟨n,upd env d u,H',N'⟩:=_root_.id rfl
attribute [simp] qlb
def QI(P:Program)(ops:Array Oper)(l:List Oper)(Q:List Cls→St→Prop)(cs:List Cls)(st:St):Prop:=∃cl e,cl.length=l.length∧K5 P ops (l.zip cl) st e∧Q (cl.reverse++cs) e
theorem QI.of{l:List Oper}(h:QT P lit ops l Q cs st):QI P ops l Q cs st:=Xd _ _ _ h
theorem QI.cons{l:List Oper}{o:Oper}{c:Cls}{u:AV}{H':Qf}{N':Nat}(hE:Evd P ops o c st u H' N')(hd:∀d,o.dst=some d→d<st.n)(h:QI P ops l Q (c::cs) (st.eff o.dst u H' N')):QI P ops (o::l) Q cs st:=by obtain⟨cl,e,g1,g2,g3⟩:=h;exact⟨c::cl,e,by simp[g1],.cons o c _ st e u H' N' hE hd g2,by simpa using g3⟩
theorem K5.app{l2:List (Oper×Cls)}{e:St}:∀{l1:List (Oper×Cls)} {st s:St},K5 P ops l1 st s→K5 P ops l2 s e→K5 P ops (l1++l2) st e:=by
 intro l1;induction l1 with
 | nil=>intro st s h k;cases h;exact k
 | cons q l1 ih =>
  intro st s h k;cases h with
  | cons o c l _ _ u H' N' hE hd hr=>exact .cons o c _ st e u H' N' hE hd (ih hr k)
theorem QI.split{l1 l2:List Oper}(h:QT P lit ops l1 (QI P ops l2 Q) cs st):QI P ops (l1++l2) Q cs st:=by obtain⟨cl,e,g1,g2,cl2,e2,g3,g4,g5⟩:=Xd _ _ _ h;refine⟨cl++cl2,e2,by simp[g1,g3],?_,by simpa using g5⟩;rw[List.zip_append (by rw[g1])];exact g2.app g4
theorem QI.at(lit:Nat→Bool){l:List Oper}(n:Nat)(h:QT P lit ops (l.take n) (QI P ops (l.drop n) Q) cs st):QI P ops l Q cs st:=by have:=QI.split h;rwa[List.take_append_drop]at this
theorem Qm.rest(hm:P.follows .mixedOrders=true){id:Nat}{Q:St→Prop}(h:QI P ops ops.toList (qsb ops Q) [] st):Qm P id ops st Q:=by
 obtain⟨cl,e,h1,h2,⟨bs,h3⟩,h4⟩:=h;simp only[List.append_nil,List.reverse_reverse]at h3;intro pl R hR;refine Qm.steps hm h3 (e:=e) ?_ pl R fun s hs=>by subst hs;exact hR _ h4
 rw[qfr cl (by simpa using h1)];exact h2
theorem Qm.Z2(lit:Nat→Bool)(hm:P.follows .mixedOrders=true){id:Nat}{Q:St→Prop}(n:Nat)(h:QT P lit ops (ops.toList.take n) (QI P ops (ops.toList.drop n) (qsb ops Q)) [] st):Qm P id ops st Q:=by refine Qm.rest hm ?_;have:=QI.split h;rwa[List.take_append_drop]at this
end
end Go.AX
namespace Go.AX.Run
open Go.RowKit Go.Proofs Go.AX Go.Num Tryz
section
attribute [local simp] Qq Qh Qk alen
theorem qf7(s:List UInt8):Xu (sbL s)=some s:=by
 induction s with
 | nil=>rfl
 | cons b s ih =>
  have h1:qhR [.v (.int .u8 b.toNat)]=some b:=by have:((b.toNat:Nat):Int)=Int.ofNat b.toNat:=rfl;rw[this];simp only[qhR];rw[if_pos b.toNat_lt];simp
  show Xu ([.v (.int .u8 b.toNat)]::sbL s)=_;simp only[Xu,h1,ih]
theorem W2{H:Qf}{N id:Nat}{bs:List UInt8}(h:Bld H N id bs)(h0:0<bs.length)(hl:bs.length<1000000000) :
  Qc prog 185 [.ptr id 2 0 0] H N fun r H' N'=>r=str bs∧(∀j,j≤id→H'.b j=H.b j)∧H'.L=H.L∧N'=N:=by
 obtain⟨a,x,hb,hN,ha,hx⟩:=h;rcases hx with⟨rfl,_⟩|⟨j,cap,h1,h2,rfl,h3⟩
 ·simp at h0
 refine Qc.body func185 ntmps185 ?_;simp;refine Qm.Z2 (fun _=>false) mixed 4 ?_;unfold qah at hb;simp[Q0,hb,hN];refine QI.cons (Evd.any rfl fun st2 ha=>Qw.qjz (x:=.tmp 6) (t:=116) (id:=j) (sz:=1) (off:=0) (len:=bs.length) (mx:=none) rfl rfl rfl rfl ?_ h0) (by simp) ?_
 ·rw[ha.2.1 _ (by simp[Op.operands,Call.operands])];rfl
 simp;refine QI.at (fun _=>false) 5 ?_;simp[Q0,hb,hN];refine QI.cons (c:=.hvy none) (u:=str bs) (H':=H.kill j) (N':=N) (Eff.J4 rfl fun st2 ha hH hN=>?_) (by simp) ?_
 ·have e1:=ha.2.1 (.tmp 7) (by simp[Op.operands,Call.operands]);have e2:=ha.2.1 (.tmp 12) (by simp[Op.operands,Call.operands]);have:st2.mem (H.kill j) N={ st2 with H:=st2.H.kill j }:=by have a1:st2.H=H:=hH;have a2:st2.N=N:=hN;cases st2;simp only[St.mem]at a1 a2⊢;subst a1 a2;rfl
  rw[this];refine Qw.qjU (p:=.tmp 7) (n:=.tmp 12) (pt:=225) (it:=3) rfl rfl rfl rfl ?_;rw[e1,e2,show st2.H=H from hH];have f1:ptrTo prog 225=some 5:=by kernel_rfl
  have e3:(sbL bs).take bs.length=sbL bs:=List.take_of_length_le (by rw[Y9];omega);have e4:((bs.length:Nat):Int)=Int.ofNat bs.length:=rfl;simp[ev];rw[e4];simp only[Wa];rw[show(H:Nat→Option Blk) j=H.b j from rfl,h3];simp[f1,Y9,h0,e3,qf7,str,show bs.length≤9223372036854775807 by omega];rfl
 simp;refine QI.of (lit:=fun _=>false) ?_;simp;exact⟨Zg.ofM (by kernel_rfl),fun i hi e=>absurd e (by omega)⟩
end
section
attribute [local simp] Qq Qh Qk Jg Yr J5
theorem qj2(k:Nat):Num.val (List.replicate k 48)=0:=by
 induction k with
 | zero=>rfl
 | succ k ih=>rw[List.replicate_succ'];rw[Kf,ih];rfl
theorem qmW{x y:Nat}(hy:0<y)(hx:x<1000000000):dg (x+1000000000*y)=dg y++(List.replicate (9-nd x) 48++dg x):=by
 have h9:nd x≤9:=(YF (by omega)).2 (by rw[show(10:Nat)^9=1000000000 by decide];exact hx);obtain⟨b,l,e,h1,h2⟩:=XA hy;have hv:Num.val (dg y++(List.replicate (9-nd x) 48++dg x))=x+1000000000*y:=by
  rw[qeE,qeE,Kk,Kk,qj2];have:(List.replicate (9-nd x) (48:UInt8)++dg x).length=9:=by simp only[List.length_append,List.length_replicate];unfold nd at *;omega
  rw[this,Nat.zero_mul,Nat.zero_add,show(10:Nat)^9=1000000000 by decide,Nat.mul_comm];omega
 rw[←hv];refine qmX ?_ ⟨b,l++(List.replicate (9-nd x) 48++dg x),by rw[e];rfl,.inl (by omega)⟩;intro c hc;rcases List.mem_append.1 hc with hc|hc
 ·exact YA _ c hc
 ·rcases List.mem_append.1 hc with hc|hc
  ·rw[(List.mem_replicate.1 hc).2];rfl
  ·exact YA _ c hc
def wr(xs:List Nat)(k:Nat):List UInt8:=if k=0 then[]else dg (lv 1000000000 (xs.drop (xs.length-k)))
theorem qrY(xs:List Nat)(k:Nat):(wr xs k).length≤nd (lv 1000000000 xs):=by
 unfold wr;split
 ·exact Nat.zero_le _
 ·refine Zs ?_;have:=ZM 1000000000 (xs.take (xs.length-k)) (xs.drop (xs.length-k));rw[List.take_append_drop]at this;rw[this];have h1:0<1000000000^(xs.take (xs.length-k)).length:=Nat.pow_pos (by omega);exact Nat.le_trans (Nat.le_mul_of_pos_left _ h1) (Nat.le_add_left _ _)
theorem qra{n:Nat}(h:0<n):∀k,k<(lb 1000000000 n).length→0<lv 1000000000 ((lb 1000000000 n).drop k):=by
 induction n using Nat.strongRecOn with
 | _ n ih =>
  intro k hk;rw[Zy (by decide) h]at hk⊢;cases k with
  | zero =>rw[List.drop_zero,←Zy (by decide) h,Yo (by decide)];exact h
  | succ k =>
   rw[List.drop_succ_cons];by_cases hz:n/1000000000=0
   ·rw[hz,Zh]at hk;simp at hk
   ·exact ih _ (Nat.div_lt_self h (by decide)) (by omega) k (by simpa using hk)
theorem qpV{n k:Nat}(h:0<n)(hk:k<(lb 1000000000 n).length) :
  wr (lb 1000000000 n) (k+1)=wr (lb 1000000000 n) k++((if k=0 then[]else List.replicate (9-nd ((lb 1000000000 n).getD ((lb 1000000000 n).length-1-k) 0)) 48)++dg ((lb 1000000000 n).getD ((lb 1000000000 n).length-1-k) 0)):=by
 have hlt:=YN (B:=1000000000) (by decide) n;have htop:=qra h;generalize lb 1000000000 n=xs at *;have hi:xs.length-1-k<xs.length:=by omega
 have hd:xs.drop (xs.length-(k+1))=xs[xs.length-1-k]::xs.drop (xs.length-k):=by have:=List.drop_eq_getElem_cons hi;rw[show xs.length-(k+1)=xs.length-1-k by omega,this,show xs.length-1-k+1=xs.length-k by omega]
 have hg:xs.getD (xs.length-1-k) 0=xs[xs.length-1-k]:=by rw[List.getD_eq_getElem?_getD,List.getElem?_eq_getElem hi];rfl
 rw[hg];unfold wr;rw[if_neg (by omega),hd,lv];by_cases hk0:k=0
 ·subst hk0;rw[if_pos rfl,if_pos rfl];simp[lv]
 ·rw[if_neg hk0,if_neg hk0];exact qmW (htop _ (by omega)) (hlt _ (List.getElem_mem _))
theorem qsx(s:Bool){m:Nat}(h:0<m):il (zi s m)=(if s then[45]else[])++dg m:=by
 cases s
 ·simp[zi,il,show ¬(m:Int)<0 by omega]
 ·simp[zi,il,show ¬m=0 by omega]
theorem qoa(l:List Nat):(cutz l).length≤l.length:=by
 induction l with
 | nil=>exact Nat.le_refl _
 | cons x l ih=>unfold cutz;split<;>simp<;>omega
theorem qiY(m:Nat):nlb m≤nd m:=by have h:=ZO (B:=1000000000) (by decide) _ (qqG (dg m) (YA m));rw[qqH,Kk]at h;have h2:=qoa (ch (dg m));rw[h,qaw]at h2;have h3:=YC m;unfold nlb;unfold chN at h2;unfold nd at *;omega
theorem VD(x:Nat):il (x:Int)=dg x:=by simp[il,show ¬(x:Int)<0 by omega]
theorem qab(s:Bool)(m:Nat)(hm:nd m≤1000000):Qg prog 150 [nm s m] (str (il (zi s m))):=by
 refine⟨⟨_,_,func150,by kernel_rfl,rfl⟩,(Qv.data (Q:=fun r=>r=(str (il (zi s m)))) (Qv.QM func150 rfl (by simp[ntmps150]) ?_)).mono fun r H N h=>h.2.2⟩;have hn0:=Jp (a:=m);by_cases h0:m=0
 ·subst h0;have e:il (zi s 0)=[48]:=by cases s<;>simp[zi,il,QN]
  rw[e];refine Qd _ _ _ ?_;simp[hn0];exact .dat _ 9 rfl
 ·have hn:¬nlb m=0:=(not_congr hn0).2 h0;have hm0:0<m:=by omega
  refine Qe.seq (Qd _ _ _ ?_);simp;refine Qe.seq (Qd _ _ _ ?_);simp[hn];refine Qe.seq (Qd _ _ _ ?_);simp;refine Qe.seq (Qe.mono (Q:=fun e st=>e=.normal∧∃env H N,st=⟨35,env,H,N⟩∧env 1=.ptr 0 2 0 0∧env 3=.ptr 1 2 0 0∧H.b 0=some ⟨137,2,[[.v (.bool s),lbs m]],false,some 1⟩∧H.L=QQ.L∧Bld H N 1 (if s then[45]else[])) (Qd _ _ _ ?_) ?_)
  ·have hB:Bld ((QQ.set 0 ⟨137,2,[[.v (.bool s),lbs m]],false,some 1⟩).set 1 ⟨207,2,[[.v (.pointer none),.v (.slice none 0 0)]],false,some 1⟩) 2 1 [] :=
    ⟨.v (.pointer none),.v (.slice none 0 0),by simp[qah],by omega,.inl rfl,.inl ⟨rfl,rfl⟩⟩
   cases s
   ·simp;exact⟨_,_,_,⟨rfl,rfl,rfl⟩,rfl,rfl,by simp,rfl,hB⟩
   ·simp;refine(qdt 45 hB (by simp)).mono ?_;rintro r H' N' ⟨g1,g2,g3,g4⟩;simp;exact⟨_,_,_,⟨rfl,rfl,rfl⟩,rfl,rfl,by rw[g2 0 (by omega)];simp,g3,g1⟩
  ·rintro _ _ ⟨rfl,env,H,N,rfl,g1,g3,hb0,hL,hB⟩;have hxs:=YN (B:=1000000000) (by decide) m;refine Qd _ _ _ ?_;simp[g1,hb0];refine Qc.pv (JR _) (by rw[List.all_cons,Qt];rfl) (qa6 _) ?_;have hnm:(lb 1000000000 m).length≤1000000:=Nat.le_trans (qiY m) hm;have hnb:nlb m=(lb 1000000000 m).length:=rfl;have hlen:∀k,(wr (lb 1000000000 m) k).length≤1000000:=fun k=>Nat.le_trans (qrY _ k) (by rw[Yo (by decide)];exact hm);have hpos:0<(lb 1000000000 m).length:=by rw[←hnb];omega
   have hws:=fun k=>qpV (k:=k) hm0;have hend:wr (lb 1000000000 m) (lb 1000000000 m).length=dg m:=by unfold wr;rw[if_neg (by omega),Nat.sub_self,List.drop_zero,Yo (by decide)]
   have hlb:lbs m=.ro (nl (lb 1000000000 m)):=rfl;generalize hsg:(if s=true then[(45:UInt8)]else[])=sg at *;have hsg1:sg.length≤1:=by rw[←hsg];split<;>simp
   simp;refine Kn.iter (ys:=bwY (lb 1000000000 m)) rfl (JQ _ (by omega)) (by simp) (by show H.L N=none;rw[hL];rfl)
    (fun k H' N'=>H'.b 0=some ⟨137,2,[[.v (.bool s),lbs m]],false,some 1⟩∧Bld H' N' 1 (sg++wr (lb 1000000000 m) k))
    (fun j H' N'=>False) ?_ ?_ ?_ ?_ ?_ ?_
   ·rintro k H N H' hb ⟨h1,a,x,h2,h3,h4,h5⟩;refine⟨by rw[hb];exact h1,a,x,by rw[hb];exact h2,h3,h4,?_⟩;unfold Buf;rw[hb];exact h5
   ·exact fun j H N H' hb h=>h
   ·obtain⟨a,x,h2,h3,h4,h5⟩:=hB;exact⟨hb0,a,x,h2,by show 1<N+1;omega,h4,by
     rcases h5 with⟨e,rfl⟩|⟨j,cap,q1,q2,q3,q4⟩
     ·exact .inl ⟨by simp[wr];exact e,rfl⟩
     ·exact .inr ⟨j,cap,q1,by show j<N+1;omega,by simpa[wr]using q3,by simpa[wr]using q4⟩⟩
   ·rintro k hk H N ⟨h0,hB⟩;rw[Kp]at hk;have hx:=hxs ((lb 1000000000 m).getD ((lb 1000000000 m).length-1-k) 0) (by rw[List.getD_eq_getElem?_getD,List.getElem?_eq_getElem (by omega)];exact List.getElem_mem _);have hwk:=hws k hk;have hlk:=hlen k;have hlk1:=hlen (k+1);rw[qa7];generalize (lb 1000000000 m).getD ((lb 1000000000 m).length-1-k) 0=x at *;have hpad:nd x≤9:=(YF (by omega)).2 (by rw[show(10:Nat)^9=1000000000 by decide];exact hx);have hdl:(dg x).length=nd x:=rfl;have w1:IntKind.i64.wrap ((nlb m:Int)-1)=((nlb m-1:Nat):Int):=by rw[Ql (by omega) (by omega)];omega
    have w2:IntKind.i64.wrap (9-((dg x).length:Int))=((9-nd x:Nat):Int):=by rw[hdl,Ql (by omega) (by omega)];omega
    simp;intro H1 hb;have e0:=h0;rw[←hb]at e0;have hB1:Bld H1 N 1 (sg++wr (lb 1000000000 m) k):=by obtain⟨a,x,h2,h3,h4,h5⟩:=hB;refine⟨a,x,by rw[hb];exact h2,h3,h4,?_⟩;unfold Buf;rw[hb];exact h5
    have hit:=qiI (x:Int) (by omega) (by omega);rw[VD]at hit;refine Qc.pu hit ?_;by_cases hk0:k=0
    ·have hni:¬(((lb 1000000000 m).length-1-k:Nat):Int)<((nlb m-1:Nat):Int):=by omega
     simp[g1,g3,e0,w1,hni];rw[if_pos hk0,List.nil_append]at hwk;have hll:(wr (lb 1000000000 m) k).length+(dg x).length≤1000000:=by rw[hwk,List.length_append]at hlk1;exact hlk1
     refine(Jz (dg x) hB1 (by rw[List.length_append];omega)).mono ?_;rintro r H' N' ⟨q1,q2,q3,q4⟩;simp;rw[hwk,←List.append_assoc];exact⟨q3,by rw[q2 0 (by omega)];exact e0,q1⟩
    ·have hni:(((lb 1000000000 m).length-1-k:Nat):Int)<((nlb m-1:Nat):Int):=by omega
     simp[g1,g3,e0,w1,w2,hni,str];refine Qc.pu (qjn (9-nd x) (by have:=YC x;omega)) ?_;simp[g3];rw[if_neg hk0]at hwk;have hll:(wr (lb 1000000000 m) k).length+((List.replicate (9-nd x) (48:UInt8)).length+(dg x).length)≤1000000:=by rw[hwk,List.length_append,List.length_append]at hlk1;exact hlk1
     refine(Jz (List.replicate (9-nd x) 48) hB1 (by rw[List.length_append];omega)).mono ?_;rintro r H2 N2 ⟨q1,q2,q3,q4⟩;simp[g3];refine(Jz (dg x) q1 (by rw[List.length_append,List.length_append];omega)).mono ?_;rintro r H3 N3 ⟨p1,p2,p3,p4⟩;simp;rw[hwk];simp only[List.append_assoc]at p1;exact⟨p3.trans q3,by rw[p2 0 (by omega),q2 0 (by omega)];exact e0,p1⟩
   ·rintro H' N' hL' ⟨h0,hB'⟩;rw[Kp,hend]at hB';simp[g3];refine(W2 hB' (by rw[List.length_append];have:=YC m;unfold nd at this;omega) (by rw[List.length_append];unfold nd at hm;omega)).mono ?_;rintro r H2 N2 ⟨rfl,q2,q3,q4⟩;simp;rw[qsx s hm0,hsg];exact .dat _ 9 rfl
   ·rintro j H' N' _ h;exact h.elim
end
section
attribute [local simp] Qq Qh Qk Jg Yr J5 WH QJ Q7
def Lg(z:Int):Prop:=nd z.natAbs≤4096
theorem qlG{m:Nat}(h:0<m):nd m=(nlb m-1)*9+nd ((lb 1000000000 m).getD (nlb m-1) 0):=by
 induction m using Nat.strongRecOn with
 | _ m ih =>
  unfold nlb;rw[Zy (B:=1000000000) (by decide) h];by_cases hz:m/1000000000=0
  ·rw[hz,Zh];have:m%1000000000=m:=by omega
   simp[this]
  ·have h2:=ih (m/1000000000) (Nat.div_lt_self h (by decide)) (by omega);have h3:0<(lb 1000000000 (m/1000000000)).length:=by
    rcases Nat.eq_zero_or_pos (lb 1000000000 (m/1000000000)).length with h0|h0
    ·exact absurd (Jp.1 h0) hz
    ·exact h0
   have h4:nd m=nd (m/1000000000)+9:=by have e:=qmW (x:=m%1000000000) (y:=m/1000000000) (by omega) (by omega);have em:m%1000000000+1000000000*(m/1000000000)=m:=Nat.mod_add_div m 1000000000;rw[em]at e;have h9:nd (m%1000000000)≤9:=(YF (by omega)).2 (by rw[show(10:Nat)^9=1000000000 by decide];omega);have:=congrArg List.length e;simp only[List.length_append,List.length_replicate]at this;unfold nd at *;omega
   unfold nlb at h2;obtain⟨q,hq⟩:∃q,(lb 1000000000 (m/1000000000)).length=q+1:=⟨_,(Nat.succ_pred_eq_of_pos h3).symm⟩;rw[hq]at h2;simp only[List.length_cons,hq,Nat.add_sub_cancel]at h2⊢;rw[List.getD_cons_succ];omega
theorem qrb(st:St){m i:Nat}(h:i<nlb m):Qh prog st 82 (lbs m) (i:Int)=some (.rop [.v (.int .i64 ((lb 1000000000 m).getD i 0:Nat))]):=by
 unfold nlb at h;have e:(lb 1000000000 m).getD i 0=(lb 1000000000 m)[i]:=by rw[List.getD_eq_getElem?_getD,List.getElem?_eq_getElem h];rfl
 rw[e];simp[Qh,lbs,K8 _ i h]
theorem qpr(s:Bool)(m:Nat)(hm:nd m≤1000000)(h0:0<m):Qg prog 149 [nm s m] (.v (.int .i64 (nd m:Nat))):=by
 refine Qg.body func149 ntmps149 ?_;have hn:¬nlb m=0:=(not_congr Jp).2 (by omega);have hN:=Nat.le_trans (qiY m) hm;have hnl:=qlG h0;have hlt:=YN (B:=1000000000) (by decide) m;have hx:(lb 1000000000 m).getD (nlb m-1) 0<1000000000:=by unfold nlb;rw[List.getD_eq_getElem?_getD,List.getElem?_eq_getElem (by unfold nlb at hn;omega)];exact hlt _ (List.getElem_mem _)
 have hat:=fun st=>qrb st (m:=m) (i:=nlb m-1) (by omega);generalize (lb 1000000000 m).getD (nlb m-1) 0=x at *;have hdl:(dg x).length=nd x:=rfl;have w1:IntKind.i64.wrap ((nlb m:Int)-1)=((nlb m-1:Nat):Int):=by rw[Ql (by omega) (by omega)];omega
 have w2:IntKind.i64.wrap (((nlb m-1:Nat):Int)*9)=(((nlb m-1)*9:Nat):Int):=by rw[Ql (by omega) (by omega)];omega
 have w3:IntKind.i64.wrap ((((nlb m-1)*9:Nat):Int)+(nd x:Int))=(nd m:Int):=by rw[Ql (by omega) (by omega)];omega
 have hit:=qiI (x:Int) (by omega) (by omega);rw[VD]at hit;simp[-Int.natCast_mul,-Qh,hn,w1,w2,hat];refine Qc.pu hit ?_;simp[-Int.natCast_mul,str,hdl,w3];exact .dat _ 9 rfl
theorem qmh(s:Bool):Qg prog 149 [nm s 0] (.v (.int .i64 0)):=by refine Qg.body func149 ntmps149 ?_;simp[Jp.2];exact .dat _ 9 rfl
theorem WE(s:Bool)(m:Nat)(hm:nd m≤4096):Qg prog 107 [nm s m] (.tup [zs (zi s m),.v (.int .i64 0)]):=by
 refine Qg.body func107 ntmps107 ?_;simp;by_cases h0:m=0
 ·subst h0;have h:=qmh s;refine Qc.pv h (by simp[Qt]) rfl ?_;simp;refine Qc.pv (qab s 0 (by omega)) (by simp[Qt]) rfl ?_;simp[zs];exact .dat _ 9 rfl
 ·refine Qc.pv (qpr s m (by omega) (by omega)) (by simp[Qt]) rfl ?_;simp[show ¬(4096:Int)<(nd m:Int) by omega];refine Qc.pv (qab s m (by omega)) (by simp[Qt]) rfl ?_;simp[zs];exact .dat _ 9 rfl
end
section
attribute [local simp] Qq Qh Qk Jg Yr J5 WH QJ Q7
theorem QR(z:Int):(zs z).one=true:=rfl
theorem Qr(z:Int):acells (zs z)=[zs z]:=rfl
theorem qnT(a b:Int):abuild prog 169 [(0,zs a),(1,zs b)]=some (.agg [zs a,zs b]):=by unfold zs str;kernel_rfl
theorem qls(a b:Int):aindex prog 169 (.agg [zs a,zs b]) 0=some (zs a):=by unfold zs str;kernel_rfl
theorem qlt(a b:Int):aindex prog 169 (.agg [zs a,zs b]) 1=some (zs b):=by unfold zs str;kernel_rfl
attribute [local simp] qnT qls qlt
def nz(z:Int):AV:=nm (decide (z<0)) z.natAbs
theorem qas(z:Int):zi (decide (z<0)) z.natAbs=z:=by unfold zi;by_cases h:z<0<;>simp[h]<;>omega
theorem Wr(z:Int)(k:Nat):Qu (k+3) (nz z)=true:=Zz _ _ _
theorem Wu(a b:Int)(ha:Lg a)(hb:Lg b):Qg prog 106 [zs a,zs b] (.tup [nz a,nz b,.v (.int .i64 0)]):=by
 refine Qg.body func106 ntmps106 ?_;simp;have hca:=KQ a ha;have hcb:=KQ b hb;have hra:=qjl a (by unfold Lg at ha;omega);have hrb:=qjl b (by unfold Lg at hb;omega);generalize hH:(QQ.set 0 ⟨137,2,[[.v (.bool false),.v (.slice none 0 0)]],false,some 1⟩).set 1 ⟨137,2,[[.v (.bool false),.v (.slice none 0 0)]],false,some 1⟩=pH;have h0:pH.b 0=some ⟨137,2,[[.v (.bool false),.v (.slice none 0 0)]],false,some 1⟩:=by subst hH;simp
 have h1:pH.b 1=some ⟨137,2,[[.v (.bool false),.v (.slice none 0 0)]],false,some 1⟩:=by subst hH;simp
 refine Qp.of (fun(i:Nat) st=>i≤2∧∃env,st=⟨28,env,pH,2⟩∧env 0=zs a∧env 1=zs b∧env 4=.ptr 0 2 0 0∧env 5=.ptr 1 2 0 0∧env 12=.agg [zs a,zs b]∧env 13=.v (.int .i64 (i:Nat))) (fun i=>2-i) 0
  ⟨by omega,_,rfl,rfl,rfl,rfl,rfl,rfl,rfl⟩ ?_
 rintro i _ ⟨hi,env,rfl,g0,g1,g4,g5,g12,g13⟩;rcases(by omega:i=0∨i=1∨i=2)with rfl|rfl|rfl
 ·simp[g0,g12,g13];refine Qc.pv hca (by simp[Qj]) rfl ?_;simp[g0,g1,g4,g5,g12,g13];exact⟨1,⟨by omega,rfl⟩,by omega⟩
 ·simp[g0,g12,g13];refine Qc.pv hcb (by simp[Qj]) rfl ?_;simp[g0,g1,g4,g5,g12,g13];exact⟨2,⟨by omega,rfl⟩,by omega⟩
 ·simp[g0,g12,g13];refine Qc.pv hra (by simp[Qj]) (Zz _ _ _) ?_;simp[g1];refine Qc.pv hrb (by simp[Qj]) (Zz _ _ _) ?_;simp[g4,g5,h0,h1];exact .dat _ 9 (by simp[Qt])
theorem Xo(z:Int):acells (nz z)=[.v (.bool (decide (z<0))),lbs z.natAbs]:=_root_.id rfl
attribute [local simp] Xo
theorem Ki{z:Int}(h:Lg z):nlb z.natAbs≤1000000:=by unfold Lg at h;have:=qiY z.natAbs;omega
theorem qqd(a b:Int)(ha:Lg a)(hb:Lg b)(hr:Lg (a+b)):Qg prog 236 [zs a,zs b] (.tup [zs (a+b),.v (.int .i64 0)]):=by
 refine Qg.body func236 ntmps236 ?_;simp;refine Qc.pv (Wu a b ha hb) (by simp[Qj]) (by simp[Wr]) ?_;simp;have hz:zi (qkj (decide (a<0)) a.natAbs (decide (b<0)) b.natAbs) (qhs (decide (a<0)) a.natAbs (decide (b<0)) b.natAbs)=a+b:=by rw[qkc,qas,qas]
 refine Qc.pv (qjL (decide (a<0)) (decide (b<0)) a.natAbs b.natAbs (Ki ha) (Ki hb)) (by simp[Qt]) (Zz _ _ _) ?_;simp;have hw:=WE (qkj (decide (a<0)) a.natAbs (decide (b<0)) b.natAbs) (qhs (decide (a<0)) a.natAbs (decide (b<0)) b.natAbs) (by
  have:(qhs (decide (a<0)) a.natAbs (decide (b<0)) b.natAbs)=(a+b).natAbs:=by rw[←hz];unfold zi;split<;>omega
  rw[this];exact hr)
 rw[hz]at hw;refine Qc.pv hw (by simp[Zz]) rfl ?_;simp;exact .dat _ 9 rfl
end
section
attribute [local simp] Qq Qh Qk Jg Yr J5 WH QJ Q7 Xo
theorem qnt(s:Bool)(m:Nat):zi (!s) m = -zi s m:=by cases s<;>simp[zi]
theorem qrZ(s:Bool)(m:Nat):(zi s m).natAbs=m:=by cases s<;>simp[zi]
theorem qr0(s s':Bool)(m m':Nat):zi (s !=s') (m*m')=zi s m*zi s' m':=by cases s<;>cases s'<;>simp[zi,Int.neg_mul,Int.mul_neg]
theorem qsS{s s':Bool}{m m':Nat}(h:nlb m≤1000000)(h':nlb m'≤1000000){z:Int}(hz:zi s m+zi s' m'=z)(hr:Lg z) :
  ∃t n,Qg prog 109 [nm s m,nm s' m'] (nm t n)∧Qg prog 107 [nm t n] (.tup [zs z,.v (.int .i64 0)])∧zi t n=z:=by
 have e:=(qkc s s' m m').trans hz;refine⟨_,_,qjL s s' m m' h h',?_,e⟩;have:=WE (qkj s m s' m') (qhs s m s' m') (by rw[←qrZ (qkj s m s' m') (qhs s m s' m'),e];exact hr);rwa[e]at this
theorem qno(a b:Int)(ha:Lg a)(hb:Lg b)(hr:Lg (a-b)):Qg prog 73 [zs a,zs b] (.tup [zs (a-b),.v (.int .i64 0)]):=by refine Qg.body func73 ntmps73 ?_;obtain⟨t,n,h1,h2,h3⟩:=qsS (s:=decide (a<0)) (m:=a.natAbs) (s':=!decide (b<0)) (m':=b.natAbs) (Ki ha) (Ki hb) (z:=a-b) (by rw[qnt,qas,qas];omega) hr;simp;refine Qc.pv (Wu a b ha hb) (by simp[Qj]) (by simp[Wr]) ?_;simp;refine Qm.walk (fun _=>false) mixed ?_;simp[Q0];refine QF.pure (k:=9) (qaN (decide (b<0)) b.natAbs) (by simp[Qt]) (Zz _ _ _) ?_;simp;refine QF.pure (k:=9) h1 (by simp[Zz,Qt]) (Zz _ _ _) ?_;simp;refine QF.pure (k:=9) h2 (by simp[Zz]) rfl ?_;simp;exact⟨Zg.ofM (by kernel_rfl),.dat _ 9 rfl⟩
theorem qfo(a b:Int)(ha:Lg a)(hb:Lg b)(hr:Lg (a*b)):Qg prog 72 [zs a,zs b] (.tup [zs (a*b),.v (.int .i64 0)]):=by
 refine Qg.body func72 ntmps72 ?_;have hz:zi (decide (a<0) !=decide (b<0)) (a.natAbs*b.natAbs)=a*b:=by rw[qr0,qas,qas]
 have hw:=WE (decide (a<0) !=decide (b<0)) (a.natAbs*b.natAbs) (by rw[←Int.natAbs_mul];exact hr);rw[hz]at hw;simp;refine Qc.pv (Wu a b ha hb) (by simp[Qj]) (by simp[Wr]) ?_;simp;refine Qc.pv (qgB (decide (a<0)) (decide (b<0)) a.natAbs b.natAbs (Ki ha) (Ki hb)) (by simp[Qt]) (Zz _ _ _) ?_;simp;refine Qc.pv hw (by simp[Zz]) rfl ?_;simp;exact .dat _ 9 rfl
theorem qaz(a b:Int)(ha:Lg a)(hb:Lg b):Qg prog 112 [zs a,zs b] (.tup [.v (.int .i64 (sgz (a-b))),.v (.int .i64 0)]):=by refine Qg.body func112 ntmps112 ?_;simp;refine Qc.pv (Wu a b ha hb) (by simp[Qj]) (by simp[Wr]) ?_;simp;have e:=qkc (decide (a<0)) (!decide (b<0)) a.natAbs b.natAbs;rw[qnt,qas,qas,←Int.sub_eq_add_neg]at e;have hs:=qpp (qkj (decide (a<0)) a.natAbs (!decide (b<0)) b.natAbs) (qhs (decide (a<0)) a.natAbs (!decide (b<0)) b.natAbs);rw[e]at hs;refine Qm.walk (fun _=>false) mixed ?_;simp[Q0];refine QF.pure (k:=9) (qaN (decide (b<0)) b.natAbs) (by simp[Qt]) (Zz _ _ _) ?_;simp;refine QF.pure (k:=9) (qjL (decide (a<0)) (!decide (b<0)) a.natAbs b.natAbs (Ki ha) (Ki hb)) (by simp[Zz,Qt]) (Zz _ _ _) ?_;simp;refine QF.pure (k:=9) hs (by simp[Zz]) rfl ?_;simp;exact⟨Zg.ofM (by kernel_rfl),.dat _ 9 rfl⟩
theorem qfD(a:Int)(ha:Lg a):Qg prog 76 [zs a] (.tup [.v (.int .i64 (sgz a)),.v (.int .i64 0)]):=by refine Qg.body func76 ntmps76 ?_;have h:=qaz a 0 ha (by unfold Lg;rw[show(0:Int).natAbs=0 from rfl,Zo (by omega)];omega);rw[Int.sub_zero,show zs 0=str [48] by unfold zs il;rw[if_neg (by decide)];rw[show(0:Int).natAbs=0 from rfl,QN (by omega)];rfl]at h;simp;refine Qc.pv h (by simp[Qj]) rfl ?_;simp;exact .dat _ 9 rfl
theorem qnb(a:Int)(ha:Lg a):Qg prog 42 [zs a] (.tup [zs (-a),.v (.int .i64 0)]):=by refine Qg.body func42 ntmps42 ?_;have h:=qno 0 a (by unfold Lg;rw[show(0:Int).natAbs=0 from rfl,Zo (by omega)];omega) ha (by unfold Lg;rw[Int.zero_sub,Int.natAbs_neg];exact ha);rw[Int.zero_sub,show zs 0=str [48] by unfold zs il;rw[if_neg (by decide)];rw[show(0:Int).natAbs=0 from rfl,QN (by omega)];rfl]at h;simp;refine Qc.pv h (by simp[Qj]) rfl ?_;simp;exact .dat _ 9 rfl
theorem qmL(a:Int)(ha:Lg a):Qg prog 147 [zs a] (.tup [zs (a.natAbs:Nat),.v (.int .i64 0)]):=by refine Qg.body func147 ntmps147 ?_;have ht:=Kc (il a) [45] (by rw[Z3];unfold Lg at ha;split<;>omega) (by decide);rw[show([45]:List UInt8).length=1 from rfl,qfc]at ht;rw[show zs (a.natAbs:Nat)=str (dg a.natAbs) by unfold zs;rw[VD]];simp;refine Qc.pv (KQ a ha) (by simp[Qj]) rfl ?_;simp;refine Qc.pu ht ?_;simp;exact .dat _ 9 rfl
theorem qnO(m:Nat):abuild prog 137 [(1,lbs m)]=some (.agg [.v (.bool false),lbs m]):=by kernel_rfl
attribute [local simp] qnO
theorem qm3(a b:Int)(ha:Lg a)(hb:Lg b):Qg prog 195 [zs a,zs b] (.tup [zs (Int.gcd a b),.v (.int .i64 0)]):=by
 refine Qg.body func195 ntmps195 ?_;have hg:nd (Nat.gcd a.natAbs b.natAbs)≤1000000:=by
  by_cases h0:a.natAbs=0
  ·rw[h0,Nat.gcd_zero_left];unfold Lg at hb;omega
  ·have:=Zs (Nat.gcd_le_left b.natAbs (show 0<a.natAbs by omega));unfold Lg at ha;omega
 have he:zs (Int.gcd a b)=str (il (zi false (Nat.gcd a.natAbs b.natAbs))):=rfl;rw[he];simp;refine Qc.pv (Wu a b ha hb) (by simp[Qj]) (by simp[Wr]) ?_;simp;refine Qc.pv (qhZ a.natAbs b.natAbs (Ki ha) (Ki hb)) (by simp[Qt]) (Qt _ _) ?_;simp;refine Qc.pv (qab false (Nat.gcd a.natAbs b.natAbs) hg) (by simp[Qt]) rfl ?_;simp;exact .dat _ 9 rfl
end
section
attribute [local simp] Qq Qh Qk Jg Yr J5 WH QJ Q7 Xo
theorem qoO(m:Nat):nd (m+1)≤nd m+1:=by refine(YF (by omega)).2 ?_;have h:=XW m;rw[Nat.pow_succ];generalize 10^nd m=x at *;omega
theorem qo2(s s':Bool)(m m':Nat):qgD s m s' m'≤m+1:=by
 have h:=Nat.div_le_self m m';unfold qgD;split
 ·omega
 ·split<;>omega
theorem qo9(s s':Bool)(m m':Nat)(h:0<m'):qlU s m s' m'≤m':=by
 have h:=Nat.mod_lt m h;unfold qlU;split
 ·omega
 ·split<;>omega
theorem qgf(a b:Int)(ha:Lg a)(hb:Lg b)(h0:b≠0):Qg prog 111 [zs a,zs b] (.tup [zs (Int.fdiv a b),zs (Int.fmod a b),.v (.int .i64 0)]):=by refine Qg.body func111 ntmps111 ?_;obtain⟨e1,e2⟩:=qnu (decide (a<0)) (decide (b<0)) a.natAbs b.natAbs (by omega);rw[qas,qas]at e1 e2;have hq:=qem (decide (a<0)) (decide (b<0)) a.natAbs b.natAbs (Ki ha) (Ki hb) (by omega);have hbn:¬nlb b.natAbs=0:=(not_congr Jp).2 (by omega);have hQ:=Nat.le_trans (Zs (qo2 (decide (a<0)) (decide (b<0)) a.natAbs b.natAbs)) (qoO _);have hR:=Zs (qo9 (decide (a<0)) (decide (b<0)) a.natAbs b.natAbs (by omega));generalize qgD (decide (a<0)) a.natAbs (decide (b<0)) b.natAbs=Q at *;generalize qlU (decide (a<0)) a.natAbs (decide (b<0)) b.natAbs=R at *;have ht1:=qab (decide (a<0) !=decide (b<0)) Q (by unfold Lg at ha;omega);have ht2:=qab (decide (b<0)) R (by unfold Lg at hb;omega);rw[e1]at ht1;rw[e2]at ht2;simp;refine Qc.pv (Wu a b ha hb) (by simp[Qj]) (by simp[Wr]) ?_;simp[hbn];refine Qc.pv hq (by simp[Qt]) (by simp[Zz]) ?_;simp;refine Qm.walk (fun _=>false) mixed ?_;simp[Q0];refine QF.pure (k:=9) ht1 (by simp[Qt]) rfl ?_;simp[Q0];refine QF.pure (k:=9) ht2 (by simp[Qt]) rfl ?_;simp;exact⟨Zg.ofM (by kernel_rfl),.dat _ 9 rfl⟩
theorem qc5(a b:Int)(ha:Lg a)(hb:Lg b)(h0:b≠0):Qg prog 74 [zs a,zs b] (.tup [zs (Int.fdiv a b),.v (.int .i64 0)]):=by refine Qg.body func74 ntmps74 ?_;simp;refine Qc.pv (qgf a b ha hb h0) (by simp[Qj]) (by simp[Qj]) ?_;simp;exact .dat _ 9 (by simp[Qj])
end
section
attribute [local simp] Qq Qh Qk
def rt(q:Rat):List UInt8:=if q.den=1 then il q.num else il q.num++47::dg q.den
def rs(q:Rat):AV:=str (rt q)
theorem Qn(q:Rat)(k:Nat):Qu (k+1) (rs q)=true:=rfl
theorem Qg.qnl{P:Program}{f:FuncId}{ls:List Value}{v:Value}(h1:∃fn body,P.funcs[f]?=some fn∧(fn.name=="runtime.NumGoroutine")=false∧fn.body=some body)
  (h:∀w,Calls P f ls.toArray w fun e w'=>e=.returned v∧w'=w):Qg P f (ls.map .v) (.v v) :=
 Qg.shelf h1 fun E B w0 w _=>(h w).mono fun e w' ⟨h1,h2⟩=>⟨h1,0,#[],by rw[h2];simp[Sort.grow,World.drewN]⟩
theorem qcG(l:List UInt8):Qg prog 193 [str l,.v (.int .u8 47)] (.v (.int .i64 (Lib.indexByte l 47))) :=
 Qg.qnl (ls:=[.string (bs l),.int .u8 47]) ⟨_,_,func193,by kernel_rfl,rfl⟩ fun w=>by have:=Tryz.strings_IndexByte (bs l) 47 w;simpa[bs]using this
theorem qcn(l:List UInt8):Qg prog 160 [str l,str [47]] (.v (.bool (decide (0≤Lib.indexByte l 47)))) :=
 Qg.qnl (ls:=[.string (bs l),.string (bs [47])]) ⟨_,_,func160,by kernel_rfl,rfl⟩ fun w=>by have:=Tryz.strings_Contains_one (bs l) 47 w;rw[show(bs l).data.toList=l by simp[bs]]at this;exact this
theorem Y0(l:List UInt8)(lo hi:Option AV):aslice prog 23 (.v (.string (bs l))) lo hi=match abounds l.length lo hi with|some (l',h)=>some (.v (.string (bs ((l.take h).drop l'))))|none=>none:=by
 have:∀s:ByteArray,aslice prog 23 (.v (.string s)) lo hi=match abounds s.size lo hi with|some (l',h)=>some (.v (.string (s.extract l' h)))|none=>none:=fun s=>by kernel_rfl
 rw[this,QB];split<;>rename_i h<;>simp[qav]
theorem qlv{l:List UInt8}{c:UInt8}(h:c ∉ l):Lib.indexByte l c = -1:=by
 induction l with
 | nil=>rfl
 | cons b l ih =>
  simp only[List.mem_cons,not_or]at h;have hb:(b==c)=false:=by simpa using fun e=>h.1 e.symm
  simp[Lib.indexByte,hb,ih h.2]
theorem qlu{a b:List UInt8}{c:UInt8}(h:c ∉ a):Lib.indexByte (a++c::b) c=a.length:=by
 induction a with
 | nil=>simp[Lib.indexByte]
 | cons x a ih =>
  simp only[List.mem_cons,not_or]at h;have hb:(x==c)=false:=by simpa using fun e=>h.1 e.symm
  rw[List.cons_append,Lib.indexByte,hb,ih h.2];have:((a.length:Int) == -1)=false:=by simp
  simp[this]
theorem Jl(z:Int):(47:UInt8) ∉ il z:=by
 have h:∀n,(47:UInt8) ∉ dg n:=fun n hm=>by have:=YA n 47 hm;simp[isD]at this
 unfold il;split
 ·simp[h]
 ·exact h _
theorem VU(q:Rat):Lib.indexByte (rt q) 47=if q.den=1 then -1 else((il q.num).length:Int):=by
 unfold rt;split
 ·exact qlv (Jl _)
 ·exact qlu (Jl _)
def Lq(q:Rat):Prop:=Lg q.num∧nd q.den≤4096
theorem qjr(q:Rat):(rt q).length≤nd q.num.natAbs+nd q.den+2:=by
 have:=Z3 q.num;unfold rt;split
 ·rw[this];split<;>omega
 ·rw[List.length_append,this,List.length_cons];unfold nd;split<;>omega
theorem VY(q:Rat)(h:Lq q):Qg prog 158 [rs q] (.tup [zs q.num,zs (q.den:Nat)]):=by
 refine Qg.body func158 ntmps158 ?_;have hlen:(il q.num).length≤4097:=by rw[Z3];have:=h.1;unfold Lg at this;split<;>omega
 have hl2:=qjr q;have hI:=qcG (rt q);rw[VU]at hI;have hz:zs (q.den:Nat)=str (dg q.den):=by unfold zs;rw[VD]
 rw[hz];by_cases h1:q.den=1
 ·rw[if_pos h1]at hI;have hr:rs q=zs q.num:=by unfold rs rt;rw[if_pos h1];rfl
  rw[h1,show str (dg 1)=str [49] by rw[QN (by omega)];rfl];simp;refine Qc.pu hI ?_;simp;rw[hr];exact .dat _ 9 rfl
 ·rw[if_neg h1]at hI;have hr:rt q=il q.num++47::dg q.den:=by unfold rt;rw[if_neg h1]
  simp;refine Qc.pu hI ?_;have w1:IntKind.i64.wrap (((il q.num).length:Int)+1)=(((il q.num).length+1:Nat):Int):=by rw[Ql (by omega) (by omega)];omega
  simp;refine Qm.walk (fun _=>false) mixed ?_;have hlr:(rt q).length=(il q.num).length+1+(dg q.den).length:=by rw[hr,List.length_append,List.length_cons];omega
  have c1:(((il q.num).length:Nat):Int)≤((rt q).length:Nat):=by omega
  have c2:(((il q.num).length+1:Nat):Int)≤((rt q).length:Nat):=by omega
  have t1:(rt q).take (il q.num).length=il q.num:=by rw[hr];simp
  have t2:(rt q).drop ((il q.num).length+1)=dg q.den:=by rw[hr,List.drop_append];simp
  simp[-Int.natCast_add,w1,rs,str,Y0,abounds,idx,c1,c2,t1,t2];exact⟨Zg.ofM (by kernel_rfl),.dat _ 9 rfl⟩
end
section
attribute [local simp] Qq Qh Qk
theorem VP(z:Int)(h:Lg z):Qg prog 159 [zs z] (.v (.bool true)):=by refine Qg.body func159 ntmps159 ?_;simp;refine Qc.pv (KQ z h) (by simp[Qj]) rfl ?_;simp;exact .dat _ 9 rfl
theorem JK(z:Int)(hs:Lg z):Qg prog 162 [zs z] (.v (.int .i64 (nd z.natAbs:Nat))):=by refine Qg.body func162 ntmps162 ?_;simp;have:=Kc (il z) [45] (by rw[Z3];unfold Lg at hs;split<;>omega) (by decide);rw[show([45]:List UInt8).length=1 from rfl,qfc]at this;refine Qc.pu this ?_;simp[str];exact .dat _ 9 rfl
theorem zs1:zs 1=str [49]:=by unfold zs il;rw[if_neg (by decide),show(1:Int).natAbs=1 from rfl,QN (by omega)];rfl
theorem zs0:zs 0=str [48]:=by unfold zs il;rw[if_neg (by decide),show(0:Int).natAbs=0 from rfl,QN (by omega)];rfl
theorem qgc(a b:Int)(ha:Lg a)(hb:Lg b)(hg:Int.gcd a b=1):Qg prog 161 [zs a,zs b] (.v (.bool false)):=by
 refine Qg.body func161 ntmps161 ?_;have h1:=qm3 a b ha hb;rw[hg,show((1:Nat):Int)=1 from rfl,zs1]at h1;have la:((nd a.natAbs:Nat):Int)≤4096:=by unfold Lg at ha;omega
 have lb':((nd b.natAbs:Nat):Int)≤4096:=by unfold Lg at hb;omega
 simp[-Qa,-Qb];refine Qc.pv (JK a ha) (by simp[Qj]) rfl ?_;simp[-Qa,-Qb,la];refine Qc.pv (JK b hb) (by simp[Qj]) rfl ?_;simp[-Qa,-Qb,lb'];refine Qc.pv h1 (by simp[Qj]) (by simp[str]) ?_;have e:bs [49]={ data:=#[49] }:=rfl;simp[-Qa,-Qb,str,e];exact .dat _ 9 rfl
theorem YZ(l:List UInt8)(i:Int):aindex prog 38 (.v (.string (bs l))) i=if 0≤i∧i<l.length then some (.v (.int .u8 ((l.getD i.toNat 0).toNat:Int)))else none :=
 (show aindex prog 38 (.v (.string (bs l))) i=aindex prog 9 (.v (.string (bs l))) i by kernel_rfl).trans (Yh l i)
theorem KH(q:Rat)(h:Lq q):Qg prog 118 [rs q] (.v (.int .i64 0)):=by
 refine Qg.body func118 ntmps118 ?_;have hd:Lg (q.den:Int):=h.2;have hs:=VY q h;have hc1:=VP q.num h.1;have hc2:=VP (q.den:Nat) hd;have hk:=qcn (rt q);rw[VU]at hk;have la:¬(4096:Int)<((nd q.num.natAbs:Nat):Int):=by have:=h.1;unfold Lg at this;omega
 have lb':¬(4096:Int)<((nd q.den:Nat):Int):=by have:=h.2;omega
 have hdg:=JK (q.den:Nat) hd;rw[Int.natAbs_natCast]at hdg;simp[-Qa,-Qb];refine Qc.pv hs (by simp[Qn]) (by simp[Qj]) ?_;simp[-Qa,-Qb];refine Qc.pv hc1 (by simp[Qj]) rfl ?_;simp[-Qa,-Qb];refine Qc.pv hc2 (by simp[Qj]) rfl ?_;simp[-Qa,-Qb];refine Qc.pv hk (by simp[rs,str]) rfl ?_;have hz:zs (q.den:Nat)=.v (.string (bs (dg q.den))):=by unfold zs;rw[VD];rfl
 by_cases h1:q.den=1
 ·rw[if_pos h1];simp[-Qa,-Qb,undef];refine Qc.pv (JK q.num h.1) (by simp[Qj]) rfl ?_;simp[-Qa,-Qb,la];refine Qc.pv hdg (by simp[Qj]) rfl ?_;simp[-Qa,-Qb,lb'];exact .dat _ 9 rfl
 ·rw[if_neg h1];have hcm:=qgc q.num (q.den:Nat) h.1 hd q.reduced;obtain⟨b,l,e,hb1,hb2⟩:=XA (n:=q.den) (by have:=q.den_pos;omega);have n48:¬bs (dg q.den)={ data:=#[48] }:=fun h=>by have:=(Z8 (b:=[48])).1 h;rw[dg0]at this;have:=q.den_pos;omega
  have n49:¬bs (dg q.den)={ data:=#[49] }:=fun h=>by have:=congrArg Num.val ((Z8 (b:=[49])).1 h);rw[Kk]at this;exact h1 this
  have hix:aindex prog 38 (.v (.string (bs (dg q.den)))) 0=some (.v (.int .u8 (b.toNat:Int))):=by rw[YZ,e,if_pos (by simp)];rfl
  have hb3:¬(b.toNat:Int)=45:=by omega
  have hb4:¬b.toNat=45:=by omega
  rw[hz]at hcm hdg;simp[-Qa,-Qb,undef,hz,n48,n49,hix,hb3];refine Qc.pv hcm (by simp[Qj]) rfl ?_;simp[-Qa,-Qb];refine Qc.pv (JK q.num h.1) (by simp[Qj]) rfl ?_;simp[-Qa,-Qb,la];refine Qc.pv hdg (by simp) rfl ?_;simp[-Qa,-Qb,lb'];exact .dat _ 9 rfl
end
section
attribute [local simp] Qq Qh Qk
theorem qj8(n d:Int)(h:d≠0):Int.fdiv n (if d<0 then -((Int.gcd n d:Nat):Int)else((Int.gcd n d:Nat):Int))=(Rat.divInt n d).num:=by
 rw[Rat.num_divInt,Int.gcd_comm d n];have hg:0<Int.gcd n d:=Int.gcd_pos_of_ne_zero_right _ h;obtain⟨k,hk⟩:=Int.gcd_dvd_left (a:=n) (b:=d);generalize Int.gcd n d=g at *;have hg':(g:Int)≠0:=by omega
 have hsn:(d<0∧d.sign = -1)∨(¬d<0∧d.sign=1):=by
  by_cases hd:d<0
  ·exact .inl ⟨hd,Int.sign_eq_neg_one_of_neg hd⟩
  ·exact .inr ⟨hd,Int.sign_eq_one_of_pos (by omega)⟩
 rcases hsn with⟨hd,hs⟩|⟨hd,hs⟩
 ·rw[if_pos hd,hs,hk];have e1:(g:Int)*k = -(g:Int)*-k:=by rw[Int.neg_mul_neg]
  rw[e1,Int.mul_fdiv_cancel_left _ (by omega),←e1];rw[show(-1:Int)*((g:Int)*k)=(g:Int)*(-k) by rw[Int.mul_neg,Int.neg_mul,Int.one_mul],Int.mul_ediv_cancel_left _ hg']
 ·rw[if_neg hd,hs,hk,Int.mul_fdiv_cancel_left _ hg',Int.one_mul,Int.mul_ediv_cancel_left _ hg']
theorem qj7(n d:Int)(h:d≠0):Int.fdiv d (if d<0 then -((Int.gcd n d:Nat):Int)else((Int.gcd n d:Nat):Int))=((Rat.divInt n d).den:Int):=by
 rw[Rat.den_divInt,if_neg h,Int.gcd_comm d n];have hg:0<Int.gcd n d:=Int.gcd_pos_of_ne_zero_right _ h;obtain⟨k,hk⟩:=Int.gcd_dvd_right (a:=n) (b:=d);generalize Int.gcd n d=g at *;have hg':(g:Int)≠0:=by omega
 have hab:(d.natAbs:Int)=g*k.natAbs:=by rw[hk,Int.natAbs_mul];simp
 have hq:((d.natAbs/g:Nat):Int)=(k.natAbs:Int):=by rw[Int.natCast_ediv,hab,Int.mul_ediv_cancel_left _ hg']
 rw[hq];by_cases hd:d<0
 ·rw[if_pos hd];have hk0:k<0:=by
   rcases Int.lt_or_le k 0 with h'|h'
   ·exact h'
   ·have:=Int.mul_nonneg (show(0:Int)≤g by omega) h';omega
  rw[hk,show(g:Int)*k = -(g:Int)*-k by rw[Int.neg_mul_neg],Int.mul_fdiv_cancel_left _ (by omega)];omega
 ·rw[if_neg hd];have hk0:0≤k:=by
   rcases Int.lt_or_le k 0 with h'|h'
   ·have:=Int.mul_neg_of_pos_of_neg (show(0:Int)<g by omega) h';omega
   ·exact h'
  rw[hk,Int.mul_fdiv_cancel_left _ hg'];omega
theorem qhk{n d:Int}(hn:Lg n)(hd:Lg d)(h:d≠0):Lq (Rat.divInt n d):=by
 constructor
 ·unfold Lg;rw[Rat.num_divInt];refine Nat.le_trans (Zs ?_) hn;refine Nat.le_trans (Int.natAbs_ediv_le_natAbs _ _) ?_;rw[Int.natAbs_mul];have:d.sign.natAbs=1:=Int.natAbs_sign_of_ne_zero h;rw[this];omega
 ·rw[Rat.den_divInt,if_neg h];exact Nat.le_trans (Zs (Nat.div_le_self _ _)) hd
theorem qmH(n d:Int)(hn:Lg n)(hd:Lg d)(h:d≠0):Qg prog 223 [zs n,zs d] (.tup [rs (Rat.divInt n d),.v (.int .i64 0)]):=by
 refine Qg.body func223 ntmps223 ?_;have hL:=qhk hn hd h;have hg0:0<Int.gcd n d:=Int.gcd_pos_of_ne_zero_right _ h;have hgl:Lg ((Int.gcd n d:Nat):Int):=by unfold Lg;refine Nat.le_trans (Zs ?_) hd;rw[Int.natAbs_natCast];exact Nat.gcd_le_right _ (by omega)
 have hgn:Lg (-((Int.gcd n d:Nat):Int)):=by unfold Lg;rw[Int.natAbs_neg];exact hgl
 have hg:=qm3 n d hn hd;have hs:=qfD d hd;have hng:=qnb _ hgl;have wn:=qj8 n d h;have wd:=qj7 n d h;simp;refine Qc.pv hg (by simp[Qj]) (by simp[Qj]) ?_;simp;refine Qc.pv hs (by simp[Qj]) (by simp) ?_;by_cases hdn:d<0
 ·rw[if_pos hdn]at wn wd;have hp:=qc5 n _ hn hgn (by omega);have hq:=qc5 d _ hd hgn (by omega);rw[wn]at hp;rw[wd]at hq;have hsg:sgz d<0:=by unfold sgz;rw[if_neg h,if_pos hdn];decide
  simp[hsg];refine Qc.pv hng (by simp[Qj]) (by simp[Qj]) ?_;simp;refine Qc.pv hp (by simp[Qj]) (by simp[Qj]) ?_;simp;refine Qc.pv hq (by simp[Qj]) (by simp[Qj]) ?_;by_cases h1:(Rat.divInt n d).den=1
  ·have e49:bs [49]={ data:=#[49] }:=rfl;have hr:rs (Rat.divInt n d)=zs (Rat.divInt n d).num:=by unfold rs rt;rw[if_pos h1];rfl
   rw[hr,h1,show zs ((1:Nat):Int)=.v (.string (bs [49])) from zs1];simp[e49];exact .dat _ 9 (by simp[Qj])
  ·have n49:¬bs (dg (Rat.divInt n d).den)={ data:=#[49] }:=fun h=>by have:=congrArg Num.val ((Z8 (b:=[49])).1 h);rw[Kk]at this;exact h1 this
   have hzd:zs ((Rat.divInt n d).den:Nat)=.v (.string (bs (dg (Rat.divInt n d).den))):=by unfold zs;rw[VD];rfl
   have hzn:zs (Rat.divInt n d).num=.v (.string (bs (il (Rat.divInt n d).num))):=rfl;have hr:rs (Rat.divInt n d)=.v (.string (bs (il (Rat.divInt n d).num++47::dg (Rat.divInt n d).den))):=by unfold rs rt;rw[if_neg h1];rfl
   have e47:(ByteArray.mk #[47])=bs [47]:=rfl;have l1:(il (Rat.divInt n d).num).length≤4097:=by rw[Z3];have:=hL.1;unfold Lg at this;split<;>omega
   have l2:(dg (Rat.divInt n d).den).length≤4096:=hL.2;have m1:(bs (il (Rat.divInt n d).num)).size+(bs [47]).size≤maxLen:=by rw[QB,QB];simp[maxLen];omega
   have m2:(bs (il (Rat.divInt n d).num++[47])).size+(bs (dg (Rat.divInt n d).den)).size≤maxLen:=by rw[QB,QB];simp[maxLen];omega
   rw[hzd,hzn,hr];simp[n49,e47,KM,m1,m2,JG];exact .dat _ 9 (by simp)
 ·rw[if_neg hdn]at wn wd;have hp:=qc5 n _ hn hgl (by omega);have hq:=qc5 d _ hd hgl (by omega);rw[wn]at hp;rw[wd]at hq;have hsg:¬sgz d<0:=by unfold sgz;rw[if_neg h,if_neg hdn];decide
  simp[hsg];refine Qc.pv hp (by simp[Qj]) (by simp[Qj]) ?_;simp;refine Qc.pv hq (by simp[Qj]) (by simp[Qj]) ?_;by_cases h1:(Rat.divInt n d).den=1
  ·have e49:bs [49]={ data:=#[49] }:=rfl;have hr:rs (Rat.divInt n d)=zs (Rat.divInt n d).num:=by unfold rs rt;rw[if_pos h1];rfl
   rw[hr,h1,show zs ((1:Nat):Int)=.v (.string (bs [49])) from zs1];simp[e49];exact .dat _ 9 (by simp[Qj])
  ·have n49:¬bs (dg (Rat.divInt n d).den)={ data:=#[49] }:=fun h=>by have:=congrArg Num.val ((Z8 (b:=[49])).1 h);rw[Kk]at this;exact h1 this
   have hzd:zs ((Rat.divInt n d).den:Nat)=.v (.string (bs (dg (Rat.divInt n d).den))):=by unfold zs;rw[VD];rfl
   have hzn:zs (Rat.divInt n d).num=.v (.string (bs (il (Rat.divInt n d).num))):=rfl;have hr:rs (Rat.divInt n d)=.v (.string (bs (il (Rat.divInt n d).num++47::dg (Rat.divInt n d).den))):=by unfold rs rt;rw[if_neg h1];rfl
   have e47:(ByteArray.mk #[47])=bs [47]:=rfl;have l1:(il (Rat.divInt n d).num).length≤4097:=by rw[Z3];have:=hL.1;unfold Lg at this;split<;>omega
   have l2:(dg (Rat.divInt n d).den).length≤4096:=hL.2;have m1:(bs (il (Rat.divInt n d).num)).size+(bs [47]).size≤maxLen:=by rw[QB,QB];simp[maxLen];omega
   have m2:(bs (il (Rat.divInt n d).num++[47])).size+(bs (dg (Rat.divInt n d).den)).size≤maxLen:=by rw[QB,QB];simp[maxLen];omega
   rw[hzd,hzn,hr];simp[n49,e47,KM,m1,m2,JG];exact .dat _ 9 (by simp)
end
end Go.AX.Run
namespace Go.AX
open Go.RowKit
section
variable{P:Program}{E:Env}{B:Nat}{w0 w:World}{H:Qf}
theorem Zm.more(h:Zm E B w0 H w){w':World}(hos:w'.os=w.os)(htp:w'.tape=w.tape)(hout:w'.output=w.output)(hsz:w'.heap.size=w.heap.size+1)(hold:∀k,k<w.heap.size→w'.heap[k]?=w.heap[k]?) :
  QD E w w'∧Zm E B w0 H w':=by
 have hkp:QD E w w':=fun c hc=>hold c (h.slt c hc);have hlt:∀{c:Nat} {q:Obj},w.heap[c]?=some q→c<w.heap.size:=fun hq=>(Array.getElem?_eq_some_iff.1 hq).1;have hob:=h.objs (L:=H.L) (Env.le.refl E) (fun c hc=>hc) hkp (fun c q hq _=>hold c (hlt hq)) (fun c hc=>.inl hc) (fun _ _ h=>h);refine⟨hkp,h.lt,h.gst,fun id b hb hc0=>?_,h.inj,h.mu,h.frz,fun c hc=>?_,h.so,by rw[hsz];have:=h.bas;omega,h.bel.trans ⟨hos,htp,hout,by rw[hsz];omega,fun k hk=>hold k (Nat.lt_of_lt_of_le hk h.bas)⟩,hob.1,hob.2.1,hob.2.2.1,hob.2.2.2.1,hob.2.2.2.2⟩
 ·obtain⟨cur,z,q1,q2,q3,q4,q5,q6,q7,q8,q9⟩:=h.blk id b hb hc0;exact⟨cur,z,(hold _ (hlt q1)).trans q1,q2,q3,q4,q5,q6,q7,q8,fun i j x hx=>(q9 i j x hx).mono (Env.le.refl E) hkp⟩
 ·rw[hsz];have:=h.slt c hc;omega
def qsh(E:Env)(B:Nat)(w:World)(r:Nat)(ks:List Value)(vs:List AV):Prop :=
 ∃(es:Array MapEntry) (clock:Nat) (z:Nat→Value),w.heap[r]?=some (.map es clock)∧es.toList.map (·.key)=ks∧(∀(j:Nat) (e:MapEntry),es[j]?=some e→e.val=z j)∧vs.length=es.size∧(∀(j:Nat) (x:AV),vs[j]?=some x→Den E w x (z j))∧B≤r∧¬E.S r
theorem Zm.mapset(h:Zm E B w0 H w){r:Nat}{es es':Array MapEntry}{c c':Nat}(hr:w.heap[r]?=some (.map es c))(hB:B≤r)(hS:¬E.S r) :
  QD E w (w.putObj r (.map es' c'))∧Zm E B w0 H (w.putObj r (.map es' c')):=by
 have ht:JC [r] w (w.putObj r (.map es' c')):=⟨rfl,rfl,rfl,by simp,fun k hk=>World.putObj_heap_other (by simpa using hk)⟩;refine⟨ht.keeps (by simpa using hS),?_⟩;exact h.turn ht (fun c hc=>by simp only[List.mem_singleton]at hc;subst hc;exact⟨⟨_,hr,rfl⟩,hB,hS⟩) E.D E.ZD (fun c hc=>⟨hc,(by
  intro e;simp only[List.mem_singleton]at e;subst e;rw[(h.dfr c hc).1]at hr;cases hr),h.dfb c hc⟩) h.zdd H.L (fun id q hq=>⟨q,hq,.inl ⟨rfl,by
  simp only[List.mem_singleton];intro e;obtain⟨_,_,_,fn,tmps,D',q4,_⟩:=h.obj id q hq;rw[e,hr]at q4;cases q4⟩⟩)
theorem Zm.slay(h:Zm E B w0 H w){r:Nat}{es:Array MapEntry}{c:Nat}(hr:w.heap[r]?=some (.map es c))(hB:B≤r):E.le (E.lay r)∧Zm (E.lay r) B w0 H w:=by
 have hle:E.le (E.lay r):=⟨Nat.le_refl _,fun _ _=>rfl,fun _ _=>rfl,fun c hc=>.inl hc,rfl,fun _ h=>h,rfl⟩;refine⟨hle,h.lt,h.gst,fun id b hb hc0=>?_,h.inj,fun id b hb hc0 hf hs=>?_,fun id b hb hc0 hf=>.inl (h.frz id b hb hc0 hf),fun c hc=>?_,fun c hc=>?_,h.bas,h.bel,fun id q hq=>?_,fun c hc=>?_,h.dfb,h.zdd,h.oin⟩
 ·obtain⟨cur,z,q1,q2,q3,q4,q5,q6,q7,q8,q9⟩:=h.blk id b hb hc0;exact⟨cur,z,q1,q2,q3,q4,q5,q6,q7,q8,fun i j x hx=>(q9 i j x hx).mono hle (QD.refl E w)⟩
 ·rcases hs with hs|hs
  ·exact h.mu id b hb hc0 hf hs
  ·obtain⟨cur,z,q1,_⟩:=h.blk id b hb hc0;have hs:E.η id=r:=hs;rw[hs,hr]at q1;cases q1
 ·rcases hc with hc|hc
  ·exact h.slt c hc
  ·have hc:c=r:=hc;subst hc;exact(Array.getElem?_eq_some_iff.1 hr).1
 ·rcases hc with hc|hc
  ·exact h.so c hc
  ·have hc:c=r:=hc;subst hc;exact .inr hB
 ·obtain⟨q1,q2,q3,q4⟩:=h.obj id q hq;refine⟨q1,q2,fun hs=>?_,q4.mono hle (QD.refl E w) rfl⟩;rcases hs with hs|hs
  ·exact q3 hs
  ·have hs:E.η id=r:=hs;obtain⟨fn,tmps,D',q5,_⟩:=q4;rw[hs,hr]at q5;cases q5
 ·obtain⟨q1,q2⟩:=h.dfr c hc;refine⟨q1,fun hs=>?_⟩;rcases hs with hs|hs
  ·exact q2 hs
  ·have hs:c=r:=hs;subst hs;rw[hr]at q1;cases q1
def qdv(P:Program)(ops:Array Oper)(l:List Oper)(st:St)(m:Nat)(ks:List Value)(vs:List AV)(Q:St→Prop):Prop :=
 ∀ρ E B w0 a w r,Rel E B w0 (st.up m (.v (.map (some r)))) a w→qsh E B w r ks vs→∀R:Exit→Act→World→Prop,(∀a' w',Ym E B w0 w Q a' w'→R .normal a' w')→wpListIn (FW ρ) 3 P ops R l a w
variable{ops:Array Oper}{l:List Oper}{o:Oper}{st:St}{Q:St→Prop}{m:Nat}{ks:List Value}{vs:List AV}
theorem Vk(hg:o.guard=none){tmps:Array Value}:Region.wanted o (yielded ops tmps)=true:=by simp[Region.wanted,hg]
theorem Qx.mkMap{t:TypeId}(hg:o.guard=none)(ho:o.op=.makeMap t none)(hd:o.dst=some m)(hm:m<st.n)(h:qdv P ops l st m [] [] Q):Qx P ops (o::l) st Q:=fun ρ E B w0 a w hr R hR=>by
 unfold wpListIn;rw[if_pos (Vk hg)];have hrun:(execOp a.eval o).run P w=.ok (.value (.map (some w.heap.size))) (w.alloc (.map #[] 0)):=by have:(Instr.makeMap t none).run P w=.ok (.map (some w.heap.size)) (w.alloc (.map #[] 0)):=rfl;simp only[execOp,ho,Option.map_none,this,Sem.run_bind,Result.andThen_ok,Sem.run_pure]
 obtain⟨h1,h2⟩:=hr.h.more (w':=w.alloc (.map #[] 0)) rfl rfl rfl (by simp) (fun k hk=>Below.heap_alloc w _ _ hk);have hr1:=hr.le (Env.le.refl E) h1 h2 (N':=st.N) hr.N;have key:=h ρ E B w0 _ _ w.heap.size (hr1.put (dst:=some m) (y:=.map (some w.heap.size)) (st':=st.up m (.v (.map (some w.heap.size)))) (.v _) (by simp[St.put,hm,St.up])) ⟨#[],0,fun _=>undef,World.alloc_heap_new w _,rfl,fun j e he=>by simp at he,rfl,fun j x hx=>by simp at hx,hr.h.bas,fun hs=>by have:=hr.h.slt _ hs;omega⟩ R fun a' w' hA=>hR a' w' (hA.trans (Env.le.refl E) h1);rw[←hd]at key;exact YP hrun (fun d=>by simp) key
theorem qdv.done(h:Qx P ops l (st.up m (.mp ks vs)) Q):qdv P ops l st m ks vs Q:=fun ρ E B w0 a w r hr ⟨es,c,z,h1,h2,h3,h4,h5,h6,h7⟩ R hR=>by
 obtain⟨k1,k2⟩:=hr.h.slay h1 h6;refine h ρ (E.lay r) B w0 a w ⟨hr.dle k1,hr.n,fun i=>?_,k2,hr.N⟩ R fun a' w' hA=>hR a' w' (hA.trans k1 (QD.refl E w));have hi:=hr.t i;simp only[St.up,upd]at hi⊢;split at hi
 ·rename_i hm;rw[if_pos hm];generalize a.tmps.getD i undef=y at hi;cases hi;exact .mp ks vs r es c z (.inr rfl) h1 h2 h3 h4 fun j x hx=>(h5 j x hx).mono k1 (QD.refl E w)
 ·rename_i hm;rw[if_neg hm];exact hi.mono k1 (QD.refl E w)
theorem qcz{kk q:IntKind}{n:Int}:∀(es:List MapEntry) (i:Nat),(∀e∈es,∃k,e.key=.int q k∧k≠n)→Instr.findNow (.int kk) (.int q n) es i=some none:=by
 intro es;induction es with
 | nil=>intro i _;rfl
 | cons e es ih =>
  intro i h;obtain⟨k,h1,h2⟩:=h e (by simp);have h2':(n==k)=false:=by simpa using fun e=>h2 e.symm
  simp only[Instr.findNow,h1,Instr.sameNow];simp[h2',ih (i+1) fun e he=>h e (by simp[he])]
theorem qdv.insert{t:TypeId}{q:IntKind}{n:Int}{x:Operand}(hg:o.guard=none)(ho:o.op=.insert t (.tmp m) (.const (.int q n)) x)(hd:o.dst=none)(ht:qfd P t=true)(hk:∀k∈ks,∃j,k=.int q j∧j≠n)(hx:x≠.tmp m)(h:qdv P ops l st m (ks++[.int q n]) (vs++[ev st x]) Q) :
  qdv P ops (o::l) st m ks vs Q:=fun ρ E B w0 a w r hr ⟨es,c,z,h1,h2,h3,h4,h5,h6,h7⟩ R hR=>by
 unfold wpListIn;rw[if_pos (Vk hg)];obtain⟨kt,et,kk,hu1,hu2⟩:=XO ht;have hmm:m<a.tmps.size∨¬m<a.tmps.size:=Nat.lt_or_ge ..|>.imp id Nat.not_lt.2;have hem:a.eval (.tmp m)=.map (some r):=by have:=hr.t m;simp only[St.up,upd,if_pos]at this;generalize hy:a.tmps.getD m undef=y at this;cases this;simpa[Act.eval]using hy
 have hobj:(getObj r).run P w=.ok (.map es c) w:=by simp[getObj,Sem.run,h1]
 have hck0:∀(d:Nat),(Instr.checkKey false (d+1) kt (.int q n)).run P w=.ok () w:=fun d=>by simp[Instr.checkKey,run_underlying hu2]
 have hck:(Instr.checkKey false 10000 kt (.int q n)).run P w=.ok () w:=hck0 9999;have hfk:(Instr.findKey kt (.int q n) es.toList).run P w=.ok none w:=by
  have:Instr.findNow (.int kk) (.int q n) es.toList 0=some none:=qcz _ _ fun e he=>by
   have:e.key∈ks:=by rw[←h2];exact List.mem_map.2 ⟨e,he,rfl⟩
   exact hk _ this
  simp[Instr.findKey,run_underlying hu2,this]
 have hrun:(execOp a.eval o).run P w=.ok .skip (w.putObj r (.map (es.push { key:=.int q n,val:=a.eval x,born:=c }) (c+1))):=by
  have hset:∀ob,(setObj r ob).run P w=.ok () (w.putObj r ob):=fun ob=>by simp only[setObj,Sem.run,h1];rfl
  have hc:a.eval (.const (.int q n))=.int q n:=rfl;simp only[execOp,ho,Instr.mapUpdate,Sem.run_bind,run_underlying hu1,Result.andThen_ok,hem,hc,hobj,hck,hfk,hset,Sem.run_pure]
 obtain⟨k1,k2⟩:=hr.h.mapset (es':=es.push { key:=.int q n,val:=a.eval x,born:=c }) (c':=c+1) h1 h6 h7;refine YP hrun (fun d=>by simp) ?_;have hdx:Den E w (ev st x) (a.eval x):=by
  have:=hr.ev x;cases x with
  | tmp i =>
   have hi:i≠m:=fun e=>hx (by rw[e]);have e:ev (st.up m (.v (.map (some r)))) (.tmp i)=ev st (.tmp i):=by simp[ev,St.up,upd,hi]
   rw[e]at this;exact this
  | _=>exact this
 have hsz:r<w.heap.size:=(Array.getElem?_eq_some_iff.1 h1).1;have ep:a.put o.dst undef=a:=by rw[hd];rfl
 refine h ρ E B w0 (a.put o.dst undef) _ r (by rw[ep];exact hr.le (Env.le.refl E) k1 k2 (N':=st.N) hr.N) ⟨_,c+1,fun j=>if j<es.size then z j else a.eval x,World.putObj_heap_same hsz,by simp[h2],fun j e he=>?_,by simp[h4],fun j y hy=>?_,h6,h7⟩ R fun a' w' hA=>hR a' w' (hA.trans (Env.le.refl E) k1)
 ·rw[Array.getElem?_push]at he;split at he
  ·rename_i hj;injection he with he;subst he;rw[hj];simp
  ·rename_i hj;have hj':j<es.size:=(Array.getElem?_eq_some_iff.1 he).1;simp only[if_pos hj'];exact h3 j e he
 ·rw[List.getElem?_append]at hy;split at hy
  ·rename_i hj;simp only[if_pos (show j<es.size by omega)];exact(h5 j y hy).mono (Env.le.refl E) k1
  ·rename_i hj;have hj0:j-vs.length=0:=by
    rcases Nat.eq_zero_or_pos (j-vs.length)with h0|h0
    ·exact h0
    ·rw[List.getElem?_eq_none (by simp;omega)]at hy;cases hy
   rw[hj0]at hy;simp at hy;subst hy;simp only[if_neg (show ¬j<es.size by omega)];exact hdx.mono (Env.le.refl E) k1
theorem qdv.pure{c:Call}{f:FuncId}{args:List AV}{u:AV}{d k:Nat}(hg:o.guard=none)(ho:o.op=.call c)(hc:c.callee=.value (.func f))(hd:o.dst=some d)(hdm:d≠m)(hdn:d<st.n)(hargs:c.args.toList.map (ev st)=args)(hna:∀x∈c.args.toList,x≠.tmp m)
  (hp:Qg P f args u) (ha:args.all (Qu k)=true) (hu:Qu k u=true) (h:qdv P ops l (st.up d u) m ks vs Q):qdv P ops (o::l) st m ks vs Q:=fun ρ E B w0 a w r hr ⟨es,cl,z,h1,h2,h3,h4,h5,h6,h7⟩ R hR=>by
 unfold wpListIn;rw[if_pos (Vk hg)];obtain⟨⟨fn,body,g1,g2,g3⟩,hpc⟩:=hp;have hrun:(execOp a.eval o).run P w=.ok (.enter f (c.args.map a.eval)) w:=by
  unfold execOp;simp only[ho,resolve,hc,Deferred.ofValue,Sem.run_bind,invoke];have hname':¬fn.name="runtime.NumGoroutine":=by simpa using g2
  simp[callFunc,g1,hname',g3,Act.eval]
 refine YP hrun (fun d=>by simp) ⟨fun h=>(by cases h),KO.2 ?_⟩;have hev:∀x∈c.args.toList,Den E w (ev st x) (a.eval x):=fun x hx=>by
  have:=hr.ev x;cases x with
  | tmp i =>
   have hi:i≠m:=fun e=>hna _ hx (by rw[e]);have e:ev (st.up m (.v (.map (some r)))) (.tmp i)=ev st (.tmp i):=by simp[ev,St.up,upd,hi]
   rw[e]at this;exact this
  | _=>exact this
 have ha':∀x∈args,Qu k x=true:=by simpa[List.all_eq_true]using ha
 refine(hpc (E.bs E.S) w.heap.size w w (c.args.map a.eval) (hr.h.base E.S hr.h.slt) rfl (by rw[←hargs];simp) (fun j v hv=>?_)).mono ?_
 ·refine Den.data (E:=E) (E':=(E.bs E.S)) (fun c hc=>hc) k (ha' v (List.mem_of_getElem? hv)) ?_;rw[←hargs]at hv;simp only[List.getElem?_map,Option.map_eq_some_iff]at hv;obtain⟨x,hx,rfl⟩:=hv;have:(c.args.map a.eval).getD j undef=a.eval x:=by
   have hx':c.args[j]?=some x:=by simpa using hx
   simp[Array.getD_eq_getD_getElem?,hx']
  rw[this];exact hev x (List.mem_of_getElem? hx)
 ·rintro e w' ⟨v,E',r',H',N',rfl,q2,q3,q4,q5,q6,rfl⟩;have hZ:E'.Z=E.S:=q2.Z;obtain⟨p1,p2,p3⟩:=hr.h.back E.S (fun c hc=>hc) q4 q2 E'.S (fun c hc=>by
   rcases q4.so c hc with h1|h1
   ·rw[hZ]at h1;exact .inl h1
   ·exact .inr ⟨hc,by omega⟩) (fun c hc=>q2.S c hc) (fun c hc=>q3 c hc)
  have hlt:r<w.heap.size:=(Array.getElem?_eq_some_iff.1 h1).1;have hr1:=hr.le p1 p2 p3 (N':=st.N) hr.N;have hdv:Den (E.wS E'.S) w' r' v:=Den.data (E:=E') (E':=(E.wS E'.S)) (fun c hc=>hc) k hu q6;have key:=h ρ (E.wS E'.S) B w0 (a.put (some d) v) w' r ?_ ⟨es,cl,z,(q4.bel.block r hlt).trans h1,h2,h3,h4,fun j x hx=>(h5 j x hx).mono p1 p2,h6,fun hs=>?_⟩ R fun a' w' hA=>hR a' w' (hA.trans p1 p2)
  ·rw[←hd]at key;exact key
  ·have:=hr1.put (dst:=some d) (st':=(st.up m (.v (.map (some r)))).up d r') hdv (by simp[St.put,St.up,hdn]);have e:(st.up m (.v (.map (some r)))).up d r'=(st.up d r').up m (.v (.map (some r))):=by simp only[St.up];rw[qbW hdm]
   rw[e]at this;exact this
  ·rcases q4.so r hs with h8|h8
   ·rw[hZ]at h8;exact h7 h8
   ·omega
end
end Go.AX
namespace Go.AX.Run
open Go.RowKit Go.Proofs Go.AX Go.Num Tryz
section
attribute [local simp] Qq Qh Qk Qr QR
def qcA(a b c d:Int):AV:=.agg [zs a,zs b,zs c,zs d]
theorem qgn(a b c d:Int)(k:Nat):Qu (k+3) (qcA a b c d)=true:=by simp[qcA,Qj]
theorem qkH(a b c d:Int):abuild prog 230 [(0,zs a),(1,zs b),(2,zs c),(3,zs d)]=some (.agg [zs a,zs b,zs c,zs d]):=by unfold zs str;kernel_rfl
theorem Xn(a b c d:Int):acells (qcA a b c d)=[zs a,zs b,zs c,zs d]:=_root_.id rfl
attribute [local simp] qkH Xn
theorem qdL(a b c d:Int)(ha:Lg a)(hb:Lg b)(hc:Lg c)(hd:Lg d)(h1:Lg (a*b))(h2:Lg (c*d)):Qg prog 238 [zs a,zs b,zs c,zs d] (.tup [zs (a*b),zs (c*d),.v (.int .i64 0)]):=by refine Qg.body func238 ntmps238 ?_;simp;refine Qc.pv (qfo a b ha hb h1) (by simp[Qj]) (by simp[Qj]) ?_;simp;refine Qc.pv (qfo c d hc hd h2) (by simp[Qj]) (by simp[Qj]) ?_;simp;exact .dat _ 9 (by simp[Qj])
theorem qgz(a b:Rat)(ha:Lq a)(hb:Lq b):Qg prog 221 [rs a,rs b] (.tup [qcA a.num a.den b.num b.den,.v (.int .i64 0)]):=by refine Qg.body func221 ntmps221 ?_;simp;refine Qc.pv (KH a ha) (by simp[Qn]) rfl ?_;simp;refine Qc.pv (KH b hb) (by simp[Qn]) rfl ?_;simp;refine Qc.pv (VY a ha) (by simp[Qn]) (by simp[Qj]) ?_;simp;refine Qc.pv (VY b hb) (by simp[Qn]) (by simp[Qj]) ?_;simp;exact .dat _ 9 (by simp[Qj])
def fn0(f:Nat):AV:=.fn (.func f) [] []
def qb8(f:Nat):AV:=.fn (.func 251) [] [.rop [fn0 f]]
theorem qeM(f:Nat):Qg prog 235 [fn0 f] (qb8 f):=by
 refine Qg.body func235 ntmps235 ?_;simp[fn0];have hc:∀(H:Qf) (ty:TypeId),H.b 0=some ⟨ty,1,[[fn0 f]],false,some 1⟩→Frz H (fun _=>True) (fun _=>False) (.ptr 0 1 0 0) (.rop [fn0 f]):=fun H ty h=>.cell 0 1 0 0 _ [fn0 f] [fn0 f] trivial h rfl rfl rfl (fun _=>fn0 f) (fun j x' hx=>by
  match j,hx with
  | 0,hx=>cases hx;rfl
  | j+1,hx=>simp at hx) (fun j x' hx=>by
  match j,hx with
  | 0,hx=>cases hx;exact .dat _ 9 rfl
  | j+1,hx=>simp at hx)
 refine .fn _ [] [] _ _ (fun _=>.v undef) (fun _=>.ptr 0 1 0 0) rfl rfl (fun j x' hx=>by simp at hx) (fun j x' hx=>by simp at hx) (fun j x' hx=>by
  match j,hx with
  | 0,hx=>cases hx;rfl
  | j+1,hx=>simp at hx) (fun j x' hx=>by
  match j,hx with
  | 0,hx=>cases hx;exact hc _ _ (by simp[fn0];rfl)
  | j+1,hx=>simp at hx)
theorem qht:Qg prog 235 [fn0 236] (qb8 236):=qeM _
theorem qhu:Qg prog 235 [fn0 73] (qb8 73):=qeM _
def qlZ:AV:=.mp [.int .u8 43,.int .u8 45,.int .u8 42,.int .u8 47] [qb8 236,qb8 73,fn0 237,fn0 239]
theorem qpc:Qg prog 222 [] qlZ:=by refine⟨⟨_,_,func222,by kernel_rfl,rfl⟩,Qv.QM func222 rfl (by simp[ntmps222]) (Qe.seq (Qd _ _ _ ?_))⟩;simp;refine Qe.seq (Qe.J7 (Qx.mkMap rfl rfl rfl (by decide) ?_));refine qdv.pure (k:=9) rfl rfl rfl rfl (by decide) (by decide) rfl (by simp) qht rfl rfl ?_;refine qdv.insert rfl rfl rfl (by kernel_rfl) (by simp) (by simp) ?_;refine qdv.pure (k:=9) rfl rfl rfl rfl (by decide) (by decide) rfl (by simp) qhu rfl rfl ?_;refine qdv.insert rfl rfl rfl (by kernel_rfl) (by simp) (by simp) ?_;refine qdv.insert rfl rfl rfl (by kernel_rfl) (by simp) (by simp) ?_;refine qdv.insert rfl rfl rfl (by kernel_rfl) (by simp) (by simp) ?_;refine qdv.done (Z0 _ _ _ ?_);simp[St.up,ev];refine Qe.ret ?_;simp[upd,qlZ,fn0]
theorem qgH:Qu 9 qlZ=true:=by kernel_rfl
theorem qmp(a b c d:Int)(ha:Lg a)(hb:Lg b)(hc:Lg c)(hd:Lg d)(h1:Lg (a*c))(h2:Lg (b*d)):Qg prog 237 [qcA a b c d] (.tup [zs (a*c),zs (b*d),.v (.int .i64 0)]):=by refine Qg.body func237 ntmps237 ?_;simp;refine Qc.pv (qdL a c b d ha hc hb hd h1 h2) (by simp[Qj]) (by simp[Qj]) ?_;simp;exact .dat _ 9 (by simp[Qj])
theorem qr3{z:Int}(h:z≠0):zs z=.v (.string (bs (il z)))∧¬bs (il z)={ data:=#[48] }:=⟨rfl,fun e=>h (K7 ((Z8 (b:=[48])).1 e|>.trans (by rw[il,if_neg (by decide),show(0:Int).natAbs=0 from rfl,QN (by omega)];rfl)))⟩
theorem qrz(a b c d:Int)(ha:Lg a)(hb:Lg b)(hc:Lg c)(hd:Lg d)(h1:Lg (a*d))(h2:Lg (b*c))(h0:c≠0):Qg prog 239 [qcA a b c d] (.tup [zs (a*d),zs (b*c),.v (.int .i64 0)]):=by refine Qg.body func239 ntmps239 ?_;obtain⟨e1,e2⟩:=qr3 h0;have hbo:=qdL a d b c ha hd hb hc h1 h2;rw[e1]at hbo;simp[e1,e2];refine Qc.pv hbo (by simp[Qj]) (by simp[Qj]) ?_;simp;exact .dat _ 9 (by simp[Qj])
end
section
attribute [local simp] Qq Qh Qk Qr QR Xn
theorem qkv(f:Nat)(z:Int)(a b c d:Int)(hf:Qg prog f [zs (a*d),zs (c*b)] (.tup [zs z,.v (.int .i64 0)]))(ha:Lg a)(hb:Lg b)(hc:Lg c)(hd:Lg d)(h1:Lg (a*d))(h2:Lg (c*b))(h3:Lg (b*d)) :
  Qg prog 251 [qcA a b c d,.rop [fn0 f]] (.tup [zs z,zs (b*d),.v (.int .i64 0)]):=by
 refine Qg.body func251 ntmps251 ?_;simp;refine Qc.pv (qdL a d c b ha hd hc hb h1 h2) (by simp[Qj]) (by simp[Qj]) ?_;simp[fn0];refine Qc.pv hf (by simp[Qj]) (by simp[Qj]) ?_;simp;refine Qc.pv (qfo b d hb hd h3) (by simp[Qj]) (by simp[Qj]) ?_;simp;exact .dat _ 9 (by simp[Qj])
theorem Kq(sg:Int)(g:Nat)(cs:List AV)(hl:alook prog 235 qlZ (.v (.int .u8 sg))=some (.fn (.func g) [] cs))(hcs:cs.all (Qu 9)=true)(a b:Rat)(ha:Lq a)(hb:Lq b)(n d:Int)
  (hop:Qg prog g (qcA a.num a.den b.num b.den::cs) (.tup [zs n,zs d,.v (.int .i64 0)])) (hn:Lg n) (hd:Lg d) (hd0:d≠0):Qg prog 199 [.v (.int .u8 sg),rs a,rs b] (.tup [rs (Rat.divInt n d),.v (.int .i64 0)]):=by
 refine Qg.body func199 ntmps199 ?_;simp;refine Qc.pv (qgz a b ha hb) (by simp[Qn]) (by simp[qgn]) ?_;simp;refine Qm.Z2 (fun _=>false) mixed 2 ?_;simp;refine QF.pure (k:=9) qpc (by simp) qgH ?_;simp;refine QI.cons (Evd.any rfl fun st2 ha=>Qw.lookup (u:=.fn (.func g) [] cs) rfl ?_) (by simp) ?_
 ·rw[ha.2.1 _ (by simp[Op.operands]),ha.2.1 _ (by simp[Op.operands])];exact hl
 simp;refine QI.of (lit:=fun _=>false) ?_;simp[Q0];refine QF.pure (k:=9) hop (by rw[List.all_cons,hcs];simp[Qj]) (by simp[Qj]) ?_;simp;refine⟨Zg.ofM (by kernel_rfl),?_⟩;refine Qc.pv (qmH n d hn hd hd0) (by simp[Qj]) (by simp[Qn]) ?_;simp;exact .dat _ 9 (by simp[Qn])
theorem VH(a b:Nat):nd (a*b)≤nd a+nd b:=by refine(YF (by have:=YC a;omega)).2 ?_;rw[Nat.pow_add];exact Nat.mul_lt_mul'' (XW a) (XW b)
theorem qiU{a b k:Nat}(ha:nd a≤k)(hb:nd b≤k)(hk:0<k):nd (a+b)≤k+1:=by have h1:=(YF hk).1 ha;have h2:=(YF hk).1 hb;refine(YF (by omega)).2 ?_;rw[Nat.pow_succ];generalize 10^k=x at *;omega
def szq(q:Rat):Nat:=max (nd q.num.natAbs) (nd q.den)
theorem YW(q:Rat):Lq q↔szq q≤4096:=by unfold Lq Lg szq;omega
theorem qb2{a b:Int}{k:Nat}(h:nd a.natAbs+nd b.natAbs≤4096):Lg (a*b):=by unfold Lg;rw[Int.natAbs_mul];exact Nat.le_trans (VH _ _) h
theorem qp7{a b:Int}{k:Nat}(ha:nd a.natAbs≤k)(hb:nd b.natAbs≤k)(hk:0<k)(h:k+1≤4096):Lg (a+b):=by unfold Lg;exact Nat.le_trans (Zs (Int.natAbs_add_le a b)) (Nat.le_trans (qiU ha hb hk) h)
theorem Vu(q:Rat):(q.den:Int)≠0:=by have:=q.den_pos;omega
theorem WU(q:Rat):nd ((q.den:Int)).natAbs=nd q.den:=by rw[Int.natAbs_natCast]
theorem qo4(a b:Rat):Rat.divInt (a.num*b.den+b.num*a.den) ((a.den:Int)*b.den)=a+b:=by rw[←Rat.divInt_add_divInt _ _ (Vu a) (Vu b),Rat.num_divInt_den,Rat.num_divInt_den]
theorem qjk(a b:Rat):Rat.divInt (a.num*b.num) ((a.den:Int)*b.den)=a*b:=by rw[←Rat.divInt_mul_divInt,Rat.num_divInt_den,Rat.num_divInt_den]
theorem qo5(a b:Rat):Rat.divInt (a.num*b.den) ((a.den:Int)*b.num)=a/b:=by rw[←Rat.divInt_mul_divInt,Rat.num_divInt_den,Rat.div_def,Rat.inv_def]
theorem qo3(a b:Rat)(h:szq a+szq b+1≤4096):Qg prog 200 [rs a,rs b] (.tup [rs (a+b),.v (.int .i64 0)]):=by
 refine Qg.body func200 ntmps200 ?_;have ha:Lq a:=(YW a).2 (by omega);have hb:Lq b:=(YW b).2 (by omega);have q0:0<szq a:=Nat.lt_of_lt_of_le (YC _) (Nat.le_max_left _ _);unfold szq at h q0;have h1:nd (a.num*(b.den:Int)).natAbs≤szq a+szq b:=by rw[Int.natAbs_mul];refine Nat.le_trans (VH _ _) ?_;rw[WU];unfold szq;omega
 have h2:nd (b.num*(a.den:Int)).natAbs≤szq a+szq b:=by rw[Int.natAbs_mul];refine Nat.le_trans (VH _ _) ?_;rw[WU];unfold szq;omega
 have l1:Lg (a.num*(b.den:Int)):=by unfold Lg;unfold szq at h1;omega
 have l2:Lg (b.num*(a.den:Int)):=by unfold Lg;unfold szq at h2;omega
 have l3:Lg ((a.den:Int)*(b.den:Int)):=qb2 (k:=0) (by rw[WU,WU];omega);have l4:Lg (a.num*(b.den:Int)+b.num*(a.den:Int)):=qp7 h1 h2 (by unfold szq;omega) (by unfold szq;omega);have hd:(a.den:Int)*(b.den:Int)≠0:=Int.mul_ne_zero (Vu a) (Vu b);have hop:=qkv 236 (a.num*(b.den:Int)+b.num*(a.den:Int)) a.num a.den b.num b.den (qqd _ _ l1 l2 l4) ha.1 ha.2 hb.1 hb.2 l1 l2 l3;have hc:=Kq 43 251 [.rop [fn0 236]] (by kernel_rfl) (by simp[fn0]) a b ha hb _ _ hop l4 l3 hd;rw[qo4]at hc;simp;refine Qc.pv hc (by simp[Qn]) (by simp[Qn]) ?_;simp;exact .dat _ 9 (by simp[Qn])
theorem qg0{n d:Int}(h:d≠0):szq (Rat.divInt n d)≤max (nd n.natAbs) (nd d.natAbs):=by
 have h1:nd (Rat.divInt n d).num.natAbs≤nd n.natAbs:=by rw[Rat.num_divInt];refine Zs (Nat.le_trans (Int.natAbs_ediv_le_natAbs _ _) ?_);rw[Int.natAbs_mul,Int.natAbs_sign_of_ne_zero h];omega
 have h2:nd (Rat.divInt n d).den≤nd d.natAbs:=by rw[Rat.den_divInt,if_neg h];exact Zs (Nat.div_le_self _ _)
 unfold szq;omega
theorem qey(a b:Rat):szq (a*b)≤szq a+szq b:=by rw[←qjk];refine Nat.le_trans (qg0 (Int.mul_ne_zero (Vu a) (Vu b))) ?_;have h1:=VH a.num.natAbs b.num.natAbs;have h2:=VH a.den b.den;rw[Int.natAbs_mul,Int.natAbs_mul,Int.natAbs_natCast,Int.natAbs_natCast];unfold szq;omega
theorem Kb(a:Rat):szq (-a)=szq a:=by unfold szq;rw[Rat.neg_num,Rat.neg_den,Int.natAbs_neg]
theorem qpa(a b:Rat)(h:szq a+szq b≤4096):Qg prog 220 [rs a,rs b] (.tup [rs (a*b),.v (.int .i64 0)]):=by refine Qg.body func220 ntmps220 ?_;have ha:Lq a:=(YW a).2 (by omega);have hb:Lq b:=(YW b).2 (by omega);have l1:Lg (a.num*b.num):=qb2 (k:=0) (by unfold szq at h;omega);have l3:Lg ((a.den:Int)*(b.den:Int)):=qb2 (k:=0) (by rw[WU,WU];unfold szq at h;omega);have hd:(a.den:Int)*(b.den:Int)≠0:=Int.mul_ne_zero (Vu a) (Vu b);have hop:=qmp a.num a.den b.num b.den ha.1 ha.2 hb.1 hb.2 l1 l3;have hc:=Kq 42 237 [] (by kernel_rfl) (by simp) a b ha hb _ _ hop l1 l3 hd;rw[qjk]at hc;simp;refine Qc.pv hc (by simp[Qn]) (by simp[Qn]) ?_;simp;exact .dat _ 9 (by simp[Qn])
theorem qo7(a b:Rat)(h:szq a+szq b≤4096)(hb0:b≠0):Qg prog 165 [rs a,rs b] (.tup [rs (a/b),.v (.int .i64 0)]):=by refine Qg.body func165 ntmps165 ?_;have ha:Lq a:=(YW a).2 (by omega);have hb:Lq b:=(YW b).2 (by omega);have hbn:b.num≠0:=fun e=>hb0 (Rat.num_eq_zero.1 e);have l1:Lg (a.num*(b.den:Int)):=qb2 (k:=0) (by rw[WU];unfold szq at h;omega);have l3:Lg ((a.den:Int)*b.num):=qb2 (k:=0) (by rw[WU];unfold szq at h;omega);have hd:(a.den:Int)*b.num≠0:=Int.mul_ne_zero (Vu a) hbn;have hop:=qrz a.num a.den b.num b.den ha.1 ha.2 hb.1 hb.2 l1 l3 hbn;have hc:=Kq 47 239 [] (by kernel_rfl) (by simp) a b ha hb _ _ hop l1 l3 hd;rw[qo5]at hc;simp;refine Qc.pv hc (by simp[Qn]) (by simp[Qn]) ?_;simp;exact .dat _ 9 (by simp[Qn])
theorem qpb(a:Rat)(h:Lq a):Qg prog 119 [rs a] (.tup [zs a.num,.v (.int .i64 0)]):=by refine Qg.body func119 ntmps119 ?_;simp;refine Qc.pv (KH a h) (by simp[Qn]) rfl ?_;simp;refine Qc.pv (VY a h) (by simp[Qn]) (by simp[Qj]) ?_;simp;exact .dat _ 9 (by simp[Qj])
theorem qo6(a:Rat)(h:Lq a):Qg prog 120 [rs a] (.tup [zs (a.den:Nat),.v (.int .i64 0)]):=by refine Qg.body func120 ntmps120 ?_;simp;refine Qc.pv (KH a h) (by simp[Qn]) rfl ?_;simp;refine Qc.pv (VY a h) (by simp[Qn]) (by simp[Qj]) ?_;simp;exact .dat _ 9 (by simp[Qj])
end
section
attribute [local simp] Qq Qh Qk Qr QR alen
def ql(l:List Rat):List (List AV):=l.map fun q=>[rs q]
def zl(l:List Int):List (List AV):=l.map fun z=>[zs z]
theorem QU(l:List Rat):(ql l).length=l.length:=by simp[ql]
theorem QO(l:List Int):(zl l).length=l.length:=by simp[zl]
theorem qry(l:List Rat)(i:Nat)(h:i<l.length):(ql l)[i]?=some [rs l[i]]:=by simp[ql,h]
theorem qaf(l:List Int)(i:Nat)(h:i<l.length):(zl l)[i]?=some [zs l[i]]:=by simp[zl,h]
theorem Q4(l:List Rat)(i:Nat)(h:i<(ql l).length):(ql l)[i]=[rs (l[i]'(by simpa[ql]using h))]:=by simp[ql]
theorem QX(l:List Int)(i:Nat)(h:i<(zl l).length):(zl l)[i]=[zs (l[i]'(by simpa[zl]using h))]:=by simp[zl]
def ln(c:List Rat)(k:Rat):AV:=.agg [.ro (ql c),rs k]
theorem QP(c:List Rat)(x:Rat):acells (ln c x)=[.ro (ql c),rs x]:=_root_.id rfl
theorem QK(q:Rat):acells (rs q)=[rs q]:=_root_.id rfl
theorem Zd(q:Rat):(rs q).one=true:=_root_.id rfl
attribute [local simp] QU QO Q4 QX QP QK Zd
theorem qcN(z:Int)(h:nd z.natAbs≤100):Qg prog 121 [zs z] (.v (.int .i64 0)):=by
 refine Qg.body func121 ntmps121 ?_;have hl:=Z3 z;have hp:=YC z.natAbs;by_cases hz:z<0
 ·rw[if_pos hz]at hl;have e:(il z).getD 0 0=45:=by simp[il,hz]
  have w1:IntKind.i64.wrap (((il z).length:Int)-1)=((nd z.natAbs:Nat):Int):=by rw[Ql (by omega) (by omega)];omega
  have hix:aindex prog 38 (.v (.string (bs (il z)))) 0=some (.v (.int .u8 45)):=by rw[YZ,if_pos (by omega)];simp only[Int.toNat_zero,e];rfl
  simp[-Qa,-Qb,zs,str,Num.QB,show 0<(il z).length by omega,hix,w1,show ¬(100:Int)<((nd z.natAbs:Nat):Int) by omega];exact .dat _ 9 rfl
 ·rw[if_neg hz]at hl;obtain⟨b,t,e⟩:∃b t,il z=b::t:=by
   cases he:il z with
   | nil=>rw[he]at hl;simp at hl;omega
   | cons b t=>exact⟨b,t,rfl⟩
  have hb:isD b=true:=YA z.natAbs b (by rw[show dg z.natAbs=il z by simp[il,hz],e];simp);have hb2:=ZW.1 hb;have hb3:¬(b.toNat:Int)=45:=by omega
  have hb4:¬b.toNat=45:=by omega
  have hix:aindex prog 38 (.v (.string (bs (il z)))) 0=some (.v (.int .u8 (b.toNat:Int))):=by rw[YZ,if_pos (by omega),e];rfl
  simp[-Qa,-Qb,zs,str,Num.QB,show 0<(il z).length by omega,hix,hb3,show ¬(100:Int)<((il z).length:Int) by omega];exact .dat _ 9 rfl
theorem qaJ(q:Rat)(h:szq q≤100):Qg prog 89 [rs q] (.v (.int .i64 0)):=by refine Qg.body func89 ntmps89 ?_;have hq:Lq q:=(YW q).2 (by omega);unfold szq at h;simp;refine Qc.pv (KH q hq) (by simp[Qn]) rfl ?_;simp;refine Qc.pv (qpb q hq) (by simp[Qn]) (by simp[Qj]) ?_;simp;refine Qc.pv (qo6 q hq) (by simp[Qn]) (by simp[Qj]) ?_;simp;refine Qc.pv (qcN q.num (by omega)) (by simp[Qj]) rfl ?_;simp;refine Qc.pv (qcN (q.den:Nat) (by rw[Int.natAbs_natCast];omega)) (by simp[Qj]) rfl ?_;simp;exact .dat _ 9 rfl
theorem qeg(l:List Rat)(h:∀q∈l,szq q≤100)(hl:l.length≤1000000):Qg prog 88 [.ro (ql l)] (.v (.int .i64 0)):=by
 refine Qg.body func88 ntmps88 ?_;simp;refine Qp.of (fun(i:Nat) st=>i≤l.length∧∃env,st=⟨18,env,QQ,0⟩∧env 6=.ro (ql l)∧env 7=.v (.int .i64 (l.length:Nat))∧env 8=.v (.int .i64 (i:Nat))) (fun i=>l.length-i) 0
  ⟨by omega,_,rfl,rfl,rfl,rfl⟩ ?_
 rintro i _ ⟨hi,env,rfl,g6,g7,g8⟩;by_cases hiN:i<l.length
 ·simp[g6,g7,g8,hiN];refine Qc.pv (qaJ l[i] (h _ (List.getElem_mem _))) (by simp[Qn]) rfl ?_;simp[g6,g7,g8,QH (show i+1<9223372036854775808 by omega)];exact⟨i+1,⟨by omega,rfl⟩,by omega⟩
 ·simp[g6,g7,g8,hiN];exact .dat _ 9 rfl
def Ln(c:List Rat)(k:Rat):Prop:=c.length≤32∧(∀q∈c,szq q≤100)∧szq k≤100
theorem qiK(c:List Rat)(x:Rat)(h:Ln c x):Qg prog 58 [ln c x] (.v (.int .i64 0)):=by refine Qg.body func58 ntmps58 ?_;obtain⟨h1,h2,h3⟩:=h;simp[show ¬(32:Int)<(c.length:Int) by omega];refine Qc.pv (qeg c h2 (by omega)) (by simp[ql,Qn]) rfl ?_;simp;refine Qc.pv (qaJ x h3) (by simp[Qn]) rfl ?_;simp;exact .dat _ 9 rfl
end
section
attribute [local simp] Qq Qh Qk Qr QR QU QO Q4 QX QP QK Zd
theorem V8(l:List UInt8)(i:Int):aindex prog 23 (.v (.string (bs l))) i=if 0≤i∧i<l.length then some (.v (.int .u8 ((l.getD i.toNat 0).toNat:Int)))else none :=
 (show aindex prog 23 (.v (.string (bs l))) i=aindex prog 9 (.v (.string (bs l))) i by kernel_rfl).trans (Yh l i)
theorem W8(z:Int):∃b l,il z=b::l∧((b.toNat:Int)=45↔z<0)∧(z<0→b=45∧l=dg z.natAbs):=by
 by_cases h:z<0
 ·exact⟨45,dg z.natAbs,by simp[il,h],by simp[h],fun _=>⟨rfl,rfl⟩⟩
 ·cases e:dg z.natAbs with
  | nil=>exact absurd e (qod _)
  | cons b l =>have hb:=ZW.1 (YA z.natAbs b (by rw[e];simp));exact⟨b,l,by simp[il,h,e],by constructor<;>intro hh<;>omega,fun hh=>absurd hh h⟩
theorem qbM(q:Rat):∃b l,rt q=b::l∧((b.toNat:Int)=45↔q.num<0)∧(q.num<0→b=45∧l=rt (-q)):=by
 obtain⟨b,l,e,h1,h2⟩:=W8 q.num;have en:q.num<0→il (-q).num=dg q.num.natAbs:=fun h=>by rw[Rat.neg_num,il,if_neg (by omega),Int.natAbs_neg]
 by_cases hd:q.den=1
 ·exact⟨b,l,by rw[rt,if_pos hd,e],h1,fun h=>⟨(h2 h).1,by rw[rt,Rat.neg_den,if_pos hd,en h,(h2 h).2]⟩⟩
 ·exact⟨b,l++47::dg q.den,by rw[rt,if_neg hd,e];rfl,h1,fun h=>⟨(h2 h).1,by rw[rt,Rat.neg_den,if_neg hd,en h,(h2 h).2]⟩⟩
theorem qrD(q:Rat):∃b:Nat,aindex prog 23 (.v (.string (bs (rt q)))) 0=some (.v (.int .u8 (b:Int)))∧((b:Int)=45↔q.num<0):=by obtain⟨b,l,e,h1,h2⟩:=qbM q;exact⟨b.toNat,by rw[V8,e,if_pos (by simp)];rfl,h1⟩
theorem ZZ(q:Rat):Qg prog 99 [rs q] (.v (.bool (decide (q.num<0)))):=by
 refine Qg.body func99 ntmps99 ?_;obtain⟨b,h1,h2⟩:=qrD q;simp[rs,str,h1];have:decide ((b:Int)=45)=decide (q.num<0):=by simp[h2]
 rw[this];exact .dat _ 9 rfl
theorem qer{q:Rat}:rt q=[48]↔q=0:=by
 constructor
 ·intro h;have h2:=VU q;rw[h,show Lib.indexByte [48] 47 = -1 from rfl]at h2;by_cases hd:q.den=1
  ·rw[rt,if_pos hd]at h;have:il q.num=il 0:=by rw[h,il,if_neg (by decide),show(0:Int).natAbs=0 from rfl,QN (by omega)];rfl
   exact Rat.num_eq_zero.1 (K7 this)
  ·rw[if_neg hd]at h2;omega
 ·rintro rfl;rw[rt,if_pos (show Rat.den 0=1 from rfl),show(0:Rat).num=0 from rfl,il,if_neg (by decide),show(0:Int).natAbs=0 from rfl,QN (by omega)];rfl
theorem qnk{p q:Rat}(h:rt p=rt q):p=q:=by
 have h1:=VU p;rw[h,VU q]at h1;by_cases hp:p.den=1
 ·have hq:q.den=1:=by
   rcases Decidable.em (q.den=1)with hq|hq
   ·exact hq
   ·rw[if_pos hp,if_neg hq]at h1;omega
  rw[rt,rt,if_pos hp,if_pos hq]at h;exact Rat.ext (K7 h) (hp.trans hq.symm)
 ·have hq:¬q.den=1:=fun hq=>by rw[if_neg hp,if_pos hq]at h1;omega
  rw[if_neg hp,if_neg hq]at h1;rw[rt,rt,if_neg hp,if_neg hq]at h;obtain⟨e1,e2⟩:=List.append_inj h (by omega);injection e2 with _ e2;exact Rat.ext (K7 e1) (qia e2)
theorem Jr(q:Rat):(bs (rt q)={ data:=#[48] })=(q=0):=propext ⟨fun h=>qer.1 ((Z8 (b:=[48])).1 h),fun h=>(Z8 (b:=[48])).2 (qer.2 h)⟩
theorem qjs{q:Rat}:rt q=[49]↔q=1:=by
 have:rt 1=[49]:=by rw[rt,if_pos (show Rat.den 1=1 from rfl),show(1:Rat).num=1 from rfl,il,if_neg (by decide),show(1:Int).natAbs=1 from rfl,QN (by omega)];rfl
 exact⟨fun h=>qnk (h.trans this.symm),fun h=>by rw[h,this]⟩
theorem qc8(q:Rat):(bs (rt q)={ data:=#[49] })=(q=1):=propext ⟨fun h=>qjs.1 ((Z8 (b:=[49])).1 h),fun h=>(Z8 (b:=[49])).2 (qjs.2 h)⟩
theorem qsP(p q:Rat):(bs (rt p)=bs (rt q))=(p=q):=propext ⟨fun h=>qnk (Z8.1 h),fun h=>by rw[h]⟩
theorem ZL{q:Rat}:q.num<0↔q<0:=by
 have h:=Rat.num_nonneg (q:=q);rw[←Rat.not_le];constructor
 ·intro hq h1;have:=h.2 h1;omega
 ·intro hq;rcases Int.lt_or_le q.num 0 with h1|h1
  ·exact h1
  ·exact absurd (h.1 h1) hq
theorem Y8(q:Rat)(hq:Lq q):Qg prog 63 [rs q] (rs (-q)):=by
 refine Qg.body func63 ntmps63 ?_;obtain⟨b,l,e,h1,h2⟩:=qbM q;have hix:aindex prog 23 (.v (.string (bs (rt q)))) 0=some (.v (.int .u8 (b.toNat:Int))):=by rw[V8,e,if_pos (by simp)];rfl
 have hlen:=qjr q;simp[rs,str,Jr,hix];by_cases h0:q=0
 ·simp[h0];exact .dat _ 9 rfl
 ·by_cases hn:q.num<0
  ·have hb:=h1.2 hn;have hr:(rt q).drop 1=rt (-q):=by rw[e,(h2 hn).2];rfl
   have hc:(1:Int)≤((rt q).length:Int):=by rw[e,List.length_cons];omega
   simp[h0,hb,Y0,abounds,idx,hr,hc];exact .dat _ 9 rfl
  ·have hb:¬(b.toNat:Int)=45:=fun h=>hn (h1.1 h);have m1:(bs [45]).size+(bs (rt q)).size≤maxLen:=by have:=hq.1;have:=hq.2;unfold Lg at *;rw[QB,QB];simp[maxLen];omega
   have hr:[45]++rt q=rt (-q):=by
    have hq0:q.num≠0:=fun h=>h0 (Rat.num_eq_zero.1 h);have en:il (-q).num=[45]++il q.num:=by rw[Rat.neg_num,il,if_pos (by omega),il,if_neg hn,Int.natAbs_neg];rfl
    by_cases hd:q.den=1
    ·rw[rt,rt,Rat.neg_den,if_pos hd,if_pos hd,en]
    ·rw[rt,rt,Rat.neg_den,if_neg hd,if_neg hd,en];rfl
   have e45:(ByteArray.mk #[45])=bs [45]:=rfl;simp[h0,hb,e45,KM,m1,JG];rw[←List.singleton_append,hr];exact .dat _ 9 rfl
end
section
attribute [local simp] Qq Qh Qk Qr QR QU QO Q4 QX QP QK Zd
def Calc(H:Qf)(id sz:Nat):Prop:=∃ty rest tl fz cap,H.b id=some ⟨ty,sz,(.v (.int .i64 0)::rest)::tl,fz,cap⟩
theorem qog{H:Qf}{N id sz:Nat}(hc:Calc H id sz){f:Nat}{a b c:Rat}(hf:Qg prog f [rs a,rs b] (.tup [rs c,.v (.int .i64 0)])) :
  Qc prog 164 [.ptr id sz 0 0,fn0 f,rs a,rs b] H N fun r H' N'=>r=rs c∧H'=H∧N'=N:=by
 obtain⟨ty,rest,tl,fz,cap,hH⟩:=hc;refine Qc.body func164 ntmps164 ?_;simp[hH,fn0];refine Qc.pv hf (by simp[Qn]) (by simp[Qn]) ?_;simp
theorem rs0:rs 0=.v (.string { data:=#[48] }):=by unfold rs;rw[qer.2 rfl];rfl
theorem rs1:rs 1=.v (.string { data:=#[49] }):=by unfold rs;rw[qjs.2 rfl];rfl
theorem qdN{H:Qf}{N id sz:Nat}(hc:Calc H id sz)(a b:Rat)(h:szq a+szq b+1≤4096) :
  Qc prog 166 [.ptr id sz 0 0,rs a,rs b] H N fun r H' N'=>r=rs (a+b)∧H'=H∧N'=N:=by
 refine Qc.body func166 ntmps166 ?_;by_cases ha:a=0
 ·subst ha;simp[rs,str,Jr,Rat.zero_add]
 ·by_cases hb:b=0
  ·subst hb;simp[rs,str,Jr,ha,Rat.add_zero]
  ·simp[rs,str,Jr,ha,hb];refine(qog hc (qo3 a b h)).mono ?_;rintro r H' N' ⟨rfl,rfl,rfl⟩;simp[rs,str]
theorem qhW{H:Qf}{N id sz:Nat}(hc:Calc H id sz)(a b:Rat)(h:szq a+szq b≤4096) :
  Qc prog 198 [.ptr id sz 0 0,rs a,rs b] H N fun r H' N'=>r=rs (a*b)∧H'=H∧N'=N:=by
 refine Qc.body func198 ntmps198 ?_;have e0:=rs0;have e1:=rs1;simp only[rs,str]at e0 e1;by_cases ha:a=0
 ·subst ha;simp[-Qa,-Qb,rs,str,Jr,Rat.zero_mul,e0]
 ·by_cases hb:b=0
  ·subst hb;simp[-Qa,-Qb,rs,str,Jr,ha,Rat.mul_zero,e0]
  ·by_cases ha1:a=1
   ·subst ha1;simp[-Qa,-Qb,rs,str,Jr,qc8,ha,hb,Rat.one_mul]
   ·by_cases hb1:b=1
    ·subst hb1;simp[-Qa,-Qb,rs,str,Jr,qc8,ha,hb,ha1,Rat.mul_one]
    ·simp[-Qa,-Qb,rs,str,Jr,qc8,ha,hb,ha1,hb1];refine(qog hc (qpa a b h)).mono ?_;rintro r H' N' ⟨rfl,rfl,rfl⟩;simp[rs,str]
theorem qjt(b:Rat):0/b=0:=by rw[Rat.div_def,Rat.zero_mul]
theorem qlT(a:Rat):a/1=a:=by rw[Rat.div_def,show(1:Rat)⁻¹=1 from(Rat.inv_def 1).trans (Rat.divInt_self' (n:=1) (by decide)),Rat.mul_one]
theorem Vb{H:Qf}{N id sz:Nat}(hc:Calc H id sz)(a b:Rat)(h:szq a+szq b≤4096)(hb:b≠0) :
  Qc prog 128 [.ptr id sz 0 0,rs a,rs b] H N fun r H' N'=>r=rs (a/b)∧H'=H∧N'=N:=by
 refine Qc.body func128 ntmps128 ?_;by_cases ha:a=0
 ·subst ha;simp[-Qa,-Qb,rs,str,Jr,qjt]
 ·by_cases hb1:b=1
  ·subst hb1;simp[-Qa,-Qb,rs,str,Jr,qc8,ha,qlT]
  ·simp[-Qa,-Qb,rs,str,Jr,qc8,ha,hb1];refine(qog hc (qo7 a b h hb)).mono ?_;rintro r H' N' ⟨rfl,rfl,rfl⟩;simp[rs,str]
theorem qiL{H:Qf}{N id sz:Nat}(hc:Calc H id sz)(a b:Rat)(h:szq a+szq b+1≤4096) :
  Qc prog 130 [.ptr id sz 0 0,rs a,rs b] H N fun r H' N'=>r=.v (.bool (decide (a<b)))∧H'=H∧N'=N:=by
 refine Qc.body func130 ntmps130 ?_;simp;refine Qc.pv (ZZ a) (by simp[Qn]) rfl ?_;simp;refine Qc.pv (ZZ b) (by simp[Qn]) rfl ?_;have hneg:=ZL (q:=a);have hnegb:=ZL (q:=b);by_cases hs:decide (a.num<0)=decide (b.num<0)
 ·have hb:Lq b:=(YW b).2 (by omega);simp[hs,Vp];refine Qc.pv (Y8 b hb) (by simp[Qn]) (by simp[Qn]) ?_;simp;refine(qdN hc a (-b) (by rw[Kb];exact h)).mono ?_;rintro r H' N' ⟨rfl,rfl,rfl⟩;simp;refine Qc.pv (ZZ (a+-b)) (by simp[Qn]) rfl ?_;simp;rw[ZL];grind
 ·have hne:(decide (a.num<0) !=decide (b.num<0))=true:=by simpa using hs
  simp[hne,Vp];refine Qc.pv (ZZ a) (by simp[Qn]) rfl ?_;simp;have h2:¬((a.num<0)↔(b.num<0)):=by simpa using hs
  rw[hneg,hnegb]at h2;rw[hneg];grind
end
end Go.AX.Run
namespace Go.AX
open Go.RowKit
section
variable{P:Program}
theorem QF.look{f:FuncId}{args:List AV}{st:St}{K:Cls→AV→Qf→Nat→Prop}{u:AV}(id:Nat){sz i off:Nat}(hm:AV.ptr id sz i off∈args)(hid:id<st.N)
  (h:∀H N,H.b id=st.H.b id→Qc P f args H N fun r H' N'=>r=u∧H'=H∧N'=N) (hk:K (.lod [id]) u st.H st.N):QF P f args st K:=by
 refine⟨.lod [id],u,st.H,st.N,hk,rfl,rfl,fun j hj=>by simp only[List.mem_singleton]at hj;subst hj;exact hid,fun H N hs=>?_⟩;by_cases hN:id<N
 ·exact h H N (hs id (by simp) hN)
 ·refine⟨(h st.H st.N rfl).1,fun E B w0 w args' hH hE hl hd=>?_⟩;obtain⟨j,hj⟩:=List.getElem?_of_mem hm;have hdp:=hd j _ hj;generalize hq:args'.getD j undef=q at hdp;cases hdp with
  | ptr _ _ _ _ hlt=>omega
theorem QF.qbx{f:FuncId}{args:List AV}{st:St}{K:Cls→AV→Qf→Nat→Prop}{u:AV}(id:Nat){sz i off:Nat}(hm:AV.ptr id sz i off∈args)(hid:id<st.N)
  (h:∀H N,H.b id=st.H.b id→id<N→Qc P f args H N fun r H' N'=>r=u∧H'=H∧N'=N) (hk:K (.lod [id]) u st.H st.N):QF P f args st K:=by
 refine⟨.lod [id],u,st.H,st.N,hk,rfl,rfl,fun j hj=>by simp only[List.mem_singleton]at hj;subst hj;exact hid,fun H N hs=>?_⟩;by_cases hN:id<N
 ·exact h H N (hs id (by simp) hN) hN
 ·refine⟨(h st.H st.N rfl hid).1,fun E B w0 w args' hH hE hl hd=>?_⟩;obtain⟨j,hj⟩:=List.getElem?_of_mem hm;have hdp:=hd j _ hj;generalize hq:args'.getD j undef=q at hdp;cases hdp with
  | ptr _ _ _ _ hlt=>omega
def Ext(H:Qf)(N:Nat)(H':Qf)(N':Nat):Prop:=N≤N'∧H'.L=H.L∧∀j,j<N→H'.b j=H.b j
theorem Ext.refl(H:Qf)(N:Nat):Ext H N H N:=⟨Nat.le_refl _,rfl,fun _ _=>rfl⟩
theorem Ext.trans{H H1 H2:Qf}{N N1 N2:Nat}(h:Ext H N H1 N1)(k:Ext H1 N1 H2 N2):Ext H N H2 N2 :=
 ⟨Nat.le_trans h.1 k.1,k.2.1.trans h.2.1,fun j hj=>(k.2.2 j (Nat.lt_of_lt_of_le hj h.1)).trans (h.2.2 j hj)⟩
end
end Go.AX
namespace Go.AX.Run
open Go.RowKit Go.Proofs Go.AX Go.Num Tryz
section
attribute [local simp] Qq Qh Qk Qr QR QU QO Q4 QX QP QK Zd alen
theorem VO(l:List Rat)(i:Nat)(q:Rat):(ql l).set i [rs q]=ql (l.set i q):=by simp[ql,List.map_set]
def Yb(x:Rat)(cb c:Nat):List AV:=[rs x,.ref cb 1 0 c none]
def JA(H:Qf)(cb:Nat)(l:List Rat):Prop:=∃cap t,H.b cb=some ⟨23,1,ql l++t,false,cap⟩
theorem ZI(l:List Rat)(t:List (List AV))(i:Nat)(h:i<l.length):(ql l++t)[i]?=some [rs l[i]]:=by rw[List.getElem?_append_left (by rw[QU];exact h),qry l i h]
def W4(l:List Rat)(k:Nat)(bc:List Rat)(j:Nat):List Rat:=(List.range l.length).map fun i=>(if i=k then 0 else l.getD i 0)+(if i<j then l.getD k 0*bc.getD i 0 else 0)
theorem VZ(l:List Rat)(k:Nat)(bc:List Rat)(j:Nat):(W4 l k bc j).length=l.length:=by simp[W4]
theorem qjI(l:List Rat)(k:Nat)(bc:List Rat):W4 l k bc 0=l.set k 0:=by
 apply List.ext_getElem
 ·simp[W4]
 ·intro i h1 h2;simp only[W4,List.length_map,List.length_range]at h1;simp[W4,List.getElem_set,Rat.add_zero,h1];by_cases hk:i=k
  ·simp[hk]
  ·simp[hk,show ¬k=i from fun e=>hk e.symm]
theorem qjH(l:List Rat)(k:Nat)(bc:List Rat)(j:Nat)(hj:j<l.length):W4 l k bc (j+1)=(W4 l k bc j).set j ((W4 l k bc j).getD j 0+l.getD k 0*bc.getD j 0):=by
 apply List.ext_getElem
 ·simp[W4]
 ·intro i h1 h2;simp only[W4,List.length_map,List.length_range]at h1;simp only[W4,List.getElem_set,List.getElem_map,List.getElem_range,List.getD_eq_getElem?_getD,List.getElem?_map,List.getElem?_range,hj];by_cases hi:j=i
  ·subst hi;simp[hj,Rat.add_zero]
  ·simp[hi,show(i<j+1)=(i<j) by simp;omega]
theorem qo1(l:List Rat)(i:Nat):(ql l).set i [.v (.string { data:=#[48] })]=ql (l.set i 0):=by rw[←rs0,VO]
theorem qif(q:Rat):abinop prog .eql 23 (rs q) (.v (.string { data:=#[48] }))=some (.v (.bool (decide (q=0)))):=by unfold rs str;rw[qa4];congr 3;simp[Jr]
theorem Kz(q:Rat):abinop prog .neq 23 (rs q) (.v (.string { data:=#[48] }))=some (.v (.bool (!decide (q=0)))):=by unfold rs str;rw[qeS];congr 3;simp[Jr]
theorem qle(p q:Rat):abinop prog .eql 23 (rs p) (rs q)=some (.v (.bool (decide (p=q)))):=by unfold rs str;rw[qa4];congr 3;simp[qsP]
attribute [local simp] qif Kz qle
theorem qsT:szq 0=1:=by unfold szq;rw[show(0:Rat).num.natAbs=0 from rfl,show(0:Rat).den=1 from rfl,Zo (by omega),Zo (by omega)];rfl
theorem qsU:szq 1=1:=by unfold szq;rw[show(1:Rat).num.natAbs=1 from rfl,show(1:Rat).den=1 from rfl,Zo (by omega)];rfl
theorem qfI{H:Qf}{N tid tsz rb i cb bb:Nat}{es:List (List AV)}{cap:Option Nat}{x bx:Rat}{l bc:List Rat}(k:Nat)(hc:Calc H tid tsz)(hrb:H.b rb=some ⟨121,2,es,false,cap⟩)(hes:es[i]?=some (Yb x cb l.length))(hcb:JA H cb l)(hbb:JA H bb bc)
  (hlen:bc.length=l.length) (hk:k<l.length) (hl:l.length≤1000) (d1:tid≠rb) (d2:tid≠cb) (d3:rb≠cb) (d4:bb≠rb) (d5:bb≠cb) (n1:tid<N) (n2:rb<N) (n3:cb<N) (n4:bb<N)
  (s1:szq x≤1510) (s2:∀q∈l,szq q≤1510) (s3:szq bx≤1000) (s4:∀q∈bc,szq q≤1000) :
  Qc prog 163 [.ptr tid tsz 0 0,.ptr rb 2 i 0,.v (.int .i64 (k:Nat)),.agg (Yb bx bb bc.length)] H N fun r H' N'=>∃cap2 t2,Ext ((H.set rb ⟨121,2,es.set i (Yb (x+l.getD k 0*bx) cb l.length),false,cap⟩).set cb ⟨23,1,ql (W4 l k bc l.length)++t2,false,cap2⟩) N H' N':=by
 obtain⟨cap2,t2,hcb⟩:=hcb;obtain⟨cap3,t3,hbb⟩:=hbb;refine Qc.body func163 ntmps163 ?_;have m1:¬tid=N:=by omega
 have m2:¬rb=N:=by omega
 have m3:¬cb=N:=by omega
 have m4:¬bb=N:=by omega
 have m1':¬N=tid:=by omega
 have m2':¬N=rb:=by omega
 have m3':¬N=cb:=by omega
 have m4':¬N=bb:=by omega
 have d1':=Ne.symm d1;have d2':=Ne.symm d2;have d3':=Ne.symm d3;have d4':=Ne.symm d4;have d5':=Ne.symm d5;replace hes:es[i]?=some [rs x,.ref cb 1 0 l.length none]:=hes;have hei:i<es.length:=(List.getElem?_eq_some_iff.1 hes).1;have heg:es[i]=[rs x,.ref cb 1 0 l.length none]:=(List.getElem?_eq_some_iff.1 hes).2;have ha:l.getD k 0=l[k]:=by rw[List.getD_eq_getElem?_getD,List.getElem?_eq_getElem hk];rfl
 simp[Yb,hrb,hcb,m2,m3,hes,hk,ZI];by_cases h0:l[k]=0
 ·simp[h0];refine⟨cap2,t2,?_⟩;have e1:es.set i [rs (x+0),.ref cb 1 0 l.length none]=es:=by
   rw[Rat.add_zero];apply List.ext_getElem?;intro j;rw[List.getElem?_set];split
   ·rename_i e;subst e;simp[hei,heg]
   ·rfl
  have e2:W4 l k bc l.length=l:=by
   apply List.ext_getElem
   ·simp[W4]
   ·intro j h1 h2;simp only[W4,List.length_map,List.length_range]at h1;simp only[W4,List.getElem_map,List.getElem_range,ha,h0,Rat.zero_mul];by_cases hj:j=k
    ·subst hj;simp[h0,Rat.add_zero]
    ·simp[hj,h1,Rat.add_zero]
  rw[e1,e2,Xf hrb,Xf hcb];exact⟨by omega,rfl,fun j hj=>by simp[show ¬j=N by omega]⟩
 ·simp[h0,qo1];refine Qm.walk (fun _=>false) mixed ?_;simp[Q0,hrb,m2,m3',d3,hes,show rb<N+1 by omega,show N<N+1 by omega];have hcal:∀H1:Qf,H1.b tid=H.b tid→Calc H1 tid tsz:=fun H1 e=>by obtain⟨ty,rest,tl,fz,cap,hH⟩:=hc;exact⟨ty,rest,tl,fz,cap,e.trans hH⟩
  refine QF.look tid (sz:=tsz) (i:=0) (off:=0) (u:=rs (l[k]*bx)) ?_ ?_ (fun H1 N1 e=>qhW (hcal H1 (e.trans ?_)) _ _ ?_) ?_
  ·simp
  ·show tid<N+1;omega
  ·simp[m1,d2]
  ·have:=s2 l[k] (List.getElem_mem _);omega
  simp;refine QF.look tid (sz:=tsz) (i:=0) (off:=0) (u:=rs (x+l[k]*bx)) ?_ ?_ (fun H1 N1 e=>qdN (hcal H1 (e.trans ?_)) _ _ ?_) ?_
  ·simp
  ·show tid<N+1;omega
  ·simp[m1,d2]
  ·have h1:=s2 l[k] (List.getElem_mem _);have h2:=qey l[k] bx;omega
  simp[Q0,hrb,m2,m2',m3',d3,hei];refine⟨Zg.ofM (by kernel_rfl),?_⟩;refine Qp.of (fun(j:Nat) st=>j≤l.length∧∃env G,st=⟨68,env,G,N+1⟩∧env 0=.ptr tid tsz 0 0∧env 1=.ptr rb 2 i 0∧env 8=rs l[k]∧env 41=.ref bb 1 0 bc.length none∧env 42=.v (.int .i64 (bc.length:Nat))∧env 43=.v (.int .i64 (j:Nat)) ∧
    G.b cb=some ⟨23,1,ql (W4 l k bc j)++t2,false,cap2⟩∧G.b rb=some ⟨121,2,es.set i [rs (x+l[k]*bx),.ref cb 1 0 l.length none],false,cap⟩∧(∀q,q≠cb→q≠rb→q≠N→G.b q=H.b q)∧G.L=H.L) (fun j=>l.length-j) 0
   ⟨by omega,_,_,rfl,by simp,by simp,by simp,by simp,by simp,by simp,by simp[qjI,d3'],by simp[heg],fun q q1 q2 q3=>by simp[q1,q2,q3],rfl⟩ ?_
  rintro j _ ⟨hj,env,G,rfl,g0,g1,g8,g41,g42,g43,hGc,hGr,hGo,hGL⟩;by_cases hjN:j<l.length
  ·have hjb:j<bc.length:=by omega
   have hGb:=(hGo bb d5 d4 m4).trans hbb;have hGt:G.b tid=H.b tid:=hGo tid d2 d1 m1;have hsl:j<(W4 l k bc j).length:=by rw[VZ];exact hjN
   have hcur:(W4 l k bc j)[j]=if j=k then 0 else l[j]:=by simp[W4,hjN,Rat.add_zero]
   have hcz:szq (W4 l k bc j)[j]≤1510:=by
    rw[hcur];split
    ·rw[qsT];omega
    ·exact s2 _ (List.getElem_mem _)
   have hbz:=s4 bc[j] (List.getElem_mem _);have hlz:=s2 l[k] (List.getElem_mem _);have hmz:=qey l[k] bc[j];have hss:=qjH l k bc j hjN;rw[List.getD_eq_getElem?_getD,List.getElem?_eq_getElem hsl,List.getD_eq_getElem?_getD,List.getElem?_eq_getElem hk,List.getD_eq_getElem?_getD,List.getElem?_eq_getElem hjb]at hss;simp only[Option.getD_some]at hss;have hei2:i<(es.set i [rs (x+l[k]*bx),.ref cb 1 0 l.length none]).length:=by rw[List.length_set];exact hei
   simp[g41,g42,g43,hjb,hGb,ZI];refine Qm.walk (fun _=>false) mixed ?_;simp[Q0,g0,g1,g8,hjN,hGr,hGc,hei,show rb<N+1 by omega,show cb<N+1 by omega,VZ,ZI];refine QF.look tid (sz:=tsz) (i:=0) (off:=0) (u:=rs (l[k]*bc[j])) ?_ ?_ (fun H1 N1 e=>qhW (hcal H1 (e.trans ?_)) _ _ ?_) ?_
   ·simp
   ·show tid<N+1;omega
   ·exact hGt
   ·omega
   simp;refine QF.look tid (sz:=tsz) (i:=0) (off:=0) (u:=rs ((W4 l k bc j)[j]+l[k]*bc[j])) ?_ ?_ (fun H1 N1 e=>qdN (hcal H1 (e.trans ?_)) _ _ ?_) ?_
   ·simp
   ·show tid<N+1;omega
   ·exact hGt
   ·omega
   simp[Q0,hGc,hjN,VZ,ZI,VO,g43,QH (show j+1<9223372036854775808 by omega)];refine⟨Zg.ofM (by kernel_rfl),?_⟩;refine⟨j+1,⟨by omega,_,_,⟨rfl,rfl⟩,by simp[g0],by simp[g1],by simp[g8],by simp[g41],by simp[g42],by simp,by simp[hss],by simp[d3,hGr],fun q q1 q2 q3=>by simp[q1,hGo q q1 q2 q3],hGL⟩,by omega⟩
  ·have hjE:j=l.length:=by omega
   subst hjE;simp[g41,g42,g43,hlen];refine⟨cap2,t2,by omega,hGL,fun q hq=>?_⟩;by_cases e1:q=cb
   ·subst e1;simp[hGc]
   ·by_cases e2:q=rb
    ·subst e2;simp[hGr,e1]
    ·simp[e1,e2,hGo q e1 e2 (by omega)]
end
section
attribute [local simp] Qq Qh Qk Qr QR QU QO Q4 QX QP QK Zd alen
structure Fct where
 op:Int
 coef:List Int
 const:Int
def fcL(f:Fct):List AV:=[.v (.int .i64 f.op),.ro (zl f.coef),zs f.const,zs 0]
def fl(F:List Fct):List (List AV):=F.map fcL
theorem Ji(F:List Fct):(fl F).length=F.length:=by simp[fl]
theorem qaF(F:List Fct)(i:Nat)(h:i<F.length):(fl F)[i]?=some (fcL F[i]):=by simp[fl,h]
def Z5(n:Nat)(F:List Fct)(a3 a4 a5 a6:AV):Blk:=⟨98,7,[[.v (.int .i64 0),.v (.int .i64 (n:Nat)),.ro (fl F),a3,a4,a5,a6]],false,some 1⟩
theorem Ju{H:Qf}{tid n:Nat}{F:List Fct}{a3 a4 a5 a6:AV}(h:H.b tid=some (Z5 n F a3 a4 a5 a6)):Calc H tid 7:=⟨_,_,_,_,_,h⟩
theorem Jw{H:Qf}{N tid n:Nat}{F:List Fct}{a3 a4 a5 a6:AV}(h:H.b tid=some (Z5 n F a3 a4 a5 a6))(v:Nat) :
  Qc prog 96 [.ptr tid 7 0 0,.v (.int .i64 (v:Nat))] H N fun r H' N'=>r=.v (.bool (decide (v<n)))∧H'=H∧N'=N:=by
 refine Qc.body func96 ntmps96 ?_;simp[h,Z5]
theorem Yt{H:Qf}{N tid n:Nat}{F:List Fct}{a3 a4 a5 a6:AV}(h:H.b tid=some (Z5 n F a3 a4 a5 a6))(hN:tid<N)(hn:n≤1000000)(hF:F.length≤1000000) :
  Qc prog 131 [.ptr tid 7 0 0] H N fun r H' N'=>r=.v (.int .i64 ((n+F.length:Nat):Int))∧H'=H∧N'=N:=by
 refine Qc.body func131 ntmps131 ?_;unfold Z5 at h;simp;refine Qm.walk (fun _=>false) mixed ?_;simp[-Int.natCast_add,Q0,h,hN,Ji,wadd (show n+F.length<9223372036854775808 by omega)];exact⟨Zg.ofM (by kernel_rfl),by omega⟩
def QY(n:Nat)(F:List Fct)(v:Nat):Bool:=decide (n≤v)&&(match F[v-n]? with|some f=>decide (f.op=1)|none=>false)
def Qi(n:Nat)(F:List Fct)(v:Nat):Bool:=decide (n≤v)&&!QY n F v
theorem qbo{H:Qf}{N tid n:Nat}{F:List Fct}{a3 a4 a5 a6:AV}(h:H.b tid=some (Z5 n F a3 a4 a5 a6))(hN:tid<N)(hn:n≤1000000)(hF:F.length≤1000000)(v:Nat)(hv:v≤10000000) :
  Qc prog 123 [.ptr tid 7 0 0,.v (.int .i64 (v:Nat))] H N fun r H' N'=>r=.v (.bool (QY n F v))∧H'=H∧N'=N:=by
 refine Qc.body func123 ntmps123 ?_;have h':=h;unfold Z5 at h';simp[-Qa,-Qb];refine Qm.walk (fun _=>false) mixed ?_;simp[-Qa,-Qb];refine QF.look tid (sz:=7) (i:=0) (off:=0) (u:=.v (.bool (decide (v<n)))) ?_ ?_ (fun H1 N1 e=>Jw (e.trans h) v) ?_
 ·simp
 ·exact hN
 have w1:IntKind.i64.wrap ((n:Int)+(F.length:Int))=((n+F.length:Nat):Int):=wadd (by omega);by_cases hvn:v<n
 ·have e:QY n F v=false:=by simp[QY,show ¬n≤v by omega]
  simp[-Qa,-Qb,hvn,undef,e];exact Zg.ofM (by kernel_rfl)
 ·by_cases hvF:v<n+F.length
  ·have w2:IntKind.i64.wrap ((v:Int)-(n:Int))=((v-n:Nat):Int):=by rw[Ql (by omega) (by omega)];omega
   have hi:v-n<F.length:=by omega
   have e:QY n F v=decide (F[v-n].op=1):=by simp[QY,show n≤v by omega,hi]
   simp[-Int.natCast_add,Q0,-Qa,-Qb,hvn,undef,h',hN,Ji,w1,hvF,w2,qaF F _ hi,fcL,e];exact Zg.ofM (by kernel_rfl)
  ·have e:QY n F v=false:=by simp[QY,List.getElem?_eq_none (show F.length≤v-n by omega)]
   simp[-Int.natCast_add,Q0,-Qa,-Qb,hvn,undef,h',hN,Ji,w1,hvF,e];exact Zg.ofM (by kernel_rfl)
theorem JF{H:Qf}{N tid n:Nat}{F:List Fct}{a3 a4 a5 a6:AV}(h:H.b tid=some (Z5 n F a3 a4 a5 a6))(hN:tid<N)(hn:n≤1000000)(hF:F.length≤1000000)(v:Nat)(hv:v≤10000000) :
  Qc prog 129 [.ptr tid 7 0 0,.v (.int .i64 (v:Nat))] H N fun r H' N'=>r=.v (.bool (Qi n F v))∧H'=H∧N'=N:=by
 refine Qc.body func129 ntmps129 ?_;simp[-Qa,-Qb];refine(Jw h v).mono ?_;rintro r H' N' ⟨rfl,rfl,rfl⟩;by_cases hvn:v<n
 ·have e:Qi n F v=false:=by simp[Qi,show ¬n≤v by omega]
  simp[-Qa,-Qb,hvn,undef,e]
 ·simp[-Qa,-Qb,hvn];refine(qbo h hN hn hF v hv).mono ?_;rintro r H' N' ⟨rfl,rfl,rfl⟩;have e:Qi n F v=!QY n F v:=by simp[Qi,show n≤v by omega]
  simp[-Qa,-Qb,e]
end
section
attribute [local simp] Qq Qh Qk Qr QR alen
theorem qnw(z:Int):∃b:Nat,aindex prog 38 (.v (.string (bs (il z)))) 0=some (.v (.int .u8 (b:Int)))∧((b:Int)=45↔z<0):=by obtain⟨b,l,e,h1,h2⟩:=W8 z;exact⟨b.toNat,by rw[YZ,e,if_pos (by simp)];rfl,h1⟩
theorem il0:il 0=[48]:=by rw[il,if_neg (by decide),show(0:Int).natAbs=0 from rfl,QN (by omega)];rfl
theorem il1:il 1=[49]:=by rw[il,if_neg (by decide),show(1:Int).natAbs=1 from rfl,QN (by omega)];rfl
theorem KK(z:Int):(bs (il z)={ data:=#[48] })=(z=0):=propext ⟨fun h=>K7 (((Z8 (b:=[48])).1 h).trans il0.symm),fun h=>by rw[h,il0];rfl⟩
theorem qr2(z:Int):(bs (il z)={ data:=#[49] })=(z=1):=propext ⟨fun h=>K7 (((Z8 (b:=[49])).1 h).trans il1.symm),fun h=>by rw[h,il1];rfl⟩
theorem Yv(z:Int):Qg prog 54 [zs z] (.v (.bool (decide (z<0)))):=by
 refine Qg.body func54 ntmps54 ?_;obtain⟨b,h1,h2⟩:=qnw z;simp[zs,str,h1];have:decide ((b:Int)=45)=decide (z<0):=by simp[h2]
 rw[this];exact .dat _ 9 rfl
theorem Zk(z:Int)(hz:nd z.natAbs≤1000000000):Qg prog 49 [zs z] (.v (.int .i64 (nd z.natAbs:Nat))):=by
 refine Qg.body func49 ntmps49 ?_;have hl:=Z3 z;simp;refine Qc.pu (Yv z) ?_;by_cases h:z<0
 ·rw[if_pos h]at hl;have w:IntKind.i64.wrap (((il z).length:Int)-1)=((nd z.natAbs:Nat):Int):=by rw[Ql (by omega) (by omega)];omega
  simp[h,zs,str,Num.QB,w];exact .dat _ 9 rfl
 ·rw[if_neg h]at hl;simp[h,zs,str,Num.QB,hl];exact .dat _ 9 rfl
theorem X8(z:Int):Qg prog 44 [zs z] (.v (.int .i64 z.sign)):=by
 refine Qg.body func44 ntmps44 ?_;by_cases h0:z=0
 ·simp[zs,str,KK,h0];exact .dat _ 9 rfl
 ·simp[zs,str,KK,h0];refine Qc.pu (Yv z) ?_;by_cases h:z<0
  ·rw[Int.sign_eq_neg_one_of_neg h];simp[h];exact .dat _ 9 rfl
  ·rw[Int.sign_eq_one_of_pos (by omega)];simp[h];exact .dat _ 9 rfl
theorem Y4(z:Int)(k:Nat)(hz:nd z.natAbs≤1000000000):Qg prog 80 [zs z,.v (.int .i64 (k:Nat))] (.v (.bool (decide (nd z.natAbs≤k)))):=by refine Qg.body func80 ntmps80 ?_;simp;refine Qc.pu (Zk z hz) ?_;simp;exact .dat _ 9 rfl
theorem qiC{z:Int}(h:z<0):(il z).drop 1=il (-z):=by rw[il,if_pos h,il,if_neg (by omega),Int.natAbs_neg];rfl
theorem qov{z:Int}(h:0<z):il (-z)=[45]++il z:=by rw[il,if_pos (by omega),il,if_neg (by omega),Int.natAbs_neg];rfl
theorem qat(l:List UInt8)(lo hi:Option AV):aslice prog 38 (.v (.string (bs l))) lo hi=match abounds l.length lo hi with|some (l',h)=>some (.v (.string (bs ((l.take h).drop l'))))|none=>none :=
 (show aslice prog 38 (.v (.string (bs l))) lo hi=aslice prog 23 (.v (.string (bs l))) lo hi by kernel_rfl).trans (Y0 l lo hi)
theorem qa1(l:List UInt8)(lo hi:Option AV):aslice prog 9 (.v (.string (bs l))) lo hi=match abounds l.length lo hi with|some (l',h)=>some (.v (.string (bs ((l.take h).drop l'))))|none=>none :=
 (show aslice prog 9 (.v (.string (bs l))) lo hi=aslice prog 23 (.v (.string (bs l))) lo hi by kernel_rfl).trans (Y0 l lo hi)
theorem qiX(z:Int)(hz:nd z.natAbs≤1000000000):Qg prog 45 [zs z] (zs (-z)):=by
 refine Qg.body func45 ntmps45 ?_;have hl:=Z3 z;by_cases h0:z=0
 ·simp[zs,str,KK,h0];exact .dat _ 9 rfl
 ·simp[zs,str,KK,h0];refine Qc.pu (Yv z) ?_;by_cases h:z<0
  ·have hc:(1:Int)≤((il z).length:Int):=by rw[hl,if_pos h];omega
   simp[h,qat,abounds,idx,hc,-List.drop_one];rw[qiC h];exact .dat _ 9 rfl
  ·have m1:(bs [45]).size+(bs (il z)).size≤maxLen:=by rw[QB,QB,hl,if_neg h];simp[maxLen];omega
   have e45:(ByteArray.mk #[45])=bs [45]:=rfl;simp[h,e45,KM,m1,JG];rw[←List.singleton_append,←qov (by omega)];exact .dat _ 9 rfl
theorem qfi(z:Int)(hz:nd z.natAbs≤1000000000):Qg prog 78 [zs z] (zs (z.natAbs:Nat)):=by
 refine Qg.body func78 ntmps78 ?_;have hl:=Z3 z;simp;refine Qc.pu (Yv z) ?_;by_cases h:z<0
 ·have hc:(1:Int)≤((il z).length:Int):=by rw[hl,if_pos h];omega
  simp[h,zs,str,qat,abounds,idx,hc,-List.drop_one];rw[qiC h,show((z.natAbs:Nat):Int) = -z by omega];exact .dat _ 9 rfl
 ·simp[h];rw[show((z.natAbs:Nat):Int)=z by omega];exact .dat _ 9 rfl
def qkp(l:List UInt8):Nat:=Num.val (l.filter fun b=>decide (b≠45))
theorem qj0(z:Int):qkp (il z)=z.natAbs:=by
 have h:∀n,(dg n).filter (fun b=>decide (b≠45))=dg n:=fun n=>List.filter_eq_self.2 fun b hb=>by have:=ZW.1 (YA n b hb);simp only[ne_eq,decide_eq_true_eq];rintro rfl;simp at this
 unfold qkp il;split
 ·rw[List.filter_cons_of_neg (by decide),h,Kk]
 ·rw[h,Kk]
theorem qj1(l:List UInt8)(b:UInt8):qkp (l++[b])=if b=45 then qkp l else qkp l*10+(b.toNat-48):=by
 unfold qkp;rw[List.filter_append];by_cases h:b=45
 ·simp[h]
 ·rw[if_neg h,List.filter_cons_of_pos (by simpa using h),List.filter_nil,Kf]
theorem qiB(z:Int)(i:Nat)(h:i<(il z).length):(il z)[i]=45∨isD (il z)[i]=true:=by
 have hm:=List.getElem_mem h;generalize (il z)[i]=b at hm⊢;unfold il at hm;split at hm
 ·rcases List.mem_cons.1 hm with h|h
  ·exact .inl h
  ·exact .inr (YA _ b h)
 ·exact .inr (YA _ b hm)
theorem qeD(z:Int)(i:Nat)(h:nd z.natAbs≤18):qkp ((il z).take i)<1000000000000000000:=by
 have h1:∀b∈((il z).take i).filter (fun b=>decide (b≠45)),isD b=true:=fun b hb=>by
  obtain⟨h2,h3⟩:=List.mem_filter.1 hb;obtain⟨j,hj,rfl⟩:=List.getElem_of_mem (List.mem_of_mem_take h2);rcases qiB z j hj with h|h
  ·simp[h]at h3
  ·exact h
 have h2:=qfN _ h1;have h3:(((il z).take i).filter (fun b=>decide (b≠45))).length≤18:=by
  have e:((il z).filter (fun b=>decide (b≠45))).length=nd z.natAbs:=by
   have h:∀n,(dg n).filter (fun b=>decide (b≠45))=dg n:=fun n=>List.filter_eq_self.2 fun b hb=>by have:=ZW.1 (YA n b hb);simp only[ne_eq,decide_eq_true_eq];rintro rfl;simp at this
   unfold il;split
   ·rw[List.filter_cons_of_neg (by decide),h];rfl
   ·rw[h];rfl
  have:=((List.take_sublist i (il z)).filter (fun b=>decide (b≠45))).length_le;omega
 exact Nat.lt_of_lt_of_le h2 (Nat.pow_le_pow_right (n:=10) (by omega) h3)
theorem Xp(z:Int)(i:Nat)(h:i<(il z).length):aindex prog 38 (.v (.string (bs (il z)))) (i:Int)=some (.v (.int .u8 ((il z)[i].toNat:Int))):=by rw[YZ,if_pos (by omega)];simp[h]
theorem YH(z:Int)(hz:nd z.natAbs≤18):Qg prog 50 [zs z] (.v (.int .i64 z)):=by
 refine Qg.body func50 ntmps50 ?_;have hl:=Z3 z;have hl2:(il z).length≤19:=by rw[hl];split<;>omega
 simp;refine Qp.of (fun(i:Nat) st=>i≤(il z).length∧∃env,st=⟨28,env,QQ,0⟩∧env 0=zs z∧env 3=.v (.int .i64 (qkp ((il z).take i):Nat))∧env 4=.v (.int .i64 (i:Nat))) (fun i=>(il z).length-i) 0
  ⟨by omega,_,rfl,rfl,rfl,rfl⟩ ?_
 rintro i _ ⟨hi,env,rfl,g0,g3,g4⟩;have w1:IntKind.i64.wrap ((i:Int)+1)=((i+1:Nat):Int):=by rw[Ql (by omega) (by omega)];omega
 by_cases hiN:i<(il z).length
 ·have e0:(il z).take (i+1)=(il z).take i++[(il z)[i]]:=by rw[List.take_add_one];simp[hiN]
  have hix:=Xp z i hiN;have hby:=qiB z i hiN;have hst:=qj1 ((il z).take i) (il z)[i];rw[←e0]at hst;have hv:=qeD z i hz;have hv2:=qeD z (i+1) hz;generalize hx:qkp ((il z).take i)=x at *;generalize hy:qkp ((il z).take (i+1))=y at *;generalize hb:(il z)[i]=b at *;rcases hby with h45|hd
  ·subst h45;rw[if_pos rfl]at hst;subst hst;simp[-Int.natCast_add,g0,g3,g4,hiN,hix,w1,zs,str,Num.QB];exact⟨i+1,⟨by omega,by rw[hy],rfl⟩,by omega⟩
  ·have hd:=ZW.1 hd;have h45:¬b=45:=by rintro rfl;simp at hd
   have hb3:¬(b.toNat:Int)=45:=by omega
   have hb4:¬b.toNat=45:=by omega
   rw[if_neg h45]at hst;generalize hbb:b.toNat=c at *;have w2:IntKind.u8.wrap ((c:Int)-48)=((c-48:Nat):Int):=by rw[wrap_u8 (by omega) (by omega)];omega
   have w3:IntKind.i64.wrap ((c-48:Nat):Int)=((c-48:Nat):Int):=wrapn (by omega);have w4:IntKind.i64.wrap ((x:Int)*10)=((x*10:Nat):Int):=by rw[Ql (by omega) (by omega)];omega
   have w5:IntKind.i64.wrap (((x*10:Nat):Int)+((c-48:Nat):Int))=((x*10+(c-48):Nat):Int):=by rw[Ql (by omega) (by omega)];omega
   simp[-Int.natCast_add,-Int.natCast_mul,g0,g3,g4,hiN,hix,w1,zs,str,Num.QB,hb3,w2,w3,w4,w5,qdW];exact⟨i+1,⟨by omega,by rw[hy,hst],rfl⟩,by omega⟩
 ·have hiE:i=(il z).length:=by omega
  subst hiE;rw[List.take_length,qj0]at g3;have hv:=qeD z (il z).length hz;rw[List.take_length,qj0]at hv;simp[g0,g4,zs,str,Num.QB];refine Qc.pu (Yv z) ?_;by_cases h:z<0
  ·have w:IntKind.i64.wrap (-((z.natAbs:Nat):Int))=z:=by rw[Ql (by omega) (by omega)];omega
   simp[h,g3,aunop,w];exact .dat _ 9 rfl
  ·have w:((z.natAbs:Nat):Int)=z:=by omega
   simp[h,g3,aunop,w];exact .dat _ 9 rfl
end
end Go.AX.Run
namespace Go.AX
open Go.RowKit
def qcZ(f:Nat→Nat→Bool):List Nat→Bool
 | []=>true
 | a::l=>l.all (f a)&&qcZ f l
theorem KF{f:Nat→Nat→Bool}:∀{l:List Nat},qcZ f l=true→l.Pairwise fun i j=>f i j=true:=by
 intro l;induction l with
 | nil=>intro _;exact .nil
 | cons a l ih =>intro h;simp only[qcZ,Bool.and_eq_true,List.all_eq_true]at h;exact .cons h.1 (ih h.2)
def Ws(ops:Array Oper)(ix:List Nat):List Oper:=ix.filterMap fun i=>ops[i]?
def qmV(n:Nat)(ix:List Nat)(cl:List Cls):List Cls:=(List.range n).map fun i=>match (ix.zip cl).find? (fun p=>p.1==i)with|some p=>p.2|none=>.hvy none
def qjT(ops:Array Oper)(pre post:List Nat)(A B:Nat)(cs cs2:List Cls)(bs:List (List Nat)):Bool :=
 qaj ops bs&&((List.range ops.size).all (fun k=>(pre++A::B::post).contains k)&&((pre++A::B::post).all (fun k=>decide (k<ops.size))&&(qcZ (fun i j=>!(i==j)) (pre++A::B::post) &&
  (qcZ (Ye ops cs bs) (pre++A::post)&&(qcZ (Ye ops cs bs) (pre++B::post)&&(qcZ (Ye ops cs2 bs) (pre++A::post)&&(qcZ (Ye ops cs2 bs) (pre++B::post) &&
   post.all (fun p=>(bs.getD p []).contains A||(bs.getD p []).contains B))))))))
section
variable{P:Program}{ops:Array Oper}{st:St}
def qqb(P:Program)(ops:Array Oper)(pre post:List Nat)(A B:Nat)(bs:List (List Nat))(Q:St→Prop)(c0 c1 c2:List Cls)(e1 e2:St):Prop :=
 (∃cs cs2,Jq ops cs pre=(Ws ops pre).zip c0.reverse∧Jq ops cs (A::B::post)=(Ws ops (A::B::post)).zip c1.reverse∧Jq ops cs2 (B::A::post)=(Ws ops (B::A::post)).zip c2.reverse ∧
  (pre.map fun i=>cs.getD i (.hvy none))=(pre.map fun i=>cs2.getD i (.hvy none))∧qjT ops pre post A B cs cs2 bs=true)∧Q e1∧Q e2
theorem Qm.qpH(hm:P.follows .mixedOrders=true){id:Nat}{Q:St→Prop}(pre post:List Nat)(A B:Nat)(bs:List (List Nat))
  (h:QI P ops (Ws ops pre) (fun c0 s0=>QI P ops (Ws ops (A::B::post)) (fun c1 e1=>QI P ops (Ws ops (B::A::post)) (fun c2 e2=>qqb P ops pre post A B bs Q c0 c1 c2 e1 e2) [] s0) [] s0) [] st):Qm P id ops st Q:=by
 obtain⟨cl0,s0,g1,g2,cl1,e1,g3,g4,cl2,e2,g5,g6,⟨cs,cs2,k1,k2,k3,k4,k5⟩,q1,q2⟩:=h;simp only[List.append_nil,List.reverse_reverse]at k1 k2 k3;unfold qjT at k5;simp only[Bool.and_eq_true,List.all_eq_true,decide_eq_true_eq]at k5;obtain⟨p1,p2,p3,p4,p5,p6,p7,p8,p9⟩:=k5;have key:=Qm.two (P:=P) (ops:=ops) (st:=st) hm (id:=id) (cs:=cs) (cs2:=cs2) (bs:=bs) p1 (pre:=pre) (post:=post) (A:=A) (B:=B)
  (fun k=>⟨fun hk=>p3 k hk,fun hk=>by have:=p2 k (List.mem_range.2 hk);simpa using this⟩)
  ((KF p4).imp fun hij=>by simpa using hij) (KF p5) (KF p6) (KF p7) (KF p8)
  (fun i hi=>by
   have:∀(l:List Nat),l.map (fun i=>cs.getD i (.hvy none))=l.map (fun i=>cs2.getD i (.hvy none))→∀i∈l,cs.getD i (.hvy none)=cs2.getD i (.hvy none):=by
    intro l;induction l with
    | nil=>intro _ i hi;cases hi
    | cons a l ih =>
     intro he i hi;simp only[List.map_cons,List.cons.injEq]at he;rcases List.mem_cons.1 hi with rfl|hi
     ·exact he.1
     ·exact ih he.2 i hi
   exact this pre k4 i hi)
  (fun p hp=>by have:=p9 p hp;simp only[Bool.or_eq_true]at this;simpa using this)
  (s0:=s0) (e1:=e1) (e2:=e2) (by rw[k1];exact g2) (by rw[k2];exact g4) (by rw[k3];exact g6)
 intro pl R hR;refine key pl R fun s hs=>?_;rcases hs with rfl|rfl
 ·exact hR _ q1
 ·exact hR _ q2
theorem qkW{n:Nat}{pre r r':List Nat}{cl0 cl1 cl2:List Cls}(hl:pre.length=cl0.length):(pre.map fun i=>(qmV n (pre++r) (cl0++cl1)).getD i (.hvy none))=(pre.map fun i=>(qmV n (pre++r') (cl0++cl2)).getD i (.hvy none)):=by
 refine List.map_congr_left fun i hi=>?_;have hf:∃p,(pre.zip cl0).find? (fun p=>p.1==i)=some p:=by rw[←Option.isSome_iff_exists,List.find?_isSome];obtain⟨k,hk,rfl⟩:=List.mem_iff_getElem.1 hi;exact⟨(pre[k],cl0[k]'(by omega)),by rw[List.mem_iff_getElem];exact⟨k,by simp;omega,by simp⟩,by simp⟩
 obtain⟨p,hp⟩:=hf;unfold qmV;by_cases hin:i<n
 ·simp[List.getD_eq_getElem?_getD,hin,List.zip_append hl,List.find?_append,hp]
 ·simp[List.getD_eq_getElem?_getD,hin]
theorem qqb.of{pre post:List Nat}{A B:Nat}{bs:List (List Nat)}{Q:St→Prop}{c0 c1 c2:List Cls}{e1 e2:St}
  (k1:Jq ops (qmV ops.size (pre++A::B::post) (c0.reverse++c1.reverse)) pre=(Ws ops pre).zip c0.reverse) (k2:Jq ops (qmV ops.size (pre++A::B::post) (c0.reverse++c1.reverse)) (A::B::post)=(Ws ops (A::B::post)).zip c1.reverse)
  (k3:Jq ops (qmV ops.size (pre++B::A::post) (c0.reverse++c2.reverse)) (B::A::post)=(Ws ops (B::A::post)).zip c2.reverse)
  (k4:pre.length=c0.reverse.length)
  (k5:qjT ops pre post A B (qmV ops.size (pre++A::B::post) (c0.reverse++c1.reverse)) (qmV ops.size (pre++B::A::post) (c0.reverse++c2.reverse)) bs=true) (q1:Q e1) (q2:Q e2):qqb P ops pre post A B bs Q c0 c1 c2 e1 e2 :=
 ⟨⟨_,_,k1,k2,k3,qkW k4,k5⟩,q1,q2⟩
theorem Qm.quu(hm:P.follows .mixedOrders=true){id:Nat}{Q:St→Prop}(pre post:List Nat)(A B:Nat)
  (h:QI P ops (Ws ops pre) (fun c0 s0=>QI P ops (Ws ops (A::B::post)) (fun c1 e1=>QI P ops (Ws ops (B::A::post)) (fun c2 e2=>qqb P ops pre post A B (bsM ops) Q c0 c1 c2 e1 e2) [] s0) [] s0) [] st):Qm P id ops st Q:=Qm.qpH hm pre post A B _ h
theorem Qm.qrP(hm:P.follows .mixedOrders=true){id:Nat}{Q:St→Prop}(hs:qbR ops (bsM ops)=true)(h:QC P ops ops.toList Q st):Qm P id ops st Q:=Qm.text hm hs h
theorem Qe.qjx{pl:Bool}{id:Nat}{d:Code}{Q:Exit→St→Prop}(A:St→Prop)(h1:Qm P id ops st A)(h2:∀s,A s→Qe P pl d s Q):Qe P pl (.seq (.region id ops true) d) st Q :=
 Qe.seq (h1 pl _ fun s hs=>h2 s hs)
theorem Qe.qdy{pl:Bool}{c d:Code}{Q:Exit→St→Prop}(A:St→Prop)(h1:Qe P pl c st fun e s=>e=.normal∧A s)(h2:∀s,A s→Qe P pl d s Q):Qe P pl (.seq c d) st Q :=
 Qe.seq (h1.mono fun e s ⟨he,hs⟩=>by subst he;exact h2 s hs)
end
section
variable{P:Program}{ops:Array Oper}{l:List Oper}{Q:St→Prop}{R:List Cls→St→Prop}{cs:List Cls}{st:St}{d:Nat}{ty:TypeId}{pos:String}{aft:Array Edge}{u:AV}
theorem Qx.one{o:Oper}{st1:St}{l1:List Oper}(hl:l1=o::l)(hg:o.guard=none)(hs:Qw P st o u st1)(hd:o.dst=some d)(hn:d<st1.n)(h:Qx P ops l ⟨st1.n,upd st1.env d u,st1.H,st1.N⟩ Q):Qx P ops l1 st Q:=by subst hl;exact Qx.step (by simp[wanted,hg]) hs (by rw[hd];simp[St.put,hn]) h
theorem Qx.qug{o:Oper}{st1:St}{l1:List Oper}(hl:l1=o::l)(hg:o.guard=none)(hs:Qw P st o u st1)(hd:o.dst=none)(h:Qx P ops l st1 Q):Qx P ops l1 st Q:=by subst hl;exact Qx.step (by simp[wanted,hg]) hs (by rw[hd];rfl) h
theorem Qx.copy{x y:Operand}{t t':TypeId}{q:Option (Nat×Blk)}(h:acopy P st.H t (ev st x) (ev st y)=some (u,q))(hn:d<st.n)(hk:Qx P ops l ⟨st.n,upd st.env d u,st.H.qhj q,st.N⟩ Q):Qx P ops (⟨some d,.call ⟨.builtin .copy,#[x,y],#[t,t']⟩,ty,pos,aft,none⟩::l) st Q :=
 Qx.one rfl rfl (Qw.copy rfl rfl rfl rfl h) rfl hn hk
theorem Qx.clear{x:Operand}{t:TypeId}{q:Option (Nat×Blk)}(h:aclear P st.H t (ev st x)=some q)(hk:Qx P ops l ⟨st.n,st.env,st.H.qhj q,st.N⟩ Q):Qx P ops (⟨none,.call ⟨.builtin .clear,#[x],#[t]⟩,ty,pos,aft,none⟩::l) st Q :=
 Qx.qug rfl rfl (Qw.clear rfl rfl rfl rfl h) rfl hk
theorem Qx.slice3{t:TypeId}{x lo hi mx:Operand}(h:Xr P t (ev st x) (ev st lo) (ev st hi) (ev st mx)=some u)(hn:d<st.n)(hk:Qx P ops l ⟨st.n,upd st.env d u,st.H,st.N⟩ Q):Qx P ops (⟨some d,.slice t x (some lo) (some hi) (some mx),ty,pos,aft,none⟩::l) st Q :=
 Qx.one rfl rfl (Qw.slice3 rfl h) rfl hn hk
theorem Qx.qfF{t:TypeId}{x lo hi:Operand}{id:Nat}(h:Xs P st.H t (ev st x) (ev st lo) (ev st hi)=some (u,id))(hn:d<st.n)(hk:Qx P ops l ⟨st.n,upd st.env d u,st.H,st.N⟩ Q):Qx P ops (⟨some d,.slice t x (some lo) (some hi) none,ty,pos,aft,none⟩::l) st Q :=
 Qx.one rfl rfl (Qw.qfF rfl h) rfl hn hk
theorem QI.stp{o:Oper}{H':Qf}{N':Nat}(hg:o.guard=none)(hs:∀st2:St,(∀x∈o.op.operands.toList,ev st2 x=ev st x)→st2.H=st.H→st2.N=st.N→Qw P st2 o u (st2.mem H' N'))(hd:∀d,o.dst=some d→d<st.n)(hk:QI P ops l R (.hvy none::cs) (st.eff o.dst u H' N')):QI P ops (o::l) R cs st :=
 QI.cons (c:=.hvy none) (Eff.J4 (by simp[wanted,hg]) fun st2 ha hH hN=>hs st2 ha.2.1 hH hN) hd hk
theorem QI.copy{x y:Operand}{t t':TypeId}{q:Option (Nat×Blk)}(h:acopy P st.H t (ev st x) (ev st y)=some (u,q))(hn:d<st.n)(hk:QI P ops l R (.hvy none::cs) ⟨st.n,upd st.env d u,st.H.qhj q,st.N⟩):QI P ops (⟨some d,.call ⟨.builtin .copy,#[x,y],#[t,t']⟩,ty,pos,aft,none⟩::l) R cs st:=by refine QI.stp (H':=st.H.qhj q) (N':=st.N) rfl (fun st2 ha hH hN=>?_) (fun d' hd=>by cases hd;exact hn) hk;have h1:ev st2 x=ev st x:=ha x (by simp[Op.operands,Call.operands]);have h2:ev st2 y=ev st y:=ha y (by simp[Op.operands,Call.operands]);have:=Qw.copy (P:=P) (st:=st2) (o:=⟨some d,.call ⟨.builtin .copy,#[x,y],#[t,t']⟩,ty,pos,aft,none⟩) (u:=u) (q:=q) rfl rfl rfl rfl (by rw[hH,h1,h2];exact h);rw[←hH,←hN];exact this
theorem QI.qkw{x y:Operand}{t:TypeId}{id:Nat}{b':Blk}(h:Xl P st.H t (ev st x) (ev st y)=some (u,id,b'))(hn:d<st.n)(hk:QI P ops l R (.hvy none::cs) ⟨st.n,upd st.env d u,st.H.set id b',st.N⟩):QI P ops (⟨some d,.call ⟨.builtin .append,#[x,y],#[t,t]⟩,ty,pos,aft,none⟩::l) R cs st:=by refine QI.stp (H':=st.H.set id b') (N':=st.N) rfl (fun st2 ha hH hN=>?_) (fun d' hd=>by cases hd;exact hn) hk;have h1:ev st2 x=ev st x:=ha x (by simp[Op.operands,Call.operands]);have h2:ev st2 y=ev st y:=ha y (by simp[Op.operands,Call.operands]);have:=Qw.qkw (P:=P) (st:=st2) (o:=⟨some d,.call ⟨.builtin .append,#[x,y],#[t,t]⟩,ty,pos,aft,none⟩) (u:=u) (id:=id) (b':=b') rfl rfl rfl rfl (by rw[hH,h1,h2];exact h);rw[←hH,←hN];exact this
end
section
variable{P:Program}{ops:Array Oper}{l:List Oper}{R:List Cls→St→Prop}{cs:List Cls}{st:St}{d:Nat}{ty:TypeId}{pos:String}{aft:Array Edge}{u:AV}
theorem QI.app{s x:Operand}{t:TypeId}{st1:St}(ws:List Nat)(h:aappend P st t (ev st s) (ev st x)=some (u,st1))(h1:st.N≤st1.N)(h2:∀id,id<st.N→id ∉ ws→st1.H.b id=st.H.b id)(hn:d<st.n)(hk:QI P ops l R (.hvy (some ws)::cs) ⟨st.n,upd st.env d u,st1.H,st1.N⟩) :
  QI P ops (⟨some d,.call ⟨.builtin .append,#[s,x],#[t,t]⟩,ty,pos,aft,none⟩::l) R cs st:=by
 refine QI.cons (c:=.hvy (some ws)) (u:=u) (H':=st1.H) (N':=st1.N) ⟨?_,h1,h2⟩ (fun d' hd=>by cases hd;exact hn) hk;refine Eff.qfq (by simp[wanted]) fun st2 ha hH hN=>?_;have e1:ev st2 s=ev st s:=ha.2.1 s (by simp[Op.operands,Call.operands]);have e2:ev st2 x=ev st x:=ha.2.1 x (by simp[Op.operands,Call.operands]);have e3:=Xm (P:=P) t (ev st s) (ev st x) hH hN;rw[h]at e3;simp only[astep,e1,e2,if_true];exact e3
end
inductive Lbl(ids:List Nat):List Cls→List Cls→Prop
 | nil:Lbl ids [] []
 | flo {cs cs0:List Cls} (h:Lbl ids cs cs0):Lbl ids (.flo::cs) (.flo::cs0)
 | lod0 {cs cs0:List Cls} (h:Lbl ids cs cs0):Lbl ids (.lod []::cs) (.lod []::cs0)
 | WR {cs cs0:List Cls} {x:Nat} (a:Nat) (e:ids[a]?=some x) (h:Lbl ids cs cs0):Lbl ids (.lod [x]::cs) (.lod [a]::cs0)
 | hvyN {cs cs0:List Cls} (h:Lbl ids cs cs0):Lbl ids (.hvy none::cs) (.hvy none::cs0)
 | hvy0 {cs cs0:List Cls} (h:Lbl ids cs cs0):Lbl ids (.hvy (some [])::cs) (.hvy (some [])::cs0)
 | hvy1 {cs cs0:List Cls} {x:Nat} (a:Nat) (e:ids[a]?=some x) (h:Lbl ids cs cs0):Lbl ids (.hvy (some [x])::cs) (.hvy (some [a])::cs0)
def qpY(ids:List Nat)(c c0:Cls):Prop:=(c=.flo∧c0=.flo)∨(c=.lod []∧c0=.lod [])∨(∃a x,ids[a]?=some x∧c=.lod [x]∧c0=.lod [a])∨(c=.hvy none∧c0=.hvy none)∨(c=.hvy (some [])∧c0=.hvy (some []))∨∃a x,ids[a]?=some x∧c=.hvy (some [x])∧c0=.hvy (some [a])
theorem qpY.pair{ids:List Nat}(hn:ids.Nodup){c c0 d d0:Cls}(h:qpY ids c c0)(k:qpY ids d d0)(hp:Kj c0 d0=true):Kj c d=true:=by
 have hne:∀a x b y,ids[a]?=some x→ids[b]?=some y→a≠b→x≠y:=fun a x b y h1 h2 hab e=>by
  subst e;obtain⟨l1,e1⟩:=List.getElem?_eq_some_iff.1 h1;obtain⟨l2,e2⟩:=List.getElem?_eq_some_iff.1 h2;have hp:=List.pairwise_iff_getElem.1 hn;rcases Nat.lt_or_gt_of_ne hab with hlt|hlt
  ·exact hp a b l1 l2 hlt (e1.trans e2.symm)
  ·exact hp b a l2 l1 hlt (e2.trans e1.symm)
 rcases h with⟨rfl,rfl⟩|⟨rfl,rfl⟩|⟨a,x,e,rfl,rfl⟩|⟨rfl,rfl⟩|⟨rfl,rfl⟩|⟨a,x,e,rfl,rfl⟩<;>rcases k with⟨rfl,rfl⟩|⟨rfl,rfl⟩|⟨b,y,f,rfl,rfl⟩|⟨rfl,rfl⟩|⟨rfl,rfl⟩|⟨b,y,f,rfl,rfl⟩<;>simp only[Kj,List.all_cons,List.all_nil,Bool.and_true,Bool.not_eq_true',List.contains_cons,List.contains_nil,Bool.or_false,beq_eq_false_iff_ne]at hp⊢;all_goals first
  | exact hne _ _ _ _ e f hp
  | exact hne _ _ _ _ f e hp
  | cases hp
theorem Lbl.len{ids:List Nat}{cs cs0:List Cls}(h:Lbl ids cs cs0):cs.length=cs0.length:=by induction h<;>simp_all
theorem Lbl.get{ids:List Nat}{cs cs0:List Cls}(h:Lbl ids cs cs0):∀i,i<cs.length→qpY ids (cs.getD i (.hvy none)) (cs0.getD i (.hvy none)):=by
 induction h with
 | nil=>intro i hi;cases hi
 | flo h ih=>intro i hi;cases i with
  | zero=>exact .inl ⟨rfl,rfl⟩
  | succ i=>simpa using ih i (by simpa using hi)
 | lod0 h ih=>intro i hi;cases i with
  | zero=>exact .inr (.inl ⟨rfl,rfl⟩)
  | succ i=>simpa using ih i (by simpa using hi)
 | WR a e h ih=>intro i hi;cases i with
  | zero=>exact .inr (.inr (.inl ⟨_,_,e,rfl,rfl⟩))
  | succ i=>simpa using ih i (by simpa using hi)
 | hvyN h ih=>intro i hi;cases i with
  | zero=>exact .inr (.inr (.inr (.inl ⟨rfl,rfl⟩)))
  | succ i=>simpa using ih i (by simpa using hi)
 | hvy0 h ih=>intro i hi;cases i with
  | zero=>exact .inr (.inr (.inr (.inr (.inl ⟨rfl,rfl⟩))))
  | succ i=>simpa using ih i (by simpa using hi)
 | hvy1 a e h ih=>intro i hi;cases i with
  | zero=>exact .inr (.inr (.inr (.inr (.inr ⟨_,_,e,rfl,rfl⟩))))
  | succ i=>simpa using ih i (by simpa using hi)
theorem qe9{α:Type}{l:List α}{d:α}{i:Nat}(h:i<l.length):l.reverse.getD i d=l.getD (l.length-1-i) d:=by simp only[List.getD_eq_getElem?_getD,List.getElem?_reverse h]
theorem Zg.lbl{ops:Array Oper}{cs cs0:List Cls}(ids:List Nat)(h:Lbl ids cs cs0)(hn:ids.Nodup)(hs:J9 ops cs0.reverse (bsM ops)=true):Zg ops cs:=by
 refine⟨bsM ops,?_⟩;unfold J9 at hs⊢;rw[Bool.and_eq_true]at hs⊢;refine⟨hs.1,?_⟩;rw[List.all_eq_true]at hs⊢;intro j hj;have h2:=hs.2 j hj;rw[List.all_eq_true]at h2⊢;intro i hi;have h3:=h2 i hi;have hl:=h.len;have key:∀i,qpY ids (cs.reverse.getD i (.hvy none)) (cs0.reverse.getD i (.hvy none)):=fun i=>by
  by_cases hi:i<cs.length
  ·rw[qe9 hi,qe9 (by omega),hl];exact h.get _ (by omega)
  ·rw[List.getD_eq_getElem?_getD,List.getD_eq_getElem?_getD,List.getElem?_eq_none (by simp;omega),List.getElem?_eq_none (by simp;omega)];exact .inr (.inr (.inr (.inl ⟨rfl,rfl⟩)))
 unfold Ye at h3⊢;split at h3
 ·simp only[Bool.or_eq_true,Bool.and_eq_true]at h3⊢;rcases h3 with h3|⟨h3,h4⟩
  ·exact .inl h3
  ·exact .inr ⟨h3,qpY.pair hn (key i) (key j) h4⟩
 ·cases h3
def qkg(P:Program)(ops:Array Oper)(o:Oper)(st:St)(S:AV→Qf→Nat→Prop):Prop :=
 ∀st2,Agr ops o st st2→st2.H=st.H→st2.N=st.N→(∀d,o.dst=some d→d<st.n)→Qx P ops [o] st2 fun s=>∃u H' N',S u H' N'∧s=st2.eff o.dst u H' N'
def qc0(ops:Array Oper)(bs:List (List Nat))(q:Nat×Cls)(i:Nat)(o:Oper)(c:Cls):Prop:=q.1∈bs.getD i []∨∃p,ops[q.1]?=some p∧Ys ops p o=true∧Kj q.2 c=true
inductive Yp(P:Program)(ops:Array Oper)(bs:List (List Nat)):List (Nat×Cls)→List Nat→St→(St→Prop)→Prop
 | nil {cx:List (Nat×Cls)} {st:St} {R:St→Prop} (h:R st):Yp P ops bs cx [] st R
 | det {cx:List (Nat×Cls)} {i:Nat} {l:List Nat} {st:St} {R:St→Prop} {o:Oper} {c:Cls} {u:AV} {H':Qf} {N':Nat} (ho:ops[i]?=some o) (hp:∀q∈cx,qc0 ops bs q i o c) (h:Evd P ops o c st u H' N') (hd:∀d,o.dst=some d→d<st.n)
   (hr:Yp P ops bs ((i,c)::cx) l (st.eff o.dst u H' N') R):Yp P ops bs cx (i::l) st R
 | any {cx:List (Nat×Cls)} {i:Nat} {l:List Nat} {st:St} {R:St→Prop} {o:Oper} {ws:List Nat} {S:AV→Qf→Nat→Prop} (ho:ops[i]?=some o) (hp:∀q∈cx,qc0 ops bs q i o (.hvy (some ws))) (hl:∀j∈l,i∈bs.getD j [])
   (h:qkg P ops o st S) (hS:∀u H' N',S u H' N'→st.N≤N'∧∀id,id<st.N→id ∉ ws→H'.b id=st.H.b id) (hd:∀d,o.dst=some d→d<st.n) (hr:∀u H' N',S u H' N'→Yp P ops bs cx l (st.eff o.dst u H' N') R):Yp P ops bs cx (i::l) st R
 | anp {cx:List (Nat×Cls)} {i:Nat} {l:List Nat} {st:St} {R:St→Prop} {o:Oper} {S:AV→Prop} (ho:ops[i]?=some o) (hp:∀q∈cx,qc0 ops bs q i o .flo) (hl:∀j∈l,i∈bs.getD j [])
   (h:∀H N,qkg P ops o (st.mem H N) fun u H' N'=>S u∧H'=H∧N'=N) (hd:∀d,o.dst=some d→d<st.n) (hr:∀u,S u→Yp P ops bs cx l (st.eff o.dst u st.H st.N) R):Yp P ops bs cx (i::l) st R
section
variable{P:Program}{ops:Array Oper}{bs:List (List Nat)}
theorem Yp.less{l:List Nat}{cx:List (Nat×Cls)}{st:St}{R:St→Prop}(h:Yp P ops bs cx l st R):∀cx',(∀q∈cx',q∈cx)→Yp P ops bs cx' l st R:=by
 induction h with
 | nil h=>intro cx' _;exact .nil h
 | det ho hp h hd hr ih =>
  intro cx' hc;exact .det ho (fun q hq=>hp q (hc q hq)) h hd (ih _ fun q hq=>by
   rcases List.mem_cons.1 hq with rfl|hq
   ·simp
   ·exact List.mem_cons.2 (.inr (hc q hq)))
 | any ho hp hl h hS hd hr ih =>intro cx' hc;exact .any ho (fun q hq=>hp q (hc q hq)) hl h hS hd fun u H' N' hs=>ih u H' N' hs _ hc
 | anp ho hp hl h hd hr ih =>intro cx' hc;exact .anp ho (fun q hq=>hp q (hc q hq)) hl h hd fun u hs=>ih u hs _ hc
theorem qkg.agr{o:Oper}{st st1:St}{S:AV→Qf→Nat→Prop}(h:qkg P ops o st S)(ha:Agr ops o st st1)(hH:st1.H=st.H)(hN:st1.N=st.N):qkg P ops o st1 S :=
 fun st2 h1 h2 h3 h4=>h st2 (ha.trans h1) (h2.trans hH) (h3.trans hN) (fun d hd=>by rw[←ha.1];exact h4 d hd)
theorem qsj{o p:Oper}{st:St}{uo:AV}(a2:∀d,o.dst=some d→YJ ops p d=true∧p.dst≠some d){H:Qf}{N:Nat}:Agr ops p st (st.eff o.dst uo H N):=by
 cases hd:o.dst with
 | none=>exact Agr.mem st H N
 | some d=>exact(Agr.mem st H N).trans (Agr.up (a2 d hd).1)
theorem qsi{o p:Oper}{st:St}{up:AV}(a1:∀d,p.dst=some d→YJ ops o d=true∧o.dst≠some d){Hp:Qf}{Np:Nat}:Agr ops o (st.eff p.dst up Hp Np) (st.mem Hp Np):=by
 cases hd:p.dst with
 | none=>exact Agr.refl _ _ _
 | some d=>exact(Agr.up (st:=st.mem Hp Np) (a1 d hd).1).symm
theorem Yp.front{i:Nat}{o:Oper}(hoi:ops[i]?=some o):∀(pre post:List Nat) (cx:List (Nat×Cls)) (st:St) (R:St→Prop),(∀p∈pre,p ∉ bs.getD i [])→Yp P ops bs cx (pre++i::post) st R →
  (∃c u H' N',(∀q∈cx,qc0 ops bs q i o c)∧qeK P ops o c st u H' N'∧(∀d,o.dst=some d→d<st.n)∧Yp P ops bs cx (pre++post) (st.eff o.dst u H' N') R) ∨
  (∃ws S,(∀q∈cx,qc0 ops bs q i o (.hvy (some ws)))∧qkg P ops o st S∧(∀u H' N',S u H' N'→st.N≤N'∧∀id,id<st.N→id ∉ ws→H'.b id=st.H.b id)∧(∀d,o.dst=some d→d<st.n)∧∀u H' N',S u H' N'→Yp P ops bs cx (pre++post) (st.eff o.dst u H' N') R)  ∨
  (∃S:AV→Prop,(∀q∈cx,qc0 ops bs q i o .flo)∧(∀H N,qkg P ops o (st.mem H N) fun u H' N'=>S u∧H'=H∧N'=N)∧(∀d,o.dst=some d→d<st.n)∧∀u,S u→Yp P ops bs cx (pre++post) (st.eff o.dst u st.H st.N) R):=by
 intro pre;induction pre with
 | nil =>
  intro post cx st R _ h;cases h with
  | det ho hp h hd hr =>rw[hoi]at ho;cases ho;exact .inl ⟨_,_,_,_,hp,h.first,hd,hr.less _ fun q hq=>List.mem_cons.2 (.inr hq)⟩
  | any ho hp hl h hS hd hr =>rw[hoi]at ho;cases ho;exact .inr (.inl ⟨_,_,hp,h,hS,hd,hr⟩)
  | anp ho hp hl h hd hr =>rw[hoi]at ho;cases ho;exact .inr (.inr ⟨_,hp,h,hd,hr⟩)
 | cons p pre ih =>
  intro post cx st R ha h;cases h with
  | any ho hp hl h hS hd hr=>exact(ha p (by simp) (hl i (by simp))).elim
  | anp ho hp hl h hd hr=>exact(ha p (by simp) (hl i (by simp))).elim
  | @det _ _ _ _ _ po cp up Hp Np hop hpp hev hdp hr =>
  rcases ih post _ _ R (fun q hq=>ha q (by simp[hq])) hr with⟨co,uo,Ho,No,hpo,ho,hdo,hrest⟩|⟨ws,S,hpo,ho,hS,hdo,hrest⟩|⟨S,hpo,ho,hdo,hrest⟩
  ·have hpair:Ys ops po o=true∧Kj cp co=true:=by
    rcases hpo (p,cp) (by simp)with h|⟨p',h1,h2,h3⟩
    ·exact(ha p (by simp) h).elim
    ·simp only at h1;rw[hop]at h1;cases h1;exact⟨h2,h3⟩
   obtain⟨hap,hpk⟩:=hpair;obtain⟨a1,a2⟩:=Yd hap;have hdo':∀d,o.dst=some d→d<st.n:=fun d hd=>by rw[←St.qcx st po.dst up Hp Np];exact hdo d hd
   have ho':qeK P ops o co (st.mem Hp Np) uo Ho No:=ho.agr (qsi a1) (St.qbk st po.dst up Hp Np).symm (St.qbl st po.dst up Hp Np).symm;have hne:∀d,po.dst=some d→o.dst≠some d:=fun d hd=>(a1 d hd).2;have fin:∀(Ho':Qf) (No':Nat),qeK P ops o co st uo Ho' No'→Evd P ops po cp (st.mem Ho' No') up Ho No →
     ∃c u H' N',(∀q∈cx,qc0 ops bs q i o c)∧qeK P ops o c st u H' N'∧(∀d,o.dst=some d→d<st.n)∧Yp P ops bs cx (p::pre++post) (st.eff o.dst u H' N') R:=fun Ho' No' e1 e2=>by
    refine⟨co,uo,Ho',No',fun q hq=>hpo q (by simp[hq]),e1,hdo',.det hop hpp (e2.agr ((Agr.mem st Ho' No').symm.trans (qsj a2)) (St.qbk _ _ _ _ _) (St.qbl _ _ _ _ _)) (fun d hd=>by rw[St.qcx];exact hdp d hd) ?_⟩;rw[W6 hne rfl rfl (Hb:=Hp) (Nb:=Np)];exact hrest
   left;have hst:st.mem st.H st.N=st:=rfl;rcases co with _|rs|ws
   ·obtain⟨e1,e2,e3⟩:=ho';have e1:Ho=Hp:=e1;have e2:No=Np:=e2;subst e1 e2;exact fin st.H st.N ⟨rfl,rfl,fun H N=>e3 H N⟩ hev
   ·obtain⟨e1,e2,K,e3,e4⟩:=ho';have e1:Ho=Hp:=e1;have e2:No=Np:=e2;subst e1 e2;rcases cp with _|rs'|⟨_|ws⟩
    ·obtain⟨q1,q2,q3⟩:=hev;subst q1 q2;exact fin st.H st.N ⟨rfl,rfl,K,e3,e4⟩ ⟨rfl,rfl,q3⟩
    ·obtain⟨q1,q2,q3⟩:=hev;subst q1 q2;exact fin st.H st.N ⟨rfl,rfl,K,e3,e4⟩ ⟨rfl,rfl,q3⟩
    ·cases hpk
    ·obtain⟨q1,q2,q3⟩:=hev;have hdis:=Y7 hpk;exact fin st.H st.N ⟨rfl,rfl,K,e3,fun id h1 h2=>(q3 id h2 (hdis id h1)).symm.trans (e4 id h1 (Nat.lt_of_lt_of_le h2 q2))⟩ ⟨q1,q2,q3⟩
   ·rcases cp with _|rs'|ws'
    ·obtain⟨q1,q2,q3⟩:=hev;subst q1 q2;exact fin Ho No ho' ⟨rfl,rfl,q3⟩
    ·rcases ws with _|ws
     ·cases hpk
     ·obtain⟨q1,q2,q3,q4⟩:=hev;subst q1 q2;obtain⟨e1,e2,e3⟩:=ho';have hdis:=Y7 hpk;exact fin Ho No ⟨e1,e2,e3⟩ ⟨rfl,rfl,fun id hid=>Nat.lt_of_lt_of_le (q3 id hid) e2,fun H N hs=>q4 H N fun id h1 h2=>(hs id h1 h2).trans (e3 id (q3 id h1) (hdis id h1))⟩
    ·rcases ws with _|ws<;>rcases ws' with _|ws'<;>cases hpk
  ·have hpair:Ys ops po o=true∧Kj cp (.hvy (some ws))=true:=by
    rcases hpo (p,cp) (by simp)with h|⟨p',h1,h2,h3⟩
    ·exact(ha p (by simp) h).elim
    ·simp only at h1;rw[hop]at h1;cases h1;exact⟨h2,h3⟩
   obtain⟨hap,hpk⟩:=hpair;obtain⟨a1,a2⟩:=Yd hap;have hdo':∀d,o.dst=some d→d<st.n:=fun d hd=>by rw[←St.qcx st po.dst up Hp Np];exact hdo d hd
   have hne:∀d,po.dst=some d→o.dst≠some d:=fun d hd=>(a1 d hd).2;have ho':qkg P ops o (st.mem Hp Np) S:=ho.agr (qsi a1) (St.qbk st po.dst up Hp Np).symm (St.qbl st po.dst up Hp Np).symm;rw[St.qbk,St.qbl]at hS;right;left;have fin:qkg P ops o st S→(∀u H' N',S u H' N'→st.N≤N'∧∀id,id<st.N→id ∉ ws→H'.b id=st.H.b id)→(∀u H' N',S u H' N'→Evd P ops po cp (st.mem H' N') up H' N') →
     ∃ws S,(∀q∈cx,qc0 ops bs q i o (.hvy (some ws)))∧qkg P ops o st S∧(∀u H' N',S u H' N'→st.N≤N'∧∀id,id<st.N→id ∉ ws→H'.b id=st.H.b id)∧(∀d,o.dst=some d→d<st.n)∧∀u H' N',S u H' N'→Yp P ops bs cx (p::pre++post) (st.eff o.dst u H' N') R:=fun e1 e2 e3=>by
    refine⟨ws,S,fun q hq=>hpo q (by simp[hq]),e1,e2,hdo',fun u H' N' hs=>?_⟩;refine .det hop hpp ((e3 u H' N' hs).agr ((Agr.mem st H' N').symm.trans (qsj a2)) (St.qbk _ _ _ _ _) (St.qbl _ _ _ _ _)) (fun d hd=>by rw[St.qcx];exact hdp d hd) ?_;rw[W6 hne rfl rfl (Hb:=Hp) (Nb:=Np)];exact hrest u H' N' hs
   rcases cp with _|rs'|ws'
   ·obtain⟨q1,q2,q3⟩:=hev;subst q1 q2;exact fin ho' hS fun u H' N' _=>⟨rfl,rfl,q3⟩
   ·obtain⟨q1,q2,q3,q4⟩:=hev;subst q1 q2;have hdis:=Y7 hpk;exact fin ho' hS fun u H' N' hs=>⟨rfl,rfl,fun id hid=>Nat.lt_of_lt_of_le (q3 id hid) (hS u H' N' hs).1,fun H N hh=>q4 H N fun id h1 h2=>(hh id h1 h2).trans ((hS u H' N' hs).2 id (q3 id h1) (hdis id h1))⟩
   ·rcases ws' with _|ws'<;>cases hpk
  ·have hap:Ys ops po o=true:=by
    rcases hpo (p,cp) (by simp)with h|⟨p',h1,h2,h3⟩
    ·exact(ha p (by simp) h).elim
    ·simp only at h1;rw[hop]at h1;cases h1;exact h2
   obtain⟨a1,a2⟩:=Yd hap;have hdo':∀d,o.dst=some d→d<st.n:=fun d hd=>by rw[←St.qcx st po.dst up Hp Np];exact hdo d hd
   have hne:∀d,po.dst=some d→o.dst≠some d:=fun d hd=>(a1 d hd).2;right;right;refine⟨S,fun q hq=>hpo q (by simp[hq]),fun H N=>(ho H N).agr ((Agr.mem (st.eff po.dst up Hp Np) H N).symm.trans ((qsi a1).trans ((Agr.mem st Hp Np).symm.trans (Agr.mem st H N)))) rfl rfl,hdo',fun u hs=>?_⟩;refine .det hop hpp (hev.agr (qsj a2) (St.qbk _ _ _ _ _) (St.qbl _ _ _ _ _)) (fun d hd=>by rw[St.qcx];exact hdp d hd) ?_;rw[W6 hne rfl rfl (Hb:=Hp) (Nb:=Np)];have:=hrest u hs;rw[St.qbk,St.qbl]at this;exact this
theorem qdZ(hcert:qaj ops bs=true):∀(fuel:Nat) (listed:Array Bool) (l:List Nat) (st:St) (Q:St→Prop) (E:Env) (B:Nat) (w0:World) (a:Act) (w:World) (ρ:Option Nat),listed.size=ops.size→WG ops bs listed→(∀i,i∈l↔i<ops.size∧listed.getD i true=false)→l.Nodup→l.length≤fuel→Rel E B w0 st a w →
  Yp P ops bs [] l st Q→∀R:Exit→Act→World→Prop,(∀a' w',Ym E B w0 w Q a' w'→R .normal a' w')→wpAnyIn (FW ρ) 3 P .any ops R fuel listed a w:=by
 unfold qaj at hcert;intro fuel;induction fuel with
 | zero =>
  intro listed l st Q E B w0 a w ρ hs hcl hl hnd hlen hr h R hR;have hnil:l=[]:=List.eq_nil_of_length_eq_zero (by omega);subst hnil;refine⟨?_,?_⟩
  ·unfold Region.ready;refine List.filter_eq_nil_iff.2 fun i hi=>?_;have hl:listed.getD i true=true:=by
    cases h':listed.getD i true with
    | true=>rfl
    | false=>exact absurd ((hl i).2 ⟨by simpa using hi,h'⟩) (by simp)
   simp[hl]
  ·cases h with
   | nil h=>exact hR a w ⟨E,st,Env.le.refl E,QD.refl E w,hr,h⟩
 | succ fuel ih =>
  intro listed l st Q E B w0 a w ρ hs hcl hl hnd hlen hr h R hR;have hrd:∀i,i∈Region.ready .any ops listed↔i∈l∧∃o,ops[i]?=some o∧∀e∈o.after.toList,Region.binds .any e=true→listed.getD e.on false=true:=fun i=>by
   unfold Region.ready;rw[List.mem_filter,hl];cases ho:ops[i]? with
   | none=>simp
   | some o =>
    have hi:i<ops.size:=(Array.getElem?_eq_some_iff.1 ho).1;simp only[List.mem_range,Bool.and_eq_true,Bool.not_eq_true',Option.map_some,Option.getD_some,Option.some.injEq,exists_eq_left',Array.all_eq_true',Bool.or_eq_true];constructor
    ·rintro⟨h1,h2,h3⟩;exact⟨⟨h1,h2⟩,fun e he hb=>by
      have:=h3 e (by simpa using he);rcases this with h'|h'
      ·rw[hb]at h';cases h'
      ·exact h'⟩
    ·rintro⟨⟨h1,h2⟩,h3⟩;exact⟨h1,h2,fun e he=>by
      cases hb:Region.binds .any e with
      | false=>exact .inl rfl
      | true=>exact .inr (h3 e (by simpa using he) hb)⟩
  refine⟨fun hnil=>?_,fun i hi=>?_⟩
  ·have hrm:∀i,i∈l↔i∈Yy ops listed:=fun i=>by rw[hl,Q5]
   have:l=[]:=by
    cases hrem:Yy ops listed with
    | nil =>
     cases l with
     | nil=>rfl
     | cons j l=>exact absurd ((hrm j).1 (by simp)) (by rw[hrem];simp)
    | cons i rest =>
     exfalso;have hir:i∈Yy ops listed:=by rw[hrem];simp
     have hisz:=(Q5.1 hir).1;have hsort:(Yy ops listed).Pairwise (·<·):=List.Pairwise.filter _ List.pairwise_lt_range;rw[hrem]at hsort;have hmin:=(List.pairwise_cons.1 hsort).1;have hin:i∈Region.ready .any ops listed:=(hrd i).2 ⟨(hrm i).2 hir,ops[i],Array.getElem?_eq_getElem hisz,fun e he hb=>by
      have hc:=List.all_eq_true.1 hcert i (by simpa using hisz);simp only[Array.getElem?_eq_getElem hisz,Bool.and_eq_true]at hc;have hlt:=Array.all_eq_true'.1 hc.2 e (by simpa using he);simp only[hb,Bool.not_true,Bool.false_or,decide_eq_true_eq]at hlt;have hnr:e.on ∉ Yy ops listed:=fun hm=>by
       rw[hrem]at hm;rcases List.mem_cons.1 hm with h'|h'
       ·omega
       ·have:=hmin _ h';omega
      rw[Q5]at hnr;have:listed.getD e.on true=true:=by have:=fun h'=>hnr ⟨by omega,h'⟩;simpa using this
      have hlt2:e.on<listed.size:=by omega
      simpa[Array.getD_eq_getD_getElem?,Array.getElem?_eq_getElem hlt2]using this⟩
     rw[hnil]at hin;simp at hin
   subst this;cases h with
   | nil h=>exact hR a w ⟨E,st,Env.le.refl E,QD.refl E w,hr,h⟩
  ·obtain⟨hir,o,ho,hdeps⟩:=(hrd i).1 hi;obtain⟨pre,post,he⟩:=List.append_of_mem hir;have hisz:=((hl i).1 hir).1;have hgetD:∀j,(listed.setIfInBounds i true).getD j true=true↔j=i∨listed.getD j true=true:=fun j=>by
    by_cases hji:j=i
    ·subst hji;simp[Array.getD_eq_getD_getElem?,show j<listed.size by omega]
    ·simp[Array.getD_eq_getD_getElem?,Ne.symm hji,hji]
   have hft:∀j,listed.getD j false=true→j<ops.size∧listed.getD j true=true:=fun j hj=>by
    cases hx:listed[j]? with
    | none=>simp[Array.getD_eq_getD_getElem?,hx]at hj
    | some b =>have:=(Array.getElem?_eq_some_iff.1 hx).1;simp only[Array.getD_eq_getD_getElem?,hx,Option.getD_some]at hj⊢;exact⟨by omega,hj⟩
   have hbs:∀j∈bs.getD i [],listed.getD j true=true:=fun j hj=>by
    have hc:=List.all_eq_true.1 hcert i (by simpa using hisz);simp only[ho,Bool.and_eq_true]at hc;have hc1:=List.all_eq_true.1 hc.1 j hj;obtain⟨e,he,hb⟩:=Array.any_eq_true'.1 hc1;simp only[Bool.and_eq_true,Bool.or_eq_true,beq_iff_eq]at hb;obtain⟨hb1,hb2⟩:=hb;have hl:=hdeps e (by simpa using he) hb1;obtain⟨q1,q2⟩:=hft _ hl;rcases hb2 with hb2|hb2
    ·rw[←hb2];exact q2
    ·exact hcl e.on q1 q2 j (by simpa using hb2)
   have hcl':WG ops bs (listed.setIfInBounds i true):=fun j hj hlj k hk=>by
    rw[hgetD];rcases(hgetD j).1 hlj with rfl|hlj
    ·exact .inr (hbs k hk)
    ·exact .inr (hcl j hj hlj k hk)
   have hpre:∀p∈pre,p ∉ bs.getD i []:=fun p hp hm=>by have h1:=hbs p hm;have h2:=((hl p).1 (by rw[he];simp[hp])).2;rw[h1]at h2;cases h2
   have hnd':=hnd;rw[he,List.nodup_append]at hnd';obtain⟨n1,n2,n3⟩:=hnd';obtain⟨n4,n5⟩:=List.nodup_cons.1 n2;have hl':∀j,j∈pre++post↔j<ops.size∧(listed.setIfInBounds i true).getD j true=false:=fun j=>by
    have hji:j∈pre++post↔j∈l∧j≠i:=by
     rw[he];simp only[List.mem_append,List.mem_cons];constructor
     ·rintro(h|h)
      ·exact⟨.inl h,n3 j h i (by simp)⟩
      ·exact⟨.inr (.inr h),fun e=>n4 (e▸h)⟩
     ·rintro⟨h|rfl|h,h2⟩
      ·exact .inl h
      ·exact(h2 rfl).elim
      ·exact .inr h
    rw[hji,hl];have hg:=hgetD j;constructor
    ·rintro⟨⟨h1,h2⟩,h3⟩;refine⟨h1,?_⟩;cases h4:(listed.setIfInBounds i true).getD j true with
     | false=>rfl
     | true =>
      rcases hg.1 h4 with e|e
      ·exact(h3 e).elim
      ·rw[h2]at e;cases e
    ·rintro⟨h1,h2⟩;have h3:¬(j=i∨listed.getD j true=true):=fun h=>by rw[hg.2 h]at h2;cases h2
     refine⟨⟨h1,?_⟩,fun e=>h3 (.inl e)⟩;cases h4:listed.getD j true with
     | false=>rfl
     | true=>exact(h3 (.inr h4)).elim
   have hnd2:(pre++post).Nodup:=List.nodup_append.2 ⟨n1,n5,fun x hx y hy=>n3 x hx y (by simp[hy])⟩;have hlen2:(pre++post).length≤fuel:=by rw[he]at hlen;simp at hlen⊢;omega
   rw[he]at h;have go:∀A:St→Prop,Qx P ops [o] st A→(∀s,A s→Yp P ops bs [] (pre++post) s Q)→wpOpIn (FW ρ) 3 P ops R i (wpAnyIn (FW ρ) 3 P .any ops R fuel (listed.setIfInBounds i true)) a w:=fun A hA hk=>by
    have h2:=hA ρ E B w0 a w hr (fun e' a' w'=>e'=.normal∧Ym E B w0 w A a' w') (fun a' w' hA=>⟨rfl,hA⟩);have key:∀a' w',Ym E B w0 w A a' w'→wpAnyIn (FW ρ) 3 P .any ops R fuel (listed.setIfInBounds i true) a' w':=fun a' w' ⟨E',st',f1,f2,f3,f4⟩ =>ih (listed.setIfInBounds i true) (pre++post) st' Q E' B w0 a' w' ρ (by simpa using hs) hcl' hl' hnd2 hlen2 f3 (hk _ f4) R fun a2 w2 hA=>hR a2 w2 (hA.trans f1 f2)
    unfold wpOpIn;simp only[ho];unfold wpListIn at h2;split at h2
    ·rename_i hw;rw[if_pos hw];exact VL h2 (fun a' w' hq=>key a' w' hq.2) (fun e a' w' hne hq=>hne hq.1)
    ·rename_i hw;rw[if_neg hw];exact⟨h2.1,key _ _ h2.2.2⟩
   rcases Yp.front ho pre post [] st Q hpre h with⟨c,u,H',N',_,e1,e2,e3⟩|⟨ws,S,_,e1,e2,e3,e4⟩|⟨S,_,e1,e3,e4⟩
   ·exact go _ (e1.eff st (Agr.refl _ _ _) rfl rfl e2) fun s hs=>by subst hs;exact e3
   ·exact go _ (e1 st (Agr.refl _ _ _) rfl rfl e3) fun s ⟨u,H',N',h1,h2⟩=>by subst h2;exact e4 u H' N' h1
   ·exact go _ (e1 st.H st.N st (Agr.refl _ _ _) rfl rfl e3) fun s ⟨u,H',N',h1,h2⟩=>by obtain⟨h0,rfl,rfl⟩:=h1;subst h2;exact e4 u h0
def nodupB:List Nat→Bool
 | []=>true
 | x::l=>!l.contains x&&nodupB l
theorem qcW:∀(l:List Nat),nodupB l=true→l.Nodup:=by
 intro l;induction l with
 | nil=>intro _;exact List.nodup_nil
 | cons x l ih =>
  intro h;simp only[nodupB,Bool.and_eq_true,Bool.not_eq_true']at h;refine List.nodup_cons.2 ⟨fun hm=>?_,ih h.2⟩;have:l.contains x=true:=by simpa using hm
  rw[h.1]at this;cases this
def qsk(ops:Array Oper)(l:List Nat):Bool:=(List.range ops.size).all (fun i=>l.contains i)&&l.all (fun i=>decide (i<ops.size))&&nodupB l
theorem Qm.qrN(hm:P.follows .mixedOrders=true){id:Nat}{st:St}{Q:St→Prop}(l:List Nat)(hc:qaj ops bs=true)(hl:qsk ops l=true)(h:Yp P ops bs [] l st Q):Qm P id ops st Q:=by
 simp only[qsk,Bool.and_eq_true,List.all_eq_true,decide_eq_true_eq]at hl;obtain⟨⟨h1,h2⟩,h3⟩:=hl;intro pl R hR ρ hρ E B w0 a w hr R' hR';refine wpIn_region_any hm ?_;refine qdZ hc ops.size (Array.replicate ops.size false) l st Q E B w0 a w.drew ρ (by simp) (fun i hi hl=>?_) (fun i=>?_) ?_ ?_ hr.drew h R' (fun a' w' hA=>hR' _ a' w' ?_)
 ·simp[Array.getD_eq_getD_getElem?,hi]at hl
 ·constructor
  ·intro hi;have hi:=h2 i hi;exact⟨hi,by simp[Array.getD_eq_getD_getElem?,hi]⟩
  ·intro hi;have:=h1 i (by simpa using hi.1);simpa using this
 ·exact qcW l h3
 ·have hn:=qcW l h3;have:∀(n:Nat) (l:List Nat),l.Nodup→(∀x∈l,x<n)→l.length≤n:=by
   intro n;induction n with
   | zero=>intro l _ h;cases l with
    | nil=>exact Nat.le_refl _
    | cons x l=>exact absurd (h x (by simp)) (by omega)
   | succ n ih =>
    intro l hn h;have h1:=ih (l.erase n) (hn.erase n) fun x hx=>by have h2:=(List.Nodup.mem_erase_iff hn).1 hx;have:=h x h2.2;omega
    by_cases hm:n∈l
    ·rw[List.length_erase_of_mem hm]at h1;omega
    ·rw[List.erase_of_not_mem hm]at h1;omega
  exact this _ _ hn h2
 ·exact(Ym.trans (Env.le.refl E) (fun _ _=>rfl) hA).mono hR
theorem Qm.cut(hm:P.follows .mixedOrders=true){id:Nat}{st:St}{Q:St→Prop}(l:List Nat)(hc:qaj ops (bsM ops)=true)(hl:qsk ops l=true)(h:Yp P ops (bsM ops) [] l st Q):Qm P id ops st Q:=Qm.qrN hm l hc hl h
def qgP(ops:Array Oper)(bs:List (List Nat)):List (Nat×Cls)→List Nat→List Cls→Bool
 | cx,i::l,c::cs=>(match ops[i]? with
  | none=>false
  | some o=>cx.all fun q=>(bs.getD i []).contains q.1||match ops[q.1]? with|some p=>Ys ops p o&&Kj q.2 c|none=>false)&&qgP ops bs ((i,c)::cx) l cs
 | _,[],[]=>true
 | _,_,_=>false
def qkZ:List (Nat×Cls)→List Nat→List Cls→List (Nat×Cls)
 | cx,i::l,c::cs=>qkZ ((i,c)::cx) l cs
 | cx,_,_=>cx
def qbZ(ops:Array Oper)(l:List Nat):List Oper:=l.filterMap fun i=>ops[i]?
theorem Yp.seg{l2:List Nat}{R:St→Prop}{e:St}:∀(l1:List Nat) (cl:List Cls) (cx:List (Nat×Cls)) (st:St),qgP ops bs cx l1 cl=true→K5 P ops ((qbZ ops l1).zip cl) st e→Yp P ops bs (qkZ cx l1 cl) l2 e R→Yp P ops bs cx (l1++l2) st R:=by
 intro l1;induction l1 with
 | nil =>
  intro cl cx st hs h hr;cases cl with
  | cons c cs=>cases hs
  | nil=>simp only[qbZ,List.filterMap_nil,List.zip_nil_left]at h;cases h;exact hr
 | cons i l1 ih =>
  intro cl cx st hs h hr;cases cl with
  | nil=>cases hs
  | cons c cs =>
   simp only[qgP,Bool.and_eq_true]at hs;obtain⟨h1,h2⟩:=hs;cases ho:ops[i]? with
   | none=>rw[ho]at h1;cases h1
   | some o =>
    rw[ho]at h1;simp only[List.all_eq_true,Bool.or_eq_true]at h1;simp only[qbZ,List.filterMap_cons,ho,List.zip_cons_cons]at h;cases h with
    | cons _ _ _ _ _ u H' N' hE hd hk =>
    refine .det ho (fun q hq=>?_) hE hd (ih cs _ _ h2 hk hr);rcases h1 q hq with h3|h3
    ·exact .inl (by simpa using h3)
    ·right;cases hp:ops[q.1]? with
     | none=>rw[hp]at h3;cases h3
     | some p=>rw[hp]at h3;simp only[Bool.and_eq_true]at h3;exact⟨p,rfl,h3.1,h3.2⟩
def sgK(P:Program)(ops:Array Oper)(bs:List (List Nat))(cx:List (Nat×Cls))(l1 l2:List Nat)(R:St→Prop)(cs:List Cls)(e:St):Prop:=qgP ops bs cx l1 cs.reverse=true∧Yp P ops bs (qkZ cx l1 cs.reverse) l2 e R
theorem sgK.mk{cx:List (Nat×Cls)}{l1 l2:List Nat}{R:St→Prop}{cs:List Cls}{e:St}(h:qgP ops bs cx l1 cs.reverse=true)(k:Yp P ops bs (qkZ cx l1 cs.reverse) l2 e R):sgK P ops bs cx l1 l2 R cs e:=⟨h,k⟩
theorem sgK.done{cx:List (Nat×Cls)}{l1:List Nat}{R:St→Prop}{cs:List Cls}{e:St}(h:qgP ops bs cx l1 cs.reverse=true)(k:R e):sgK P ops bs cx l1 [] R cs e:=⟨h,.nil k⟩
theorem Yp.walk{cx:List (Nat×Cls)}{l2:List Nat}{st:St}{R:St→Prop}(lit:Nat→Bool)(l1:List Nat)(h:QT P lit ops (qbZ ops l1) (sgK P ops bs cx l1 l2 R) [] st):Yp P ops bs cx (l1++l2) st R:=by obtain⟨cl,e,h1,h2,h3⟩:=Xd _ _ _ h;simp only[List.append_nil]at h3;obtain⟨h3,h4⟩:=h3;rw[List.reverse_reverse]at h3 h4;exact Yp.seg l1 cl cx st h3 h2 h4
theorem Yp.last{cx:List (Nat×Cls)}{st:St}{R:St→Prop}(lit:Nat→Bool)(l1:List Nat)(h:QT P lit ops (qbZ ops l1) (sgK P ops bs cx l1 [] R) [] st):Yp P ops bs cx l1 st R:=by have:=Yp.walk lit l1 h;rwa[List.append_nil]at this
def qqg(ops:Array Oper)(bs:List (List Nat))(cx:List (Nat×Cls))(i:Nat)(o:Oper)(ws:List Nat)(l:List Nat):Bool :=
 (cx.all fun q=>(bs.getD i []).contains q.1||match ops[q.1]? with|some p=>Ys ops p o&&Kj q.2 (.hvy (some ws))|none=>false)&&l.all fun j=>(bs.getD j []).contains i
theorem Yp.call{cx:List (Nat×Cls)}{i:Nat}{l:List Nat}{st:St}{R:St→Prop}{d:Nat}{f:FuncId}{args:List Operand}{ts:Array TypeId}{ty:TypeId}{pos:String}{aft:Array Edge}{S:AV→Qf→Nat→Prop}(ws:List Nat)
  (ho:ops[i]?=some ⟨some d,.call ⟨.value (.func f),args.toArray,ts⟩,ty,pos,aft,none⟩) (hp:qqg ops bs cx i ⟨some d,.call ⟨.value (.func f),args.toArray,ts⟩,ty,pos,aft,none⟩ ws l=true)
  (hd:d<st.n) (h:Qc P f (args.map (ev st)) st.H st.N S) (hS:∀u H' N',S u H' N'→st.N≤N'∧∀id,id<st.N→id ∉ ws→H'.b id=st.H.b id) (hr:∀u H' N',S u H' N'→Yp P ops bs cx l ⟨st.n,upd st.env d u,H',N'⟩ R):Yp P ops bs cx (i::l) st R:=by
 simp only[qqg,Bool.and_eq_true,List.all_eq_true,Bool.or_eq_true]at hp;obtain⟨h1,h2⟩:=hp;refine .any ho (fun q hq=>?_) (fun j hj=>by simpa using h2 j hj) (S:=S) (fun st2 ha hH hN hd2=>?_) hS (fun d' hd'=>by cases hd';exact hd) fun u H' N' hs=>hr u H' N' hs
 ·rcases h1 q hq with h3|h3
  ·exact .inl (by simpa using h3)
  ·right;cases hp:ops[q.1]? with
   | none=>rw[hp]at h3;cases h3
   | some p=>rw[hp]at h3;simp only[Bool.and_eq_true]at h3;exact⟨p,rfl,h3.1,h3.2⟩
 ·have hm:∀y∈args,ev st2 y=ev st y:=fun y hy=>ha.2.1 y (by simp[Op.operands,Call.operands,hy]);obtain⟨⟨fn,body,g1,g2,g3⟩,hk⟩:=h;refine Qx.call (c:=⟨.value (.func f),args.toArray,ts⟩) (x:=.func f) (fs:=[]) (cs:=[]) (by simp[wanted]) rfl rfl (by simp[ev]) g1 g2 g3 ?_;have hargs:args.map (ev st2)=args.map (ev st):=List.map_congr_left hm;simp only[List.nil_append,List.append_nil];rw[hargs,hH,hN];refine hk.mono fun r H2 N2 hs=>?_;have hd3:d<st2.n:=by rw[ha.1];exact hd
  exact⟨⟨st2.n,upd st2.env d r,H2,N2⟩,by simp[St.put,hd3],Qx.nil ⟨r,H2,N2,hs,rfl⟩⟩
def qqf(ops:Array Oper)(bs:List (List Nat))(cx:List (Nat×Cls))(i:Nat)(o:Oper)(l:List Nat):Bool :=
 (cx.all fun q=>(bs.getD i []).contains q.1||match ops[q.1]? with|some p=>Ys ops p o&&Kj q.2 .flo|none=>false)&&l.all fun j=>(bs.getD j []).contains i
theorem Yp.qsn{cx:List (Nat×Cls)}{i:Nat}{l:List Nat}{st:St}{R:St→Prop}{d:Nat}{f:FuncId}{args:List Operand}{ts:Array TypeId}{ty:TypeId}{pos:String}{aft:Array Edge}{S:AV→Prop}
  (ho:ops[i]?=some ⟨some d,.call ⟨.value (.func f),args.toArray,ts⟩,ty,pos,aft,none⟩) (hp:qqf ops bs cx i ⟨some d,.call ⟨.value (.func f),args.toArray,ts⟩,ty,pos,aft,none⟩ l=true)
  (hd:d<st.n) (h:∀H N,Qc P f (args.map (ev st)) H N fun r H' N'=>S r∧H'=H∧N'=N) (hr:∀u,S u→Yp P ops bs cx l ⟨st.n,upd st.env d u,st.H,st.N⟩ R):Yp P ops bs cx (i::l) st R:=by
 simp only[qqf,Bool.and_eq_true,List.all_eq_true,Bool.or_eq_true]at hp;obtain⟨h1,h2⟩:=hp;refine .anp ho (fun q hq=>?_) (fun j hj=>by simpa using h2 j hj) (S:=S) (fun H N st2 ha hH hN hd2=>?_) (fun d' hd'=>by cases hd';exact hd) fun u hs=>hr u hs
 ·rcases h1 q hq with h3|h3
  ·exact .inl (by simpa using h3)
  ·right;cases hp:ops[q.1]? with
   | none=>rw[hp]at h3;cases h3
   | some p=>rw[hp]at h3;simp only[Bool.and_eq_true]at h3;exact⟨p,rfl,h3.1,h3.2⟩
 ·have hm:∀y∈args,ev st2 y=ev st y:=fun y hy=>ha.2.1 y (by simp[Op.operands,Call.operands,hy]);obtain⟨⟨fn,body,g1,g2,g3⟩,hk⟩:=h H N;refine Qx.call (c:=⟨.value (.func f),args.toArray,ts⟩) (x:=.func f) (fs:=[]) (cs:=[]) (by simp[wanted]) rfl rfl (by simp[ev]) g1 g2 g3 ?_;have hargs:args.map (ev st2)=args.map (ev st):=List.map_congr_left hm;simp only[List.nil_append,List.append_nil];rw[hargs,hH,hN];refine hk.mono fun r H2 N2 hs=>?_;have hd3:d<st2.n:=by rw[ha.1];exact hd
  exact⟨⟨st2.n,upd st2.env d r,H2,N2⟩,by simp[St.put,hd3],Qx.nil ⟨r,H2,N2,hs,rfl⟩⟩
end
section
variable{P:Program}{E:Env}{B:Nat}{w0 w:World}{H:Qf}
def noRoom(ty:TypeId)(sz:Nat):Blk:=⟨ty,sz,[],false,some 0⟩
def Env.room(E:Env):Env:={ E with η:=fun i=>if i=E.N then 0 else E.η i,κ:=fun i=>if i=E.N then 0 else E.κ i,N:=E.N+1 }
theorem Env.room_le(E:Env):E.le E.room:=⟨Nat.le_succ _,fun i hi=>by simp[Env.room,Nat.ne_of_lt hi],fun i hi=>by simp[Env.room,Nat.ne_of_lt hi],fun c hc=>hc,rfl,fun c hc=>hc,rfl⟩
theorem Zm.room(h:Zm E B w0 H w)(ty:TypeId)(sz:Nat):Zm E.room B w0 (H.set E.N (noRoom ty sz)) w:=by
 have hle:=E.room_le;have hkp:QD E w w:=QD.refl E w;have hob:=h.objs (L:=(H.set E.N (noRoom ty sz)).L) hle (fun c hc=>hc) hkp (fun c q hq _=>rfl) (fun c hc=>.inl hc) (fun _ _ h=>h);have hc:∀id b,(H.set E.N (noRoom ty sz)) id=some b→(id=E.N∧b=noRoom ty sz)∨(id≠E.N∧H id=some b):=fun id b hb=>by
  by_cases hi:id=E.N
  ·subst hi;simp only[Qf.set,if_true,Option.some.injEq]at hb;exact .inl ⟨rfl,hb.symm⟩
  ·simp only[Qf.set,if_neg hi]at hb;exact .inr ⟨hi,hb⟩
 have hr:∀id b,(H.set E.N (noRoom ty sz)) id=some b→b.cap≠some 0→id≠E.N∧H id=some b:=fun id b hb hc0=>by
  rcases hc id b hb with⟨_,rfl⟩|h
  ·exact(hc0 rfl).elim
  ·exact h
 have hη:∀id,id≠E.N→E.room.η id=E.η id:=fun id hi=>by simp[Env.room,hi]
 have hκ:∀id,id≠E.N→E.room.κ id=E.κ id:=fun id hi=>by simp[Env.room,hi]
 refine⟨fun id b hb=>?_,fun id b hb hc0=>?_,fun id b hb hc0=>?_,fun id id' b b' h1 h2 z1 z2 he=>?_,fun id b hb hc0 hf=>?_,fun id b hb hc0 hf=>?_,h.slt,h.so,h.bas,h.bel,hob.1,hob.2.1,hob.2.2.1,hob.2.2.2.1,hob.2.2.2.2⟩
 ·rcases hc id b hb with⟨rfl,_⟩|⟨_,h'⟩
  ·exact Nat.lt_succ_self _
  ·exact Nat.lt_succ_of_lt (h.lt id b h')
 ·rcases hc id b hb with⟨rfl,rfl⟩|⟨hi,h'⟩
  ·exact⟨by simp[Env.room],rfl⟩
  ·rw[hκ id hi];exact h.gst id b h' hc0
 ·obtain⟨hi,h'⟩:=hr id b hb hc0;obtain⟨cur,z,q1,q2,q3,q4,q5,q6,q7,q8,q9⟩:=h.blk id b h' hc0;rw[hη id hi,hκ id hi];exact⟨cur,z,q1,q2,q3,q4,q5,q6,q7,q8,fun i j x hx=>(q9 i j x hx).mono hle hkp⟩
 ·obtain⟨hi,h1'⟩:=hr id b h1 z1;obtain⟨hj,h2'⟩:=hr id' b' h2 z2;rw[hη id hi,hη id' hj]at he;exact h.inj id id' b b' h1' h2' z1 z2 he
 ·obtain⟨hi,h'⟩:=hr id b hb hc0;rw[hη id hi];exact h.mu id b h' hc0 hf
 ·obtain⟨hi,h'⟩:=hr id b hb hc0;rw[hη id hi];exact h.frz id b h' hc0 hf
theorem YQ.room(st:St)(ty:TypeId)(sz:Nat):YQ st ⟨st.n,st.env,st.H.set st.N (noRoom ty sz),st.N+1⟩:=fun E B w0 a w hr=>by refine⟨E.room,E.room_le,?_⟩;have:=hr.le (H':=st.H.set E.N (noRoom ty sz)) (N':=E.N+1) E.room_le (QD.refl E w) (hr.h.room ty sz) rfl;rw[hr.N]at this;exact this
def Nl(H:Qf)(x x':AV):Prop:=x'=x∨((x=.v (.slice none 0 0)∨x=.rc [])∧∃id sz b,x'=.ref id sz 0 0 none∧H id=some b∧b.cap=some 0)
theorem Nl.den(h:Zm E B w0 H w){x x':AV}{y:Value}(hn:Nl H x x')(hd:Den E w x y):Den E w x' y:=by
 rcases hn with rfl|⟨hx,id,sz,b,rfl,hb,hc⟩
 ·exact hd
 ·have hk:=(h.gst id b hb hc).1;have key:∀A,Den E w (.ref id sz 0 0 none) (.slice A 0 0):=fun A =>.ref id sz 0 0 none A 0 (h.lt id b hb) (by simp[hk]) (.inr rfl) (Nat.le_refl _) (fun hp=>by omega) (fun hp=>by omega)
  rcases hx with rfl|rfl
  ·cases hd;exact key none
  ·cases hd with
   | rc _ A _=>exact key A
theorem Zm.nl(h:Zm E B w0 H w){q:Nat}{b:Blk}{es':List (List AV)}(hb:H q=some b)(hl:es'.length=b.es.length)(hs:Zp b.sz es'=true)(he:∀i j x',QZ es' i j=some x'→∃x,QZ b.es i j=some x∧Nl H x x'):Zm E B w0 (H.set q { b with es:=es' }) w:=by
 have hc:∀id b',(H.set q { b with es:=es' }) id=some b'→(id=q∧b'={ b with es:=es' })∨(id≠q∧H id=some b'):=fun id b' hb'=>by
  by_cases hi:id=q
  ·subst hi;simp only[Qf.set,if_true,Option.some.injEq]at hb';exact .inl ⟨rfl,hb'.symm⟩
  ·simp only[Qf.set,if_neg hi]at hb';exact .inr ⟨hi,hb'⟩
 have hr:∀id b',(H.set q { b with es:=es' }) id=some b'→∃b0,H id=some b0∧b0.cap=b'.cap∧b0.fz=b'.fz:=fun id b' hb'=>by
  rcases hc id b' hb' with⟨rfl,rfl⟩|⟨_,h'⟩
  ·exact⟨b,hb,rfl,rfl⟩
  ·exact⟨b',h',rfl,rfl⟩
 refine⟨fun id b' hb'=>?_,fun id b' hb' hc0=>?_,fun id b' hb' hc0=>?_,fun id id' b1 b2 h1 h2 z1 z2 he=>?_,fun id b' hb' hc0 hf=>?_,fun id b' hb' hc0 hf=>?_,h.slt,h.so,h.bas,h.bel,h.obj,h.dfr,h.dfb,h.zdd,h.oin⟩
 ·obtain⟨b0,h0,_⟩:=hr id b' hb';exact h.lt id b0 h0
 ·rcases hc id b' hb' with⟨rfl,rfl⟩|⟨_,h'⟩
  ·obtain⟨g1,g2⟩:=h.gst id b hb hc0;exact⟨g1,List.eq_nil_of_length_eq_zero (by show es'.length=0;rw[hl,g2];rfl)⟩
  ·exact h.gst id b' h' hc0
 ·rcases hc id b' hb' with⟨rfl,rfl⟩|⟨_,h'⟩
  ·obtain⟨cur,z,q1,q2,q3,q4,q5,q6,q7,q8,q9⟩:=h.blk id b hb hc0;refine⟨cur,z,q1,q2,by show es'.length≤_;rw[hl];exact q3,q4,q5,fun e hm=>by simpa using List.all_eq_true.1 hs e hm,q7,fun i j x' hx=>?_,fun i j x' hx=>?_⟩
   ·obtain⟨x,hx0,_⟩:=he i j x' hx;exact q8 i j x hx0
   ·obtain⟨x,hx0,hn⟩:=he i j x' hx;exact hn.den h (q9 i j x hx0)
  ·exact h.blk id b' h' hc0
 ·obtain⟨b3,g1,g2,_⟩:=hr id b1 h1;obtain⟨b4,g3,g4,_⟩:=hr id' b2 h2;exact h.inj id id' b3 b4 g1 g3 (by rw[g2];exact z1) (by rw[g4];exact z2) he
 ·obtain⟨b0,h0,h1,h2⟩:=hr id b' hb';exact h.mu id b0 h0 (by rw[h1];exact hc0) (by rw[h2];exact hf)
 ·obtain⟨b0,h0,h1,h2⟩:=hr id b' hb';exact h.frz id b0 h0 (by rw[h1];exact hc0) (by rw[h2];exact hf)
theorem YQ.nl{st:St}{q:Nat}{b:Blk}{es':List (List AV)}(hb:st.H q=some b)(hl:es'.length=b.es.length)(hs:Zp b.sz es'=true)(he:∀i j x',QZ es' i j=some x'→∃x,QZ b.es i j=some x∧Nl st.H x x') :
  YQ st ⟨st.n,st.env,st.H.set q { b with es:=es' },st.N⟩:=fun E B w0 a w hr=>by
 refine⟨E,Env.le.refl E,?_⟩;exact hr.le (Env.le.refl E) (QD.refl E w) (hr.h.nl hb hl hs he) hr.N
theorem YQ.trans{a b c:St}(h:YQ a b)(k:YQ b c):YQ a c:=fun E B w0 x w hr=>by obtain⟨E1,h1,h2⟩:=h E B w0 x w hr;obtain⟨E2,h3,h4⟩:=k E1 B w0 x w h2;exact⟨E2,h1.trans h3,h4⟩
theorem YQ.nls{st:St}{d:Nat}{x':AV}(h:Nl st.H (st.env d) x'):YQ st ⟨st.n,upd st.env d x',st.H,st.N⟩:=fun E B w0 a w hr=>by
 refine⟨E,Env.le.refl E,hr.d,hr.n,fun i=>?_,hr.h,hr.N⟩;simp only[upd];split
 ·rename_i hi;subst hi;exact h.den hr.h (hr.t i)
 ·exact hr.t i
theorem qld{t e:TypeId}(hu:P.underlying t=some (.slice e))(A:Option Addr)(c:Nat)(d:Nat):(Op.equalIn (d+1+1) t (.slice A 0 c) (.slice none 0 0)).run P w=.ok A.isNone w:=by generalize d+1=m;cases A<;>simp[Op.equalIn,run_underlying hu]
theorem Qx.qqT{ops:Array Oper}{l:List Oper}{st:St}{Q:St→Prop}{x y:Operand}{d:Nat}{t t2 ty e:TypeId}{pos:String}{aft:Array Edge}(hu:P.underlying t=some (.slice e))(hx:ev st x=.ro [])(hy:ev st y=.v (.slice none 0 0))(hd:d<st.n)
  (h:∀b:Bool,Qx P ops l ⟨st.n,upd st.env d (.v (.bool b)),st.H,st.N⟩ Q):Qx P ops (⟨some d,.binOp .eql t x y t2,ty,pos,aft,none⟩::l) st Q:=fun ρ E B w0 a w hr R hR=>by
 have hdx:=hr.ev x;have hdy:=hr.ev y;rw[hx]at hdx;rw[hy]at hdy;generalize hq:a.eval x=q at hdx;generalize hq2:a.eval y=q2 at hdy;cases hdy;cases hdx with
 | ro _ A c sz z hc hm hs hA hh =>
 have he:(Op.equal t (.slice A 0 c) (.slice none 0 0)).run P w=.ok A.isNone w:=qld hu A c 9998;have hrun:(execOp a.eval ⟨some d,.binOp .eql t x y t2,ty,pos,aft,none⟩).run P w=.ok (.value (.bool A.isNone)) w:=by cases A<;>simp[execOp,hq,hq2,eqGuard,binOp,he]
 unfold wpListIn;rw[if_pos (Y5 hr (by simp[wanted]))];exact YP hrun (fun d=>by simp) (h A.isNone ρ E B w0 _ w (hr.put (.v _) (by simp[St.put,hd])) R fun a' w2 hA=>hR a' w2 (hA.trans (Env.le.refl E) (QD.refl E w)))
end
theorem Qw.ofBytes{P:Program}{st:St}{o:Oper}{s t e:TypeId}{x:Operand}{id:Nat}{mx:Option Nat}{b:Blk}{l:List UInt8}(ho:o.op=.convert s t x)(hs:Wn P s=some e)(ht:P.underlying t=some .string)(hx:ev st x=.ref id 1 0 l.length mx)
  (hb:st.H id=some b) (hz:b.sz=1) (h0:0<l.length) (he:∀j (hj:j<l.length),QZ b.es j 0=some (.v (.int .u8 l[j].toNat))):Qw P st o (.v (.string ⟨l.toArray⟩)) st:=fun E B w0 a w hr=>by
 obtain⟨s1,s2⟩:=Kx hs;have hdx:=hr.ev x;rw[hx]at hdx;generalize hq:a.eval x=q at hdx;cases hdx with
 | ref _ _ _ _ _ A c hid hc hle hlen hA hsome =>
  have hA':=hA (.inl (by omega));subst hA';have hlb:0<b.es.length:=by
   have:=he 0 h0;unfold QZ at this;cases hb0:b.es with
   | nil=>rw[hb0]at this;simp at this
   | cons _ _=>simp
  have hr0:=hr.h.real hb hlb;obtain⟨cur,z,q1,q2,q3,q4,q5,q6,q7,q8,q9⟩:=hr.h.blk id b hb hr0;have hrun:=run_convert_bytes_back (P:=P) w s t e ⟨E.η id,0*1,none⟩ c l s1 s2 ht (fun j hj=>by have hg:=he j hj;have h8:=q8 j 0 _ hg;have h9:=q9 j 0 _ hg;rw[hz,Nat.mul_one,Nat.add_zero]at h8;rw[Zn,Nat.zero_mul,Nat.zero_add,cell_of_row w _ _ cur b.ty (0,0) q1,h8];generalize z j 0=y at h9;cases h9;rfl)
  refine⟨.string ⟨l.toArray⟩,w,E,?_,Env.le.refl E,QD.refl E w,hr,.v _⟩;simp only[execOp,ho,hq,Sem.run_bind,hrun,Result.andThen_ok,Sem.run_pure]
def Y6(P:Program)(f:FuncId)(args:List AV)(Q:AV→Prop):Prop:=Qc P f args QQ 0 fun r _ _=>Q r
theorem Y6.frame{P:Program}{f:FuncId}{args:List AV}{Q:AV→Prop}{H:Qf}{N k:Nat}(h:Y6 P f args Q)(ha:args.all (Qu k)=true)(hr:∀r,Q r→Qu k r=true):Qc P f args H N fun r' H' N'=>Q r'∧H'=H∧N'=N:=by
 refine⟨h.1,fun E B w0 w args' hH hN hl hd=>?_⟩;have ha':∀x∈args,Qu k x=true:=by simpa[List.all_eq_true]using ha
 refine(h.2 (E.bs E.S) w.heap.size w w args' (hH.base E.S hH.slt) rfl hl (fun j u hu=>Den.data (E:=E) (E':=(E.bs E.S)) (fun c hc=>hc) k (ha' u (List.mem_of_getElem? hu)) (hd j u hu))).mono ?_;rintro e w' ⟨v,E',r',H',N',g1,g2,g3,g4,g5,g6,hq⟩;have hZ:E'.Z=E.S:=g2.Z;obtain⟨q1,q2,q3⟩:=hH.back E.S (fun c hc=>hc) g4 g2 E'.S (fun c hc=>by
  rcases g4.so c hc with h1|h1
  ·rw[hZ]at h1;exact .inl h1
  ·exact .inr ⟨hc,by omega⟩) (fun c hc=>g2.S c hc) (fun c hc=>g3 c hc)
 exact⟨v,_,r',H,N,g1,q1,q2,q3,hN,Den.data (E:=E') (E':=(E.wS E'.S)) (fun c hc=>hc) k (hr _ hq) g6,hq,rfl,rfl⟩
theorem Y6.call{P:Program}{f:FuncId}{args:List AV}{Q:AV→Prop}{H:Qf}{N k:Nat}{R:AV→Qf→Nat→Prop}(h:Y6 P f args Q)(ha:args.all (Qu k)=true)(hr:∀r,Q r→Qu k r=true)(hk:∀r,Q r→R r H N):Qc P f args H N R :=
 (h.frame ha hr).mono fun r H' N' ⟨q,a,b⟩=>by subst a b;exact hk r q
theorem qnC{P:Program}{t e sz:Nat}{st:St}{id m:Nat}{es tl:List (List AV)}{cap:Option Nat}{x:AV}{c:List AV}(hu:P.underlying t=some (.slice e))(ht:ZQ P e=true)(hz:zlen P e=true)(hsz:P.cellsOf e=sz)(hpos:0<sz)(hby:P.bytesOf e≤1000)(hm:m=es.length)
  (hc:c.length=sz) (h1:c.all AV.one=true) (hb:st.H.b id=some ⟨e,sz,es++tl,false,cap⟩) (he:QA st.H x=some [c]) (hl:es.length≤1000000) :
  aappend P st t (.ref id sz 0 m none) x=some (.ref st.N sz 0 (m+1) none,⟨st.n,st.env,(st.H.kill id).set st.N ⟨e,sz,es++[c],false,none⟩,st.N+1⟩):=by
 subst hm;unfold aappend;rw[hu];simp only[he];rw[if_pos ⟨ht,hz,by omega,by simp[Zp,hc,hsz],by simpa[Zb]using h1⟩];rw[hb];simp only[hsz,List.length_append,List.length_cons,List.length_nil];have hk:(es.length+(0+1))*P.bytesOf e≤1000001*1000:=Nat.mul_le_mul (by omega) hby;rw[if_pos ⟨trivial,trivial,trivial,by omega,by omega,by simp only[maxLen];omega⟩];simp only[Qs,hsz];congr 4;rw[List.take_append_of_le_length (Nat.le_refl _),List.take_of_length_le (Nat.le_refl _)]
theorem Yc.qrv{P:Program}{e t:TypeId}{H:Qf}{lo N sz:Nat}{x:AV}{es:List (List AV)}{c:List AV}(h:Yc P e H lo N x es)(hlo:lo≤N)(hu:P.underlying t=some (.slice e))(ht:ZQ P e=true)(hz:zlen P e=true)(hsz:P.cellsOf e=sz)(hpos:0<sz)
  (hc:c.length=sz) (h1:c.all AV.one=true) (hb:(es.length+1)*P.bytesOf e≤140737488355328) (hm:es.length+1≤maxLen) :
  ∃r H2,(∀n env,aappend P ⟨n,env,H,N⟩ t x (.ro [c])=some (r,⟨n,env,H2,N+1⟩))∧Yc P e H2 lo (N+1) r (es++[c])∧(∀id,id<lo→H2 id=H id):=by
 have hel:QA H (.ro [c])=some [c]:=rfl;have hok:ZQ P e=true∧zlen P e=true∧0<P.cellsOf e∧Zp (P.cellsOf e) [c]=true∧Zb [c]=true:=⟨ht,hz,by omega,by simp[Zp,hc,hsz],by simpa[Zb]using h1⟩;rcases h with⟨rfl,rfl⟩|⟨id,cap,q1,q2,rfl,q3⟩
 ·refine⟨.ref N sz 0 1 none,Qf.set H N ⟨e,sz,[c],false,none⟩,fun n env=>?_,.inr ⟨N,none,hlo,by omega,by simp[hsz],by simp[Qf.set,hsz]⟩,fun id hid=>by simp[Qf.set,show id≠N by omega]⟩;unfold aappend;simp only[hu,hel];rw[if_pos hok];simp only[List.length_singleton];rw[if_pos (by simpa using And.intro hb hm)];simp[Qs,hsz]
 ·refine⟨.ref N sz 0 (es.length+1) none,Qf.set (Qf.kill H id) N ⟨e,sz,es++[c],false,none⟩,fun n env=>?_,.inr ⟨N,none,hlo,by omega,by simp[hsz],by simp[Qf.set,hsz]⟩,fun i hi=>by simp[Qf.set,Qf.kill,show i≠N by omega,show i≠id by omega]⟩;unfold aappend;simp only[hu,hel];rw[if_pos hok];simp only[q3,List.length_singleton];rw[if_pos ⟨trivial,trivial,trivial,Nat.le_refl _,by simpa using hb,hm⟩];simp[Qs,hsz]
theorem Yc.other{P:Program}{e:TypeId}{H H':Qf}{lo hi:Nat}{x:AV}{es:List (List AV)}(h:Yc P e H lo hi x es)(hH:∀id,lo≤id→H' id=H id):Yc P e H' lo hi x es:=by
 rcases h with h|⟨id,cap,q1,q2,q3,q4⟩
 ·exact .inl h
 ·exact .inr ⟨id,cap,q1,q2,q3,(hH id q1).trans q4⟩
theorem Yc.one{P:Program}{e:TypeId}{H:Qf}{lo hi:Nat}{x:AV}{es:List (List AV)}(h:Yc P e H lo hi x es):acells x=[x]∧x.one=true∧Q0 x=[]:=by rcases h with⟨rfl,_⟩|⟨id,cap,_,_,rfl,_⟩<;>exact⟨rfl,rfl,rfl⟩
theorem Yc.qrw{P:Program}{e t:TypeId}{H:Qf}{lo N sz:Nat}{x:AV}{es:List (List AV)}{c:List AV}(h:Yc P e H lo N x es)(hlo:lo≤N)(hu:P.underlying t=some (.slice e))(ht:ZQ P e=true)(hz:zlen P e=true)(hsz:P.cellsOf e=sz)(hpos:0<sz)
  (hc:c.length=sz) (h1:c.all AV.one=true) (hb:P.bytesOf e≤1000) (hm:es.length≤1000000) :
  ∃r H2,(∀n env,aappend P ⟨n,env,H,N⟩ t x (.ro [c])=some (r,⟨n,env,H2,N+1⟩))∧Yc P e H2 lo (N+1) r (es++[c])∧H2.L=H.L∧∀id,id<N→(id<lo∨∀b,H.b id=some b→b.ty≠e)→H2.b id=H.b id:=by
 have hel:QA H (.ro [c])=some [c]:=rfl;have hok:ZQ P e=true∧zlen P e=true∧0<P.cellsOf e∧Zp (P.cellsOf e) [c]=true∧Zb [c]=true:=⟨ht,hz,by omega,by simp[Zp,hc,hsz],by simpa[Zb]using h1⟩;have hk:(es.length+1)*P.bytesOf e≤1000001*1000:=Nat.mul_le_mul (by omega) hb;rcases h with⟨rfl,rfl⟩|⟨id,cap,q1,q2,rfl,q3⟩
 ·refine⟨.ref N sz 0 1 none,Qf.set H N ⟨e,sz,[c],false,none⟩,fun n env=>?_,.inr ⟨N,none,hlo,by omega,by simp[hsz],by simp[Qf.set,hsz]⟩,rfl,fun id hid _=>by simp[Qf.set,show id≠N by omega]⟩;unfold aappend;simp only[hu,hel];rw[if_pos hok];simp only[List.length_singleton];rw[if_pos (by simp only[List.length_nil]at hk;exact⟨by omega,by simp[maxLen]⟩)];simp[Qs,hsz]
 ·refine⟨.ref N sz 0 (es.length+1) none,Qf.set (Qf.kill H id) N ⟨e,sz,es++[c],false,none⟩,fun n env=>?_,.inr ⟨N,none,hlo,by omega,by simp[hsz],by simp[Qf.set,hsz]⟩,rfl,fun i hi ho=>?_⟩
  ·unfold aappend;simp only[hu,hel];rw[if_pos hok];simp only[q3,List.length_singleton];rw[if_pos ⟨trivial,trivial,trivial,Nat.le_refl _,by omega,by simp only[maxLen];omega⟩];simp[Qs,hsz]
  ·have hne:i≠id:=by
    rintro rfl;rcases ho with h|h
    ·omega
    ·exact h _ q3 rfl
   simp[Qf.set,Qf.kill,show i≠N by omega,hne]
theorem Yc.qfu{P:Program}{e t:TypeId}{H:Qf}{lo N sz:Nat}{x:AV}{es:List (List AV)}{c:List AV}(h:Yc P e H lo N x es)(hlo:lo≤N)(hu:P.underlying t=some (.slice e))(ht:ZQ P e=true)(hz:zlen P e=true)(hsz:P.cellsOf e=sz)(hpos:0<sz)
  (hc:c.length=sz) (h1:c.all AV.one=true) (hb:P.bytesOf e≤1000) (hm:es.length≤1000000) :
  ∃r H2 N2,(∀n env,aappend P ⟨n,env,Qf.set H N ⟨e,sz,[c],false,some 1⟩,N+1⟩ t x (.ref N sz 0 1 none)=some (r,⟨n,env,H2,N2⟩))∧Yc P e H2 lo N2 r (es++[c])∧H2.L=H.L∧N<N2∧∀id,id<N→(id<lo∨∀b,H.b id=some b→b.ty≠e)→H2.b id=H.b id:=by
 have hel:QA (Qf.set H N ⟨e,sz,[c],false,some 1⟩) (.ref N sz 0 1 none)=some [c]:=by simp[QA,Qf.set]
 have hok:ZQ P e=true∧zlen P e=true∧0<P.cellsOf e∧Zp (P.cellsOf e) [c]=true∧Zb [c]=true:=⟨ht,hz,by omega,by simp[Zp,hc,hsz],by simpa[Zb]using h1⟩;have hk:(es.length+1)*P.bytesOf e≤1000001*1000:=Nat.mul_le_mul (by omega) hb;rcases h with⟨rfl,rfl⟩|⟨id,cap,q1,q2,rfl,q3⟩
 ·refine⟨.ref (N+1) sz 0 1 none,Qf.set (Qf.set H N ⟨e,sz,[c],false,some 1⟩) (N+1) ⟨e,sz,[c],false,none⟩,N+2,fun n env=>?_,.inr ⟨N+1,none,by omega,by omega,by simp[hsz],by simp[Qf.set,hsz]⟩,rfl,by omega,fun id hid _=>by simp[Qf.set,show id≠N+1 by omega,show id≠N by omega]⟩;unfold aappend;simp only[hu,hel];rw[if_pos hok];simp only[List.length_singleton];rw[if_pos (by simp only[List.length_nil]at hk;exact⟨by omega,by simp[maxLen]⟩)];simp[Qs,hsz]
 ·have hne:id≠N:=by omega
  refine⟨.ref (N+1) sz 0 (es.length+1) none,Qf.set (Qf.kill (Qf.set H N ⟨e,sz,[c],false,some 1⟩) id) (N+1) ⟨e,sz,es++[c],false,none⟩,N+2,fun n env=>?_,.inr ⟨N+1,none,by omega,by omega,by simp[hsz],by simp[Qf.set,hsz]⟩,rfl,by omega,fun i hi ho=>?_⟩
  ·unfold aappend;simp only[hu,hel];rw[if_pos hok];have hid:(Qf.set H N ⟨e,sz,[c],false,some 1⟩) id=some ⟨e,P.cellsOf e,es,false,cap⟩:=by simp[Qf.set,hne,q3]
   simp only[hid,List.length_singleton];rw[if_pos ⟨trivial,trivial,trivial,Nat.le_refl _,by omega,by simp only[maxLen];omega⟩];simp[Qs,hsz]
  ·have hni:i≠id:=by
    rintro rfl;rcases ho with h|h
    ·omega
    ·exact h _ q3 rfl
   simp[Qf.set,Qf.kill,show i≠N+1 by omega,show i≠N by omega,hni]
theorem Yc.same{P:Program}{e:TypeId}{H H':Qf}{lo hi hi':Nat}{x:AV}{es:List (List AV)}(h:Yc P e H lo hi x es)(hh:hi≤hi')(hH:∀id b,lo≤id→id<hi→H.b id=some b→b.ty=e→H'.b id=H.b id):Yc P e H' lo hi' x es:=by
 rcases h with h|⟨id,cap,q1,q2,q3,q4⟩
 ·exact .inl h
 ·exact .inr ⟨id,cap,q1,by omega,q3,(hH id _ q1 q2 q4 rfl).trans q4⟩
theorem YQ.frzs{st:St}{d:Nat}{x':AV}(F:Nat→Prop)[DecidablePred F](hf:Frz st.H F (fun _=>True) (st.env d) x'):YQ st ⟨st.n,upd st.env d x',st.H.fr F,st.N⟩:=fun E B w0 a w hr=>by
 obtain⟨h1,h2,h3⟩:=hr.h.fr F;have h4:=hr.le h1 h2 h3 rfl;rw[hr.N]at h1 h4;refine⟨_,h1,h4.d,h4.n,fun i=>?_,h4.h,h4.N⟩;simp only[upd];split
 ·rename_i hi;subst hi;exact hf.den hr.h (fun id _ h=>by rw[←hr.N];exact h) (hr.t i)
 ·exact h4.t i
theorem Zm.cells{E E':Env}{B:Nat}{w0 w:World}{H H':Qf}(h:Zm E B w0 H w)(h':Zm E' B w0 H' w)(hη:E'.η=E.η)(hκ:E'.κ=E.κ){q:Nat}{b:Blk}{es':List (List AV)}(hb:H q=some b)(hb':H' q=some b)(hl:es'.length=b.es.length)(hs:Zp b.sz es'=true)
  (he:∀i j x',QZ es' i j=some x'→∃x,QZ b.es i j=some x∧∀y,Den E w x y→Den E' w x' y):Zm E' B w0 (H'.set q { b with es:=es' }) w:=by
 have hc:∀id b',(H'.set q { b with es:=es' }) id=some b'→(id=q∧b'={ b with es:=es' })∨(id≠q∧H' id=some b'):=fun id b' hb'=>by
  by_cases hi:id=q
  ·subst hi;simp only[Qf.set,if_true,Option.some.injEq]at hb';exact .inl ⟨rfl,hb'.symm⟩
  ·simp only[Qf.set,if_neg hi]at hb';exact .inr ⟨hi,hb'⟩
 have hr:∀id b',(H'.set q { b with es:=es' }) id=some b'→∃b0,H' id=some b0∧b0.cap=b'.cap∧b0.fz=b'.fz:=fun id b2 hb2=>by
  rcases hc id b2 hb2 with⟨rfl,rfl⟩|⟨_,h2⟩
  ·exact⟨b,hb',rfl,rfl⟩
  ·exact⟨b2,h2,rfl,rfl⟩
 refine⟨fun id b' hb'=>?_,fun id b' hb' hc0=>?_,fun id b' hb' hc0=>?_,fun id id' b1 b2 h1 h2 z1 z2 he=>?_,fun id b' hb' hc0 hf=>?_,fun id b' hb' hc0 hf=>?_,h'.slt,h'.so,h'.bas,h'.bel,h'.obj,h'.dfr,h'.dfb,h'.zdd,h'.oin⟩
 ·obtain⟨b0,h0,_⟩:=hr id b' hb';exact h'.lt id b0 h0
 ·rcases hc id b' hb' with⟨rfl,rfl⟩|⟨_,h2⟩
  ·obtain⟨g1,g2⟩:=h.gst id b hb hc0;exact⟨by rw[hκ];exact g1,List.eq_nil_of_length_eq_zero (by show es'.length=0;rw[hl,g2];rfl)⟩
  ·exact h'.gst id b' h2 hc0
 ·rcases hc id b' hb' with⟨rfl,rfl⟩|⟨_,h2⟩
  ·obtain⟨cur,z,q1,q2,q3,q4,q5,q6,q7,q8,q9⟩:=h.blk id b hb hc0;rw[hη,hκ];refine⟨cur,z,q1,q2,by show es'.length≤_;rw[hl];exact q3,q4,q5,fun e hm=>by simpa using List.all_eq_true.1 hs e hm,q7,fun i j x' hx=>?_,fun i j x' hx=>?_⟩
   ·obtain⟨x,hx0,_⟩:=he i j x' hx;exact q8 i j x hx0
   ·obtain⟨x,hx0,hn⟩:=he i j x' hx;exact hn _ (q9 i j x hx0)
  ·exact h'.blk id b' h2 hc0
 ·obtain⟨b3,g1,g2,_⟩:=hr id b1 h1;obtain⟨b4,g3,g4,_⟩:=hr id' b2 h2;exact h'.inj id id' b3 b4 g1 g3 (by rw[g2];exact z1) (by rw[g4];exact z2) he
 ·obtain⟨b0,h0,h1,h2⟩:=hr id b' hb';exact h'.mu id b0 h0 (by rw[h1];exact hc0) (by rw[h2];exact hf)
 ·obtain⟨b0,h0,h1,h2⟩:=hr id b' hb';exact h'.frz id b0 h0 (by rw[h1];exact hc0) (by rw[h2];exact hf)
theorem YQ.frzc{st:St}{q:Nat}{b:Blk}{es':List (List AV)}(F:Nat→Prop)[DecidablePred F](hb:st.H q=some b)(hF:¬F q)(hl:es'.length=b.es.length)(hs:Zp b.sz es'=true)(he:∀i j x',QZ es' i j=some x'→∃x,QZ b.es i j=some x∧Frz st.H F (fun _=>True) x x') :
  YQ st ⟨st.n,st.env,(st.H.fr F).set q { b with es:=es' },st.N⟩:=fun E B w0 a w hr=>by
 obtain⟨h1,h2,h3⟩:=hr.h.fr F;have h5:=hr.h.cells h3 rfl rfl hb (by show(st.H.fr F).b q=_;simp only[Qf.fr];have:st.H.b q=some b:=hb;rw[show st.H q=some b from hb];simp[hF]) hl hs fun i j x' hx=>by obtain⟨x,hx0,hf⟩:=he i j x' hx;exact⟨x,hx0,fun y hd=>hf.den hr.h (fun id _ h=>h) hd⟩
 have h4:=hr.le h1 h2 h5 rfl;rw[hr.N]at h1 h4;exact⟨_,h1,h4⟩
end Go.AX
namespace Go.AX.Run
open Go.RowKit Go.Proofs Go.AX Go.Num Tryz
section
attribute [local simp] Qq Qh Qk Qr QR alen qaI qaH qhi qai qgs qdw qd8 QJ Q7 at_
def dl(n:Nat):List Nat:=(dg n).reverse.map fun b=>b.toNat-48
theorem qk5{n:Nat}(h:n<10):dl n=[n]:=by simp[dl,QN h];omega
theorem qof{n:Nat}(h:10≤n):dl n=n%10::dl (n/10):=by simp[dl,JV h];omega
theorem Z9(n:Nat):(dl n).length=nd n:=by simp[dl,nd]
theorem Wf(n:Nat):∀x∈dl n,x<10:=by intro x hx;obtain⟨b,hb,rfl⟩:=List.mem_map.1 hx;have:=ZW.1 (YA n b (List.mem_reverse.1 hb));omega
theorem Jv(n:Nat):lv 10 (dl n)=n:=by
 induction n using Nat.strongRecOn with
 | _ n ih =>
  by_cases h:n<10
  ·rw[qk5 h];simp[lv]
  ·rw[qof (by omega),lv,ih _ (by omega)];omega
theorem qq4(z:Int)(i j:Nat)(h:(il z).length=i+1+j)(hj:j<nd z.natAbs):∃b:Nat,aindex prog 38 (.v (.string (bs (il z)))) (i:Int)=some (.v (.int .u8 (b:Int)))∧48≤b∧b≤57∧(dl z.natAbs)[j]'(by rw[Z9];exact hj)=b-48:=by
 have hi:i<(il z).length:=by omega
 have hd:nd z.natAbs-1-j<(dg z.natAbs).length:=by have:nd z.natAbs=(dg z.natAbs).length:=rfl;omega
 have hl:=Z3 z;have key:(il z)[i]=(dg z.natAbs)[nd z.natAbs-1-j]:=by
  by_cases hz:z<0
  ·rw[if_pos hz]at hl;have e:il z=45::dg z.natAbs:=by rw[il,if_pos hz]
   have hk:i=(nd z.natAbs-1-j)+1:=by omega
   simp only[e,hk,List.getElem_cons_succ]
  ·rw[if_neg hz]at hl;have e:il z=dg z.natAbs:=by rw[il,if_neg hz]
   have hk:i=nd z.natAbs-1-j:=by omega
   simp only[e,hk]
 have hb:=ZW.1 (YA z.natAbs _ (List.getElem_mem hd));refine⟨(il z)[i].toNat,Xp z i hi,by rw[key];exact hb.1,by rw[key];exact hb.2,?_⟩;rw[key];simp[dl,nd]
theorem qcg(i:Int):Qz prog 82 1 [(0,.v (.int .i64 i))]=some (3,[[.v (.int .i64 i)]]):=by kernel_rfl
theorem qlR{H:Qf}{N:Nat}{x:AV}{l:List Nat}(ho:Yc prog 3 H 0 N x (nl l))(v:Nat)(hl:l.length≤1000000):∃r H2 N2,(∀n env,aappend prog ⟨n,env,H.set N ⟨3,1,[[.v (.int .i64 (v:Int))]],false,some 1⟩,N+1⟩ 82 x (.ref N 1 0 1 none)=some (r,⟨n,env,H2,N2⟩))∧Yc prog 3 H2 0 N2 r (nl (l++[v])):=by obtain⟨r,H2,N2,h1,h2,_,_⟩:=Yc.push (t:=82) (c:=[.v (.int .i64 (v:Int))]) ho (Nat.zero_le _) qai qaI qd8 qaH (by omega) rfl rfl (by rw[QJ,qdw];omega) (by rw[QJ];simp only[maxLen];omega) (fun q hq=>by obtain⟨x,_,rfl⟩:=List.mem_map.1 hq;rfl);exact⟨r,H2,N2,h1,by simpa[nl]using h2⟩
theorem Jh(z:Int)(hz:nd z.natAbs≤1000000):Qg prog 53 [zs z] (.ro (nl (dl z.natAbs))):=by
 refine Qg.body func53 ntmps53 ?_;have hl:=Z3 z;have hp:=YC z.natAbs;have hll:(il z).length≤1000001:=by rw[hl];split<;>omega
 have w0:IntKind.i64.wrap (((il z).length:Int)-1)=((il z).length:Int)-1:=Ql (by omega) (by omega);simp[zs,str,Num.QB,w0];refine Qp.of (fun(j:Nat) st=>j≤nd z.natAbs∧∃env H N,st=⟨27,env,H,N⟩∧env 0=zs z∧env 4=.v (.int .i64 (((il z).length:Int)-1-(j:Int)))∧Yc prog 3 H 0 N (env 3) (nl ((dl z.natAbs).take j))) (fun j=>nd z.natAbs-j) 0
  ⟨by omega,_,_,_,rfl,rfl,by simp,.inl ⟨rfl,rfl⟩⟩ ?_
 rintro j _ ⟨hj,env,H,N,rfl,g0,g4,ho⟩;by_cases hjN:j<nd z.natAbs
 ·obtain⟨i,hi⟩:∃i,(il z).length=i+1+j:=⟨(il z).length-1-j,by rw[hl];split<;>omega⟩;obtain⟨b,h1,h2,h3,h4⟩:=qq4 z i j hi hjN;have e4:((il z).length:Int)-1-(j:Int)=(i:Int):=by omega
  rw[e4]at g4;have hb3:¬(b:Int)=45:=by omega
  have hb4:¬b=45:=by omega
  have w2:IntKind.u8.wrap ((b:Int)-48)=((b-48:Nat):Int):=by rw[wrap_u8 (by omega) (by omega)];omega
  have w3:IntKind.i64.wrap ((b-48:Nat):Int)=((b-48:Nat):Int):=wrapn (by omega);have w4:IntKind.i64.wrap ((i:Int)-1)=(i:Int)-1:=Ql (by omega) (by omega);have hjl:j<(dl z.natAbs).length:=by rw[Z9];exact hjN
  obtain⟨r,H2,N2,hr,ho2⟩:=qlR ho (b-48) (by simp;omega);simp[-Int.natCast_add,g0,g4,zs,str,h1,hb3,w2,w3,w4,qdW,qcg,Qs,hr];refine⟨j+1,⟨by omega,_,_,_,⟨rfl,rfl,rfl⟩,by simpa[zs,str]using g0,?_,?_⟩,by omega⟩
  ·simp;omega
  ·rw[List.take_succ_eq_append_getElem hjl,h4];simpa using ho2
 ·have hjE:j=nd z.natAbs:=by omega
  subst hjE;rw[List.take_of_length_le (by rw[Z9];exact Nat.le_refl _)]at ho;by_cases hz0:z<0
  ·rw[if_pos hz0]at hl;have e4:((il z).length:Int)-1-(nd z.natAbs:Int)=0:=by omega
   rw[e4]at g4;have hix:aindex prog 38 (.v (.string (bs (il z)))) 0=some (.v (.int .u8 45)):=by
    have:=Xp z 0 (by omega);have e:(il z)[0]'(by omega)=45:=by simp[il,hz0]
    rw[e]at this;exact this
   simp[g0,g4,zs,str,hix];exact ho.frz (fun _ _ _=>trivial) KC
  ·rw[if_neg hz0]at hl;have e4:((il z).length:Int)-1-(nd z.natAbs:Int) = -1:=by omega
   rw[e4]at g4;simp[g0,g4,zs,str,undef,-Qa,-Qb];exact ho.frz (fun _ _ _=>trivial) KC
theorem qh2(xs:List Nat)(hx:xs.length≤1000000000):Qg prog 83 [.ro (nl xs)] (.ro (nl (xs.take (WJ xs xs.length)))):=by
 refine Qg.body func83 ntmps83 ?_;simp;refine Qp.of (fun(n:Nat) st=>n≤xs.length∧WJ xs xs.length=WJ xs n∧∃env,st=⟨21,env,QQ,0⟩∧env 0=.ro (nl xs)∧env 3=.v (.int .i64 (n:Nat))) (fun n=>n) xs.length ⟨Nat.le_refl _,rfl,_,rfl,rfl,rfl⟩ ?_;rintro n _ ⟨hn,hc,env,rfl,h0,h3⟩;have hsl:∀m,m≤xs.length→aslice prog 82 (.ro (nl xs)) none (some (.v (.int .i64 (m:Int))))=some (.ro (nl (xs.take m))):=fun m hm=>by rw[Xt (e:=3) (l:=0) (h:=m) qai qaI (by intro c hc;simp[nl]at hc;obtain⟨_,_,rfl⟩:=hc;rfl) (V5 rfl (by rw[QJ];omega))];simp[Jy]
 cases n with
 | zero =>have h:=hsl 0 (by omega);simp only[Int.natCast_zero]at h h3;simp[h0,h3,hc,WJ,h,undef,-Qa,-Qb];exact .dat _ 9 (Qo _)
 | succ n =>
  have e1:IntKind.i64.wrap (((n+1:Nat):Int)-1)=n:=by rw[Ql (by omega) (by omega)];omega
  have e2:(0:Int)<((n+1:Nat):Int):=by omega
  have hn':n<xs.length:=by omega
  by_cases hz:xs[n]=0
  ·simp[-Int.natCast_add,h0,h3,e1,hz,hn',aload];exact⟨n,⟨by omega,by rw[hc];simp only[WJ];rw[if_pos (by simp[hn',hz])],rfl⟩,by omega⟩
  ·have hz':¬((xs[n]:Nat):Int)=0:=by omega
   have h:=hsl (n+1) hn;simp[-Int.natCast_add,h0,h3,e1,hz,hn',h,hc,WJ,aload];exact .dat _ 9 (Qo _)
theorem JT(xs:List Nat)(hx:xs.length≤1000000000):Qg prog 83 [.ro (nl xs)] (.ro (nl (cutz xs))):=by have:=qh2 xs hx;rwa[JM xs _ (Nat.le_refl _),List.take_length]at this
end
section
attribute [local simp] Qq Qh Qk Qr QR alen qaI qaH qhi qai qgs qdw qd8 QJ Q7 at_
theorem qdH(xs:List Nat)(i:Nat):Qg prog 155 [.ro (nl xs),.v (.int .i64 (i:Nat))] (.v (.int .i64 (xs.getD i 0:Nat))):=by
 refine Qg.body func155 ntmps155 ?_;by_cases h:i<xs.length
 ·simp[h,aload];exact .dat _ 9 rfl
 ·simp[h];exact .dat _ 9 rfl
theorem VF{B:Nat}(z:List Nat)(i:Nat):lv B (z.take (i+1))=lv B (z.take i)+B^i*z.getD i 0:=by
 by_cases h:i<z.length
 ·rw[Yi z i h];simp[h]
 ·rw[List.take_of_length_le (by omega),List.take_of_length_le (by omega)];simp[h]
theorem qre{l:List Nat}{n:Nat}(h:∀x∈l,x<10)(hn:l.length≤n):lv 10 l<10^n:=Nat.lt_of_lt_of_le (Wq l h) (Nat.pow_le_pow_right (by omega) hn)
theorem Vz{l:List Nat}(h:∀x∈l,x<10)(i:Nat):l.getD i 0<10:=by
 by_cases hi:i<l.length
 ·rw[List.getD_eq_getElem?_getD,List.getElem?_eq_getElem hi];exact h _ (List.getElem_mem hi)
 ·simp[hi]
theorem qaY{l:List Nat}(h:∀x∈l,x<10){v:Nat}(hv:v<10):∀x∈l++[v],x<10:=fun x hx=>by
 rcases List.mem_append.1 hx with h1|h1
 ·exact h x h1
 ·simp at h1;omega
theorem qtw(s:Nat):((s:Nat):Int).tmod 10=((s%10:Nat):Int):=rfl
theorem qtj(s:Nat):((s:Nat):Int)/10=((s/10:Nat):Int):=rfl
def plI(x y:List Nat)(i:Nat)(st:St):Prop:=i≤max x.length y.length+1∧∃env H N o c,st=⟨36,env,H,N⟩∧env 0=.ro (nl x)∧env 1=.ro (nl y)∧env 6=.v (.int .i64 (c:Nat))∧env 7=.v (.int .i64 (i:Nat))∧Yc prog 3 H 0 N (env 5) (nl o) ∧
 o.length=i∧(∀z∈o,z<10)∧c≤1∧lv 10 o+10^i*c=lv 10 (x.take i)+lv 10 (y.take i)
theorem qi8(x y:List Nat)(hx:∀z∈x,z<10)(hy:∀z∈y,z<10)(hxl:x.length≤900000)(hyl:y.length≤900000):Qg prog 156 [.ro (nl x),.ro (nl y)] (.ro (nl (lb 10 (lv 10 x+lv 10 y)))):=by
 refine Qg.body func156 ntmps156 ?_;simp;refine Qp.of (plI x y) (fun i=>max x.length y.length+1-i) 0 ⟨by omega,_,_,_,[],0,rfl,rfl,rfl,rfl,rfl,.inl ⟨rfl,rfl⟩,rfl,by simp,by omega,by simp[lv]⟩ ?_;rintro i _ ⟨hi,env,H,N,o,c,rfl,g0,g1,g6,g7,ho,hol,hod,hc,hv⟩;have hm:(if x.length<y.length then(y.length:Int)else x.length)=((max x.length y.length:Nat):Int):=by split<;>omega
 have w1:IntKind.i64.wrap (((max x.length y.length:Nat):Int)+1)=((max x.length y.length+1:Nat):Int):=by rw[Ql (by omega) (by omega)];omega
 by_cases hiN:i<max x.length y.length+1
 ·have a1:=Vz hx i;have a2:=Vz hy i;have t1:=VF (B:=10) x i;have t2:=VF (B:=10) y i;have hc1:=qdH x i;have hc2:=qdH y i;generalize x.getD i 0=p at *;generalize y.getD i 0=q at *;simp[-Int.natCast_add,g0,g1,g6,g7,amax,hm,w1,hiN];refine Qc.pv hc1 (by simp[Qu,nl]) rfl ?_;simp[-Int.natCast_add,g1,g7];refine Qc.pv hc2 (by simp[Qu,nl]) rfl ?_;obtain⟨r,H2,N2,hr,ho2⟩:=qlR ho ((c+(p+q))%10) (by omega);have hs:∃s,s=c+(p+q)∧s≤19:=⟨_,rfl,by omega⟩;obtain⟨s,hs,hs9⟩:=hs;rw[←hs]at hr ho2;simp[-Int.natCast_add,-Int.natCast_emod,-Int.natCast_ediv,g7,wadd (show p+q<9223372036854775808 by omega),wadd (show c+(p+q)<9223372036854775808 by omega),←hs,Zj,Ze,qtw,qtj,wrapn (show s/10<9223372036854775808 by omega),qcg,Qs,hr,QH (show i+1<9223372036854775808 by omega)];refine⟨i+1,⟨by omega,_,_,_,o++[s%10],s/10,rfl,by simpa using g0,by simpa using g1,by simp,by simp,by simpa using ho2,by simp[hol],qaY hod (Nat.mod_lt _ (by omega)),by omega,?_⟩,by omega⟩;rw[ZM,hol,t1,t2];simp only[lv,Nat.mul_zero,Nat.add_zero];have e1:=Nat.mod_add_div s 10;generalize s%10=u at *;generalize s/10=v at *;have e:10^(i+1)*v=10^i*(10*v):=by rw[Nat.pow_succ,Nat.mul_assoc]
  have e2:10^i*u+10^i*(10*v)=10^i*c+10^i*p+10^i*q:=by rw[←Nat.mul_add,e1,hs,Nat.mul_add,Nat.mul_add];omega
  omega
 ·have hiE:i=max x.length y.length+1:=by omega
  subst hiE;rw[List.take_of_length_le (by omega),List.take_of_length_le (by omega)]at hv;have b1:=qre hx (n:=max x.length y.length) (by omega);have b2:=qre hy (n:=max x.length y.length) (by omega);have hc0:c=0:=by
   rcases Nat.lt_or_ge 0 c with h|h
   ·have:c=1:=by omega
    subst this;rw[Nat.pow_succ]at hv;omega
   ·omega
  subst hc0;rw[Nat.mul_zero,Nat.add_zero]at hv;have hct:=JT o (by omega);rw[ZO (B:=10) (by decide) _ hod,hv]at hct;simp[-Int.natCast_add,g0,g1,g6,g7,amax,hm,w1];refine Qc.frz (k:=9) (args':=[.ro (nl o)]) hct (fun id=>True) rfl (fun j a a' h1 h2=>?_) (by rw[List.all_cons,Qo];rfl) (Qo _) ?_
  ·cases j with
   | zero =>simp at h1 h2;subst h1;subst h2;exact ho.frz (fun _ _ _=>trivial) KC
   | succ j=>simp at h1
  ·simp;exact .dat _ 9 (Qo _)
def miI(x y:List Nat)(i:Nat)(st:St):Prop:=i≤x.length∧∃env H N o c,st=⟨35,env,H,N⟩∧env 0=.ro (nl x)∧env 1=.ro (nl y)∧env 6=.v (.int .i64 (c:Nat))∧env 7=.v (.int .i64 (i:Nat))∧Yc prog 3 H 0 N (env 5) (nl o) ∧
 o.length=i∧(∀z∈o,z<10)∧c≤1∧lv 10 o+lv 10 (y.take i)=lv 10 (x.take i)+10^i*c
theorem JJ(x y:List Nat)(hx:∀z∈x,z<10)(hy:∀z∈y,z<10)(hxl:x.length≤900000)(hyl:y.length≤x.length)(hle:lv 10 y≤lv 10 x):Qg prog 114 [.ro (nl x),.ro (nl y)] (.ro (nl (lb 10 (lv 10 x-lv 10 y)))):=by
 refine Qg.body func114 ntmps114 ?_;simp;refine Qp.of (miI x y) (fun i=>x.length-i) 0 ⟨by omega,_,_,_,[],0,rfl,rfl,rfl,rfl,rfl,.inl ⟨rfl,rfl⟩,rfl,by simp,by omega,by simp[lv]⟩ ?_;rintro i _ ⟨hi,env,H,N,o,c,rfl,g0,g1,g6,g7,ho,hol,hod,hc,hv⟩;by_cases hiN:i<x.length
 ·have a1:=Vz hx i;have a2:=Vz hy i;have t1:=VF (B:=10) x i;have t2:=VF (B:=10) y i;have hc2:=qdH y i;have hpx:x.getD i 0=x[i]:=by simp[hiN]
  rw[hpx]at a1 t1;generalize hp:x[i]=p at *;generalize y.getD i 0=q at *;have w1:IntKind.i64.wrap ((p:Int)-(q:Int))=(p:Int)-(q:Int):=Ql (by omega) (by omega);simp[g0,g7,hiN];by_cases hlt:p<q+c
  ·obtain⟨d,hd,hdl⟩:∃d,d=p+10-(q+c)∧d<10:=⟨_,rfl,by omega⟩;obtain⟨r,H2,N2,hr,ho2⟩:=qlR ho d (by omega);obtain⟨D,hD⟩:∃D:Int,D=(p:Int)-(q:Int)-(c:Int):=⟨_,rfl⟩;have w2:IntKind.i64.wrap ((p:Int)-(q:Int)-(c:Int))=D:=by rw[hD];exact Ql (by omega) (by omega)
   have w3:IntKind.i64.wrap (D+10)=(d:Int):=by rw[Ql (by omega) (by omega)];omega
   have c1:D<0:=by omega
   refine Qm.walk (fun _=>false) mixed ?_;simp[Q0,g0,g1,g7,hiN,hp,aload];refine QF.pure (k:=9) hc2 ?_ ?_ ?_
   ·simp[Qu,nl]
   ·rfl
   simp[-Int.natCast_add,g6,g7,w1,w2,w3,c1,qcg,Qs,hr,QH (show i+1<9223372036854775808 by omega)];refine⟨Zg.ofM (by kernel_rfl),i+1,⟨by omega,_,_,_,o++[d],1,rfl,by simpa using g0,by simpa using g1,by simp,by simp,by simpa using ho2,by simp[hol],qaY hod hdl,by omega,?_⟩,by omega⟩;rw[ZM,hol,t1,t2];simp only[lv,Nat.mul_zero,Nat.add_zero,Nat.mul_one];have e0:d+q+c=p+10:=by omega
   have e:=congrArg (10^i*·) e0;simp only[Nat.mul_add]at e;rw[Nat.pow_succ];omega
  ·obtain⟨d,hd,hdl⟩:∃d,d=p-(q+c)∧d<10:=⟨_,rfl,by omega⟩;obtain⟨r,H2,N2,hr,ho2⟩:=qlR ho d (by omega);have w2:IntKind.i64.wrap ((p:Int)-(q:Int)-(c:Int))=(d:Int):=by rw[Ql (by omega) (by omega)];omega
   have c1:¬(d:Int)<0:=by omega
   refine Qm.walk (fun _=>false) mixed ?_;simp[Q0,g0,g1,g7,hiN,hp,aload];refine QF.pure (k:=9) hc2 ?_ ?_ ?_
   ·simp[Qu,nl]
   ·rfl
   simp[-Int.natCast_add,g6,g7,w1,w2,c1,qcg,Qs,hr,QH (show i+1<9223372036854775808 by omega)];refine⟨Zg.ofM (by kernel_rfl),i+1,⟨by omega,_,_,_,o++[d],0,rfl,by simpa using g0,by simpa using g1,by simp,by simp,by simpa using ho2,by simp[hol],qaY hod hdl,by omega,?_⟩,by omega⟩;rw[ZM,hol,t1,t2];simp only[lv,Nat.mul_zero,Nat.add_zero];have e0:d+q+c=p:=by omega
   have e:=congrArg (10^i*·) e0;simp only[Nat.mul_add]at e;omega
 ·have hiE:i=x.length:=by omega
  subst hiE;rw[List.take_of_length_le (Nat.le_refl _),List.take_of_length_le hyl]at hv;have b1:=Wq o hod;rw[hol]at b1;have hc0:c=0:=by
   rcases Nat.lt_or_ge 0 c with h|h
   ·have:c=1:=by omega
    subst this;omega
   ·omega
  subst hc0;rw[Nat.mul_zero,Nat.add_zero]at hv;have hct:=JT o (by omega);rw[ZO (B:=10) (by decide) _ hod,show lv 10 o=lv 10 x-lv 10 y by omega]at hct;simp[g0,g7];refine Qc.frz (k:=9) (args':=[.ro (nl o)]) hct (fun id=>True) rfl (fun j a a' h1 h2=>?_) (by rw[List.all_cons,Qo];rfl) (Qo _) ?_
  ·cases j with
   | zero =>simp at h1 h2;subst h1;subst h2;exact ho.frz (fun _ _ _=>trivial) KC
   | succ j=>simp at h1
  ·simp;exact .dat _ 9 (Qo _)
def qbc(a b:Nat):Int:=if a<b then -1 else if a=b then 0 else 1
theorem qm8{B:Nat}{x y:List Nat}(hx:∀z∈x,z<B){k:Nat}(h1:k<x.length)(h2:k<y.length)(hd:x.drop (k+1)=y.drop (k+1))(hlt:x[k]<y[k]):lv B x<lv B y:=by
 have e:∀(z:List Nat) (h:k<z.length),lv B z=lv B (z.take k)+B^k*(z[k]+B*lv B (z.drop (k+1))):=fun z h=>by
  conv=>lhs;rw[←List.take_append_drop k z]
  rw[ZM,List.drop_eq_getElem_cons h,List.length_take,Nat.min_eq_left (Nat.le_of_lt h)];rfl
 rw[e x h1,e y h2,hd];have b1:=Wq (x.take k) (fun z hz=>hx z (List.mem_of_mem_take hz));rw[List.length_take,Nat.min_eq_left (Nat.le_of_lt h1)]at b1;have h3:x[k]+1+B*lv B (y.drop (k+1))≤y[k]+B*lv B (y.drop (k+1)):=by omega
 have h4:=Nat.mul_le_mul_left (B^k) h3;rw[show x[k]+1+B*lv B (y.drop (k+1))=(x[k]+B*lv B (y.drop (k+1)))+1 by omega,Nat.mul_add (B^k) _ 1,Nat.mul_one]at h4;omega
theorem Wt(a b:Nat)(ha:(lb 10 a).length≤1000000)(hb:(lb 10 b).length≤1000000):Qg prog 113 [.ro (nl (lb 10 a)),.ro (nl (lb 10 b))] (.v (.int .i64 (qbc a b))):=by
 refine Qg.body func113 ntmps113 ?_;have hx:=YN (B:=10) (by decide) a;have hy:=YN (B:=10) (by decide) b;have hva:=Yo (B:=10) (by decide) a;have hvb:=Yo (B:=10) (by decide) b;have hm1:=Vh (B:=10) (a:=a) (b:=b) (by decide);have hm2:=Vh (B:=10) (a:=b) (b:=a) (by decide);generalize lb 10 a=x at *;generalize lb 10 b=y at *;by_cases hlen:x.length=y.length
 ·have w0:IntKind.i64.wrap ((y.length:Int)-1)=(y.length:Int)-1:=Ql (by omega) (by omega);simp[hlen,w0];refine Qp.of (fun(k:Nat) st=>k≤y.length∧∃env,st=⟨41,env,QQ,0⟩∧env 0=.ro (nl x)∧env 1=.ro (nl y)∧env 5=.v (.int .i64 ((k:Int)-1))∧x.drop k=y.drop k) (fun k=>k) y.length ⟨Nat.le_refl _,_,rfl,rfl,rfl,rfl,by rw[List.drop_eq_nil_of_le (by omega),List.drop_eq_nil_of_le (by omega)]⟩ ?_;rintro k _ ⟨hk,env,rfl,g0,g1,g5,hd⟩;cases k with
  | zero =>
   have he:x=y:=by simpa using hd
   subst he;have hab:a=b:=by rw[←hva,hvb]
   subst hab;simp[g5,qbc];exact .dat _ 9 rfl
  | succ k =>
   have e5:((k+1:Nat):Int)-1=(k:Int):=by omega
   rw[e5]at g5;have h1:k<x.length:=by omega
   have h2:k<y.length:=by omega
   have w1:IntKind.i64.wrap ((k:Int)-1)=(k:Int)-1:=Ql (by omega) (by omega);simp[g5];refine Qm.walk (fun _=>false) mixed ?_;simp[Q0,g0,g1,g5,h1,h2,aload];refine⟨Zg.ofM (by kernel_rfl),?_⟩;by_cases hxy:x[k]=y[k]
   ·simp[hxy,w1];refine⟨k,⟨by omega,rfl,?_⟩,by omega⟩;rw[List.drop_eq_getElem_cons h1,List.drop_eq_getElem_cons h2,hxy,hd]
   ·have hxy':¬((x[k]:Nat):Int)=((y[k]:Nat):Int):=by omega
    simp[hxy'];by_cases hlt:x[k]<y[k]
    ·have:=qm8 hx h1 h2 hd hlt;refine Qm.walk (fun _=>false) mixed ?_;simp[Q0,g0,g1,g5,h1,h2,aload,hlt,qbc,show a<b by omega];exact⟨Zg.ofM (by kernel_rfl),.dat _ 9 rfl⟩
    ·have:=qm8 hy h2 h1 hd.symm (by omega);refine Qm.walk (fun _=>false) mixed ?_;simp[Q0,g0,g1,g5,h1,h2,aload,hlt,qbc,show ¬a<b by omega,show ¬a=b by omega];exact⟨Zg.ofM (by kernel_rfl),.dat _ 9 rfl⟩
 ·have hlen':¬(x.length:Int)=(y.length:Int):=by omega
  by_cases hlt:x.length<y.length
  ·have hab:a<b:=by
    rcases Nat.lt_or_ge a b with h|h
    ·exact h
    ·have:=hm2 h;omega
   simp[hlen',hlt,qbc,hab];exact .dat _ 9 rfl
  ·have hab:b<a:=by
    rcases Nat.lt_or_ge b a with h|h
    ·exact h
    ·have:=hm1 h;omega
   simp[hlen',hlt,qbc,show ¬a<b by omega,show ¬a=b by omega];exact .dat _ 9 rfl
end
section
attribute [local simp] Qq Qh Qk Qr QR alen qaI qaH qhi qai qgs qdw qd8 QJ Q7 at_
def qur(x y:List Nat)(i:Nat)(st:St):Prop:=i≤x.length∧∃env H1 o,st=⟨63,env,H1,1⟩∧env 0=.ro (nl x)∧env 1=.ro (nl y)∧env 5=.ref 0 1 0 (x.length+y.length) none∧env 6=.v (.int .i64 (i:Nat)) ∧
   H1.b 0=some ⟨3,1,nl o,false,some (x.length+y.length)⟩∧o.length=x.length+y.length∧(∀z∈o,z<10)∧lv 10 o=lv 10 (x.take i)*lv 10 y∧∀k,i+y.length≤k→o.getD k 0=0
def qus(x y:List Nat)(i a:Nat)(j:Nat)(st:St):Prop:=j≤y.length∧∃env H1 o c,st=⟨63,env,H1,1⟩∧env 0=.ro (nl x)∧env 1=.ro (nl y)∧env 5=.ref 0 1 0 (x.length+y.length) none∧env 6=.v (.int .i64 (i:Nat))∧env 7=.v (.int .i64 (c:Nat))∧env 8=.v (.int .i64 (j:Nat)) ∧
    H1.b 0=some ⟨3,1,nl o,false,some (x.length+y.length)⟩∧o.length=x.length+y.length∧(∀z∈o,z<10)∧c<10 ∧
    lv 10 o+10^(i+j)*c=lv 10 (x.take i)*lv 10 y+10^i*(a*lv 10 (y.take j))∧∀k,i+y.length≤k→o.getD k 0=0
theorem qg1(x y:List Nat)(hx:∀z∈x,z<10)(hy:∀z∈y,z<10)(hn:x.length≤400000)(hny:y.length≤400000):Qg prog 52 [.ro (nl x),.ro (nl y)] (.ro (nl (lb 10 (lv 10 x*lv 10 y)))):=by
 refine Qg.body func52 ntmps52 ?_;have hs:IntKind.i64.wrap ((x.length:Int)+(y.length:Int))=((x.length+y.length:Nat):Int):=wadd (by omega);simp[-Int.natCast_add,Qs,hs,JP ((x.length+y.length:Nat):Int) (by omega) (by omega),VI];refine Qp.of (qur x y) (fun i=>x.length-i) 0
  ⟨by omega,_,_,List.replicate (x.length+y.length) 0,rfl,rfl,rfl,rfl,rfl,by simp[Qf.set],by simp,by simp,?_,?_⟩ ?_
 ·simp only[List.take_zero,lv,Nat.zero_mul];exact qbz _
 ·intro k hk;simp[List.getD_eq_getElem?_getD,List.getElem?_replicate];split<;>rfl
 rintro i _ ⟨hi,env,H1,o,rfl,g0,g1,g5,g6,hH,ho,hob,hv,hz⟩;by_cases hiN:i<x.length
 ·simp[-Int.natCast_add,g0,g5,g6,hiN];refine Qp.of (qus x y i x[i]) (fun j=>y.length-j) 0
   ⟨by omega,_,_,o,0,rfl,by simpa using g0,by simpa using g1,by simpa using g5,by simpa using g6,by simp,by simp,hH,ho,hob,by omega,by simp[lv,hv],hz⟩ ?_
  rintro j _ ⟨hj,env,H1,o,c,rfl,g0,g1,g5,g6,g7,g8,hH,ho,hob,hc,hv,hz⟩;have hxi:x[i]<10:=hx _ (List.getElem_mem _);by_cases hjN:j<y.length
  ·have hyj:y[j]<10:=hy _ (List.getElem_mem _);have hij:i+j<o.length:=by omega
   have hoi:o[i+j]<10:=hob _ (List.getElem_mem _);have hm:x[i]*y[j]≤9*9:=Nat.mul_le_mul (by omega) (by omega);have hij':i+j<x.length+y.length:=by omega
   have hset:=XX (B:=10) o (i+j);have hlo:=XV (env:=env) (n:=63) (N:=1) hH hij;have htk:=VF (B:=10) y j;rw[show y.getD j 0=y[j] by simp[hjN]]at htk;simp[-Int.natCast_add,-Int.natCast_mul,-Int.natCast_emod,-Int.natCast_ediv,g1,g5,g6,g7,g8,hjN];refine Qm.walk (fun _=>false) mixed ?_;have hs:c+(o[i+j]+x[i]*y[j])≤1000:=by omega
   have hsum:∃s,s=c+(o[i+j]+x[i]*y[j])∧s≤1000:=⟨_,rfl,hs⟩;obtain⟨s,hsE,hs1⟩:=hsum;have w1:IntKind.i64.wrap (((c:Nat):Int)+((o[i+j]+x[i]*y[j]:Nat):Int))=(s:Int):=by rw[wadd (by omega),←hsE]
   simp[-Int.natCast_add,-Int.natCast_mul,-Int.natCast_emod,-Int.natCast_ediv,Q0,g0,g1,g5,g6,g7,g8,hjN,hiN,wadd (show i+j<9223372036854775808 by omega),hij',XV hH hij,wmul (show x[i]*y[j]<9223372036854775808 by omega),wadd (show o[i+j]+x[i]*y[j]<9223372036854775808 by omega),w1,
    Zj,Ze,qtw,qtj,wrapn (show s/10<9223372036854775808 by omega),Zu hH hij,QH (show j+1<9223372036854775808 by omega)]
   refine⟨Zg.ofM (by kernel_rfl),j+1,⟨by omega,_,_,o.set (i+j) (s%10),s/10,rfl,by simpa using g0,by simpa using g1,by simpa using g5,by simpa using g6,by simp,by simp,by simp,by simpa using ho,X7 hob (Nat.mod_lt _ (by decide)),?_,?_,fun k hk=>by rw[Jt (by omega)];exact hz k hk⟩,by omega⟩
   ·omega
   ·have h1:=hset (s%10) hij;have h2:=Nat.mod_add_div s 10;rw[htk];generalize s%10=r at *;generalize s/10=q at *;have e:=congrArg (10^(i+j)*·) (h2.trans hsE);simp only[Nat.mul_add]at e;have e2:10^(i+(j+1))*q=10^(i+j)*(10*q):=by rw[←Nat.add_assoc,Nat.pow_succ,Nat.mul_assoc]
    have e3:10^i*(x[i]*(lv 10 (y.take j)+10^j*y[j]))=10^i*(x[i]*lv 10 (y.take j))+10^(i+j)*(x[i]*y[j]):=by rw[Nat.mul_add,Nat.mul_add,Nat.pow_add];congr 1;rw[Nat.mul_left_comm x[i],Nat.mul_assoc]
    rw[e2,e3];omega
  ·have hj':j=y.length:=by omega
   subst hj';have hiy:i+y.length<o.length:=by omega
   have hiy':i+y.length<x.length+y.length:=by omega
   simp[-Int.natCast_add,g1,g5,g6,g7,g8,wadd (show i+y.length<9223372036854775808 by omega),hiy',Zu hH hiy,QH (show i+1<9223372036854775808 by omega)];refine⟨i+1,⟨by omega,_,_,o.set (i+y.length) c,rfl,by simpa using g0,by simpa using g1,by simpa using g5,by simp,by simp,by simpa using ho,X7 hob hc,?_,fun k hk=>by rw[Jt (by omega)];exact hz k (by omega)⟩,by omega⟩;have h1:=XX (B:=10) o (i+y.length) c hiy;have h0:=hz (i+y.length) (Nat.le_refl _);rw[List.getD_eq_getElem?_getD,List.getElem?_eq_getElem hiy,Option.getD_some]at h0;rw[h0,Nat.mul_zero,Nat.add_zero,hv,List.take_length]at h1;rw[h1,Yi _ _ hiN,Nat.add_mul,Nat.mul_assoc]
 ·have hi':i=x.length:=by omega
  subst hi';have hct:=JT o (by omega);rw[ZO (B:=10) (by decide) _ hob,hv,List.take_length]at hct;simp[-Int.natCast_add,g0,g5,g6];refine Qc.frz (k:=9) (args':=[.ro (nl o)]) hct (fun id=>True) rfl (fun j a a' h1 h2=>?_) (by rw[List.all_cons,Qo];rfl) (Qo _) ?_
  ·cases j with
   | zero =>simp at h1 h2;subst h1;subst h2;have:=Frz.KB (H:=H1) (F:=fun _=>True) (G:=fun _=>True) (id:=0) (sz:=1) (off:=0) (len:=x.length+y.length) (mx:=none) trivial hH rfl (by simp[QJ,ho]) (fun e he=>KC e (List.mem_of_mem_take (by simpa using he)));simpa[Jy,List.take_of_length_le,ho]using this
   | succ j=>simp at h1
  ·simp;exact .dat _ 9 (Qo _)
theorem qq9{B b:Nat}(hB:1<B)(hb:0<b):B^((lb B b).length-1)≤b:=by
 induction b using Nat.strongRecOn with
 | _ b ih =>
  rw[Zy hB hb,List.length_cons,Nat.add_sub_cancel];by_cases h:b<B
  ·rw[Nat.div_eq_of_lt h,Zh];simp;omega
  ·have hd:0<b/B:=Nat.div_pos (by omega) (by omega);have h1:=ih (b/B) (Nat.div_lt_self hb hB) hd;have hl:0<(lb B (b/B)).length:=by rw[Zy hB hd];simp
   have e:B^(lb B (b/B)).length=B*B^((lb B (b/B)).length-1):=by rw[Nat.mul_comm,←Nat.pow_succ];congr 1;omega
   rw[e];exact Nat.le_trans (Nat.mul_le_mul_left B h1) (Nat.mul_div_le b B)
theorem XP{B:Nat}(hB:1<B):∀(n a:Nat),(lb B a).drop n=lb B (a/B^n):=by
 intro n;induction n with
 | zero=>intro a;simp
 | succ n ih =>
  intro a;by_cases ha:a=0
  ·subst ha;rw[Nat.zero_div,Zh];simp
  ·rw[Zy hB (by omega),List.drop_succ_cons,ih,Nat.div_div_eq_div_mul,Nat.pow_succ,Nat.mul_comm]
def XL(H:Qf)(N:Nat)(x:AV)(l:List Nat):Prop:=x=.ro (nl l)∨∃id cap,id≠0∧id<N∧x=.ref id 1 0 l.length none∧H.b id=some ⟨3,1,nl l,false,cap⟩
theorem XL.el{H:Qf}{N:Nat}{x:AV}{l:List Nat}(h:XL H N x l):QA H x=some (nl l):=by
 rcases h with rfl|⟨id,cap,_,_,rfl,h⟩
 ·rfl
 ·have:(nl l).take l.length=nl l:=List.take_of_length_le (by rw[QJ];exact Nat.le_refl _);simp[QA,h,QJ,this]
theorem XL.frz{H:Qf}{N:Nat}{x:AV}{l:List Nat}{F G:Nat→Prop}(h:XL H N x l)(hF:∀id,id≠0→F id):Frz H F G x (.ro (nl l)):=by
 rcases h with rfl|⟨id,cap,hid,_,rfl,h⟩
 ·exact .dat _ 9 (Qo _)
 ·have:=Frz.KB (F:=F) (G:=G) (id:=id) (sz:=1) (off:=0) (len:=l.length) (mx:=none) (hF id hid) h rfl (by simp[QJ]) (fun e he=>KC e (List.mem_of_mem_take (by simpa using he)));simpa[Jy]using this
def spI(a b n k:Nat)(q:List Nat)(r:Nat):Prop:=q.length=n∧(∀z∈q,z<10)∧(∀m,m<k→q.getD m 0=0)∧r<b∧lv 10 (q.drop k)*b+r=lv 10 ((lb 10 a).drop k)
def spF(a b n k:Nat)(st:St):Prop:=k≤n∧∃env H N q r,st=⟨56,env,H,N⟩∧env 0=.ro (nl (lb 10 a))∧env 1=.ro (nl (lb 10 b))∧env 7=.ref 0 1 0 n none∧XL H N (env 8) (lb 10 r)∧env 9=.v (.int .i64 ((k:Int)-1))∧H.b 0=some ⟨3,1,nl q,false,some n⟩∧1≤N∧spI a b n k q r
def spG(a b n k c:Nat)(d:Nat)(st:St):Prop:=∃env H N q r,st=⟨56,env,H,N⟩∧env 0=.ro (nl (lb 10 a))∧env 1=.ro (nl (lb 10 b))∧env 7=.ref 0 1 0 n none∧env 8=.ro (nl (lb 10 r))∧env 9=.v (.int .i64 (k:Int))∧H.b 0=some ⟨3,1,nl q,false,some n⟩∧1≤N∧q.length=n∧(∀z∈q,z<10)∧(∀m,m<k→q.getD m 0=0)∧q.getD k 0=d∧r+d*b=c∧lv 10 (q.drop (k+1))*b+c/10=lv 10 ((lb 10 a).drop (k+1))
theorem qqB:Qz prog 82 0 []=some (3,[]):=by kernel_rfl
theorem qhz{st:St}{id:Nat}{cap:Option Nat}{x:AV}{l0 l:List Nat}(hb:st.H.b id=some ⟨3,1,nl l0,false,cap⟩)(he:QA st.H x=some (nl l))(h0:l≠[])(hl:l0.length+l.length≤1000000) :
  aappend prog st 82 (.ref id 1 0 l0.length none) x=some (.ref st.N 1 0 (l0.length+l.length) none,⟨st.n,st.env,(st.H.kill id).set st.N ⟨3,1,nl (l0++l),false,none⟩,st.N+1⟩):=by
 unfold aappend;rw[qai];cases l with
 | nil=>exact(h0 rfl).elim
 | cons v l =>
 simp only[he];have hq:nl (v::l)=[.v (.int .i64 (v:Int))]::nl l:=rfl;have hap:nl (l0++v::l)=nl l0++nl (v::l):=by simp[nl]
 rw[hap,hq];simp only;rw[←hq,if_pos ⟨qaI,qd8,by rw[qaH];omega,by rw[qaH];simp[Zp,nl],by simp[Zb,nl,AV.one,Value.oneCell']⟩];rw[hb];simp only[qaH,qdw];rw[if_pos ⟨trivial,trivial,trivial,by rw[QJ];omega,by rw[QJ];simp only[List.length_cons]at hl⊢;omega,by rw[QJ];simp only[maxLen];omega⟩];have htk:(nl l0).take l0.length=nl l0:=List.take_of_length_le (by rw[QJ];exact Nat.le_refl _);simp[Qs,QJ,htk]
theorem qkx{st:St}{id m:Nat}:aappend prog st 82 (.ref id 1 0 m none) (.ro [])=some (.ref id 1 0 m none,st):=by unfold aappend;rw[qai];simp[QA,qm6]
theorem qgV(a b:Nat)(hb:0<b)(ha:(lb 10 a).length≤400000)(hbl:(lb 10 b).length≤400000):Qg prog 82 [.ro (nl (lb 10 a)),.ro (nl (lb 10 b))] (.tup [.ro (nl (lb 10 (a/b))),.ro (nl (lb 10 (a%b)))]):=by
 refine Qg.body func82 ntmps82 ?_;have hbl0:0<(lb 10 b).length:=by rw[Zy (by decide) hb];simp
 have w1:IntKind.i64.wrap (((lb 10 a).length:Int)-((lb 10 b).length:Int))=((lb 10 a).length:Int)-((lb 10 b).length:Int):=Ql (by omega) (by omega);have w2:IntKind.i64.wrap (((lb 10 a).length:Int)-((lb 10 b).length:Int)+1)=((lb 10 a).length:Int)-((lb 10 b).length:Int)+1:=Ql (by omega) (by omega);obtain⟨n,hn⟩:∃n,n=(lb 10 a).length+1-(lb 10 b).length:=⟨_,rfl⟩;have hm:amax false [.v (.int .i64 0),.v (.int .i64 (((lb 10 a).length:Int)-((lb 10 b).length:Int)+1))]=some (.v (.int .i64 (n:Int))):=by simp only[amax,if_true];congr 3;simp only[Bool.false_eq_true,if_false];split<;>omega
 have hn1:n≤(lb 10 a).length:=by omega
 have hsl:aslice prog 82 (.ro (nl (lb 10 a))) (some (.v (.int .i64 (n:Int)))) none=some (.ro (nl ((lb 10 a).drop n))):=by rw[Xt (e:=3) (l:=n) (h:=(lb 10 a).length) qai qaI (by intro c hc;simp[nl]at hc;obtain⟨_,_,rfl⟩:=hc;rfl) (by rw[QJ];simp[abounds,idx,hn1])];rw[List.take_of_length_le (by rw[QJ];exact Nat.le_refl _)];simp[nl,List.map_drop]
 have w3:IntKind.i64.wrap ((n:Int)-1)=(n:Int)-1:=Ql (by omega) (by omega);have hr0:a/10^n<b:=by
  have h1:=qq9 (B:=10) (by decide) hb;have h2:=Wq (B:=10) ((lb 10 a).drop n) (fun z hz=>YN (by decide) a z (List.mem_of_mem_drop hz));rw[XP (by decide),Yo (by decide)]at h2;have h3:(lb 10 (a/10^n)).length≤(lb 10 b).length-1:=by rw[←XP (by decide),List.length_drop];omega
  exact Nat.lt_of_lt_of_le h2 (Nat.le_trans (Nat.pow_le_pow_right (by omega) h3) h1)
 have hI:spI a b n n (List.replicate n 0) (a/10^n):=⟨by simp,by simp,fun m hm=>by simp[List.getD_eq_getElem?_getD,hm],hr0,by rw[XP (by decide),Yo (by decide),List.drop_eq_nil_of_le (by simp)];simp[lv]⟩;simp[w1,w2,hm,Qs,JP (n:Int) (by omega) (by omega),VI,qqB,hsl];obtain⟨x,H2,N2,happ,hx,hH2,hN2⟩:∃x H2 N2,(∀m env,aappend prog ⟨m,env,(QQ.set 0 ⟨3,1,nl (List.replicate n 0),false,some n⟩).set 1 ⟨3,1,[],false,some 0⟩,2⟩ 82 (.ref 1 1 0 0 none) (.ro (nl ((lb 10 a).drop n)))=some (x,⟨m,env,H2,N2⟩))∧XL H2 N2 x (lb 10 (a/10^n))∧H2.b 0=some ⟨3,1,nl (List.replicate n 0),false,some n⟩∧1≤N2:=by
  rw[XP (by decide)];by_cases h0:lb 10 (a/10^n)=[]
  ·rw[h0];exact⟨_,_,_,fun m env=>qkx,.inr ⟨1,some 0,by omega,by omega,rfl,by simp[nl]⟩,by simp,by omega⟩
  ·have hlen:(lb 10 (a/10^n)).length≤1000000:=by rw[←XP (by decide),List.length_drop];omega
   have hap:=fun m env=>qhz (st:=⟨m,env,(QQ.set 0 ⟨3,1,nl (List.replicate n 0),false,some n⟩).set 1 ⟨3,1,[],false,some 0⟩,2⟩) (id:=1) (l0:=[]) (cap:=some 0) (x:=.ro (nl (lb 10 (a/10^n)))) (by simp[nl]) rfl h0 (by simpa using hlen);simp only[List.length_nil,Nat.zero_add,List.nil_append]at hap;exact⟨_,_,_,hap,.inr ⟨2,none,by omega,by omega,rfl,by simp⟩,by simp,by omega⟩
 simp[happ,w3];refine Qp.of (spF a b n) (fun k=>k) n ⟨Nat.le_refl _,_,H2,N2,_,_,rfl,by simp,by simp,by simp,by simpa using hx,by simp,hH2,hN2,hI⟩ ?_;clear hx hH2 hN2 happ hI;rintro k _ ⟨hk,env,H,N,q,r,rfl,g0,g1,g7,hx,g9,hH,hN,hql,hqd,hqz,hrb,hv⟩;cases k with
 | zero =>
  have hv':lv 10 q*b+r=a:=by simpa[Yo (B:=10) (by decide)]using hv
  have hdiv:lv 10 q=a/b:=by rw[←hv',Nat.mul_comm,Nat.mul_add_div hb,Nat.div_eq_of_lt hrb,Nat.add_zero]
  have hmod:r=a%b:=by rw[←hv',Nat.mul_comm,Nat.mul_add_mod,Nat.mod_eq_of_lt hrb]
  have hct:=JT q (by omega);rw[ZO (B:=10) (by decide) _ hqd,hdiv]at hct;simp[g0,g7,g9];refine Qc.frz (k:=9) (args':=[.ro (nl q)]) hct (fun id=>id=0) rfl (fun j x x' h1 h2=>?_) (by rw[List.all_cons,Qo];rfl) (Qo _) ?_
  ·cases j with
   | zero =>simp at h1 h2;subst h1;subst h2;have:=Frz.KB (H:=H) (F:=fun id=>id=0) (G:=fun _=>True) (id:=0) (sz:=1) (off:=0) (len:=n) (mx:=none) rfl hH rfl (by simp[QJ,hql]) (fun e he=>KC e (List.mem_of_mem_take (by simpa using he)));simpa[Jy,List.take_of_length_le,hql]using this
   | succ j=>simp at h1
  ·simp;rw[←hmod];have hx8:Frz (H.fr fun id=>id=0) (fun _=>True) (fun _=>False) (env 8) (.ro (nl (lb 10 r))):=by
    rcases hx with h|⟨id,cap,h1,_,h2,h3⟩
    ·rw[h];exact .dat _ 9 (Qo _)
    ·exact XL.frz (N:=N) (.inr ⟨id,cap,h1,by assumption,h2,by rw[qhh,h3];simp[h1]⟩) fun _ _=>trivial
   obtain⟨f1,f2,f3⟩:=(show qhe (H.fr fun id=>id=0) (fun _=>True) (fun _=>False) [.ro (nl (lb 10 (a/b))),env 8] [.ro (nl (lb 10 (a/b))),.ro (nl (lb 10 r))] from .cons (.dat _ 9 (Qo _)) (.cons hx8 .nil)).get;exact .tup _ _ _ f1 f2 f3
 | succ k =>
  have e9:((k+1:Nat):Int)-1=(k:Int):=by omega
  rw[e9]at g9;have hka:k<(lb 10 a).length:=by omega
  have hd0:=YN (B:=10) (by decide) a _ (List.getElem_mem hka);have hdrop:=List.drop_eq_getElem_cons hka;have hge:=Q7 (lb 10 a) k (by rw[QJ];exact hka);generalize (lb 10 a)[k]=d0 at hd0 hdrop hge;have hrl:(lb 10 r).length≤400000:=Nat.le_trans (Vh (by decide) (Nat.le_of_lt hrb)) hbl;obtain⟨x2,H2,N2,happ,hx2,hH2,hN2⟩:∃x2 H2 N2,(∀m env',aappend prog ⟨m,env',H.set N ⟨3,1,[[.v (.int .i64 (d0:Int))]],false,some 1⟩,N+1⟩ 82 (.ref N 1 0 1 none) (env 8)=some (x2,⟨m,env',H2,N2⟩))∧XL H2 N2 x2 (d0::lb 10 r)∧H2.b 0=some ⟨3,1,nl q,false,some n⟩∧1≤N2:=by
   have hx':XL (H.set N ⟨3,1,[[.v (.int .i64 (d0:Int))]],false,some 1⟩) (N+1) (env 8) (lb 10 r):=by
    rcases hx with h|⟨id,cap,h1,h2,h3,h4⟩
    ·exact .inl h
    ·exact .inr ⟨id,cap,h1,by omega,h3,by simp[show ¬id=N by omega,h4]⟩
   have hel:=hx'.el;have h0N:¬0=N:=by omega
   by_cases h0:lb 10 r=[]
   ·rw[h0]at hel⊢;refine⟨.ref N 1 0 1 none,H.set N ⟨3,1,[[.v (.int .i64 (d0:Int))]],false,some 1⟩,N+1,fun m env'=>?_,.inr ⟨N,some 1,by omega,by omega,rfl,by simp[nl]⟩,?_,by omega⟩
    ·unfold aappend;rw[qai];simp[hel,qm6,nl]
    ·simp[h0N,hH]
   ·have hap:=fun m env'=>qhz (st:=⟨m,env',H.set N ⟨3,1,[[.v (.int .i64 (d0:Int))]],false,some 1⟩,N+1⟩) (id:=N) (l0:=[d0]) (l:=lb 10 r) (cap:=some 1) (x:=env 8) (by simp[nl]) hel h0 (by simp;omega);simp only[List.length_singleton,List.singleton_append]at hap;exact⟨_,_,_,hap,.inr ⟨N+1,none,by omega,by omega,by simp[Nat.add_comm],by simp⟩,by simp[h0N,hH],by omega⟩
  have hct:=JT (d0::lb 10 r) (by simp;omega);rw[ZO (B:=10) (by decide) _ (fun z hz=>by
   rcases List.mem_cons.1 hz with rfl|hz
   ·exact hd0
   ·exact YN (by decide) r z hz),lv,Yo (by decide)]at hct
  simp[g0,g7,g9,hge,hka,aload,qcg,Qs,happ];refine Qc.frz (k:=9) (args':=[.ro (nl (d0::lb 10 r))]) hct (fun id=>id≠0) rfl (fun j x x' h1 h2=>?_) (by rw[List.all_cons,Qo];rfl) (Qo _) ?_
  ·cases j with
   | zero =>simp at h1 h2;subst h1;subst h2;exact hx2.frz fun _ h=>h
   | succ j=>simp at h1
  have hH3:(H2.fr fun id=>id≠0).b 0=some ⟨3,1,nl q,false,some n⟩:=by rw[qhh,hH2];simp
  generalize (H2.fr fun id=>id≠0)=H3 at hH3;clear happ hx2 hH2 hx hH hct;obtain⟨c,hc⟩:∃c,c=d0+10*r:=⟨_,rfl⟩;rw[←hc];have hcb:c<10*b:=by omega
  have hcl:(lb 10 c).length≤500000:=by have h1:=Vh (B:=10) (a:=c) (b:=10*b) (by decide) (by omega);rw[Zy (n:=10*b) (by decide) (by omega),List.length_cons,Nat.mul_div_cancel_left b (by decide:0<10)]at h1;omega
  simp;refine Qp.of (spG a b n k c) (fun d=>10-d) 0 ⟨_,_,_,q,c,rfl,by simp[g0],by simp[g1],by simp[g7],by simp,by simp[g9],hH3,hN2,hql,hqd,fun m hm=>hqz m (by omega),hqz k (by omega),by omega,by rw[←hv];congr 1;omega⟩ ?_;clear hqd hqz g0 g1 g7 g9 hH3 hN2 hql hv;rintro d _ ⟨env,H,N,q,r,rfl,g0,g1,g7,g8,g9,hH,hN,hql,hqd,hqz,hqk,hrd,hv⟩;have hrc:r≤c:=by omega
  have hrl2:=Vh (B:=10) (by decide) hrc;have hor:=Wt r b (by omega) (by omega);have hkq:k<q.length:=by omega
  have hqk':q[k]=d:=by rw[List.getD_eq_getElem?_getD,List.getElem?_eq_getElem hkq]at hqk;exact hqk
  simp[g1,g8];refine Qc.pv hor (by rw[List.all_cons,Qo,List.all_cons,Qo];rfl) rfl ?_;by_cases hrb:r<b
  ·have w:IntKind.i64.wrap ((k:Int)-1)=(k:Int)-1:=Ql (by omega) (by omega);simp[g1,g8,g9,qbc,hrb,w];refine⟨k,⟨by omega,_,H,N,q,r,rfl,by simp[g0],by simp[g1],by simp[g7],.inl (by simp[g8]),by simp,hH,hN,hql,hqd,hqz,hrb,?_⟩,by omega⟩;rw[hdrop,List.drop_eq_getElem_cons hkq,hqk',lv,lv,←hv,Nat.add_mul,Nat.mul_assoc];omega
  ·have hmi:=JJ (lb 10 r) (lb 10 b) (YN (by decide) r) (YN (by decide) b) (by omega) (Vh (by decide) (by omega)) (by rw[Yo (by decide),Yo (by decide)];omega);rw[Yo (by decide),Yo (by decide)]at hmi;have hge0:¬qbc r b<0:=by unfold qbc;rw[if_neg hrb];split<;>omega
   have hge1:0≤qbc r b:=by omega
   have hd9:d+1<10:=by
    have:(d+1)*b<10*b:=by rw[Nat.add_mul,Nat.one_mul];omega
    exact Nat.lt_of_mul_lt_mul_right this
   simp[g1,g8,g9,hge1];refine Qc.pv hmi (by rw[List.all_cons,Qo,List.all_cons,Qo];rfl) (Qo _) ?_;have hkn:k<n:=by omega
   simp[-Int.natCast_add,g7,g9,hkn,XV hH hkq,hqk',Zu hH hkq,QH (show d+1<9223372036854775808 by omega)];refine⟨d+1,⟨_,_,N,q.set k (d+1),r-b,rfl,by simp[g0],by simp[g1],by simp[g7],by simp,by simp[g9],by simp,hN,by simp[hql],X7 hqd hd9,fun m hm=>by rw[Jt (by omega)];exact hqz m hm,by simp[List.getD_eq_getElem?_getD,hkq],by rw[Nat.add_mul,Nat.one_mul];omega,?_⟩,by omega⟩;rw[List.drop_set_of_lt (by omega)];exact hv
end
section
attribute [local simp] Qq Qh Qk Qr QR alen qaI qaH qhi qai qgs qdw qd8 QJ Q7 at_
def dz(n:Nat):List UInt8:=if n=0 then[]else dg n
theorem qok{n:Nat}(h:0<n):dz n=dz (n/10)++[(48+n%10).toUInt8]:=by
 unfold dz;rw[if_neg (by omega)];by_cases h1:n<10
 ·rw[QN h1,if_pos (by omega),Nat.mod_eq_of_lt h1];rfl
 ·rw[JV (by omega),if_neg (by omega)]
def d10:List UInt8:=[48,49,50,51,52,53,54,55,56,57]
theorem qqL:∀d,d<10→(d10.take (d+1)).drop d=[(48+d).toUInt8]:=by decide
theorem qmq(m:Int):(m.tmod 10).natAbs=m.natAbs%10:=by rw[Int.natAbs_tmod];rfl
theorem qmo(m:Int):(m.tdiv 10).natAbs=m.natAbs/10:=by rw[Int.natAbs_tdiv];rfl
def whI(z m:Int)(st:St):Prop:=∃env s,st=⟨30,env,QQ,0⟩∧env 0=.v (.int .i64 z)∧env 3=str s∧env 4=.v (.int .i64 m)∧dz m.natAbs++s=dz z.natAbs∧m.natAbs≤z.natAbs
theorem K4(z:Int)(h0:-9223372036854775807≤z)(h1:z≤9223372036854775807):Qg prog 16 [.v (.int .i64 z)] (zs z):=by
 refine Qg.body func16 ntmps16 ?_;by_cases hz:z=0
 ·rw[hz,zs0];simp;exact .dat _ 9 rfl
 ·have hlz:(dg z.natAbs).length≤100:=(YF (by omega)).2 (Nat.lt_of_lt_of_le (show z.natAbs<10^19 by omega) (Nat.pow_le_pow_right (by omega) (by omega)));simp[hz];refine Qp.of (whI z) (fun m=>m.natAbs) z ⟨_,[],rfl,rfl,rfl,rfl,by simp,Nat.le_refl _⟩ ?_;rintro m _ ⟨env,s,rfl,g0,g3,g4,hs,hle⟩;have hsl:s.length≤100:=by
   have:=congrArg List.length hs;rw[List.length_append]at this;have e:(dz z.natAbs).length=(dg z.natAbs).length:=by unfold dz;rw[if_neg (by omega)]
   omega
  by_cases hm:m=0
  ·subst hm;have hs':s=dg z.natAbs:=by
    have e:dz z.natAbs=dg z.natAbs:=by unfold dz;rw[if_neg (by omega)]
    rw[←e,←hs];rfl
   by_cases hn:z<0
   ·have m1:(bs [45]).size+(bs s).size≤maxLen:=by rw[QB,QB];simp[maxLen];omega
    have e45:(ByteArray.mk #[45])=bs [45]:=rfl;have e:il z=45::s:=by rw[hs',il,if_pos hn]
    simp[g0,g3,g4,hn,str,e45,KM,m1,JG,zs,e];exact .dat _ 9 rfl
   ·have e:il z=s:=by rw[hs',il,if_neg hn]
    simp[g0,g3,g4,hn,str,zs,e];exact .dat _ 9 rfl
  ·have ht:=qmq m;have hq:=qmo m;have hq2:IntKind.i64.wrap (m.tdiv 10)=m.tdiv 10:=Ql (by omega) (by omega);obtain⟨t,htE⟩:∃t,t=m.tmod 10:=⟨_,rfl⟩;rw[←htE]at ht;have w1:IntKind.i64.wrap (-t) = -t:=Ql (by omega) (by omega);have hmax:amax false [.v (.int .i64 t),.v (.int .i64 (-t))]=some (.v (.int .i64 ((m.natAbs%10:Nat):Int))):=by simp only[amax,if_true,Bool.false_eq_true,if_false];congr 3;split<;>omega
   have hd:=qqL (m.natAbs%10) (Nat.mod_lt _ (by omega));have hst:=qok (n:=m.natAbs) (by omega);have hu:m.natAbs%10<10:=Nat.mod_lt _ (by omega);generalize m.natAbs%10=u at *;have ed:(ByteArray.mk #[48,49,50,51,52,53,54,55,56,57])=bs d10:=rfl;have m1:(bs [(48+u).toUInt8]).size+(bs s).size≤maxLen:=by rw[QB,QB];simp[maxLen];omega
   have w2:IntKind.i64.wrap ((u:Int)+1)=(u:Int)+1:=Ql (by omega) (by omega);have hasl:aslice prog 9 (.v (.string (bs d10))) (some (.v (.int .i64 (u:Int)))) (some (.v (.int .i64 ((u:Int)+1))))=some (.v (.string (bs [(48+u).toUInt8]))):=by
    have hb:abounds d10.length (some (.v (.int .i64 (u:Int)))) (some (.v (.int .i64 ((u:Int)+1))))=some (u,u+1):=by simp only[abounds,idx];rw[if_pos ⟨by omega,by omega,by show(u:Int)+1≤((10:Nat):Int);omega⟩];simp
    rw[qa1,hb];simp only;rw[hd]
   generalize (48+u).toUInt8=b at hasl m1 hst;simp[g0,g3,g4,hm,Zj,Ze,←htE,aunop,w1,hmax,w2,ed,hasl,str,KM,m1,JG,hq2];exact⟨m.tdiv 10,⟨_,b::s,rfl,by simp[g0],by simp[str],by simp,by rw[hq,←hs,hst];simp,by omega⟩,by omega⟩
theorem qsp{n:Nat}(h:0<n):dg n=(lb 10 n).reverse.map fun d=>(48+d).toUInt8:=by
 induction n using Nat.strongRecOn with
 | _ n ih =>
  rw[Zy (by decide) h,List.reverse_cons,List.map_append];by_cases h1:n<10
  ·rw[QN h1,Nat.div_eq_of_lt h1,Zh,Nat.mod_eq_of_lt h1];rfl
  ·rw[JV (by omega),ih (n/10) (by omega) (by omega)];rfl
theorem qtS:ZQ prog 5=true:=by kernel_rfl
theorem qtg:prog.cellsOf 5=1:=by kernel_rfl
theorem qtT:prog.underlying 116=some (.slice 5):=by kernel_rfl
theorem qtU:zlen prog 5=true:=by kernel_rfl
theorem qtR:prog.bytesOf 5=1:=by kernel_rfl
theorem qrs{H:Qf}{N:Nat}{x:AV}{l:List UInt8}(ho:Yc prog 5 H 0 N x (sbL l))(b:UInt8)(hl:l.length≤10000000):∃r H2 N2,(∀n env,aappend prog ⟨n,env,H.set N ⟨5,1,[[.v (.int .u8 (b.toNat:Int))]],false,some 1⟩,N+1⟩ 116 x (.ref N 1 0 1 none)=some (r,⟨n,env,H2,N2⟩))∧Yc prog 5 H2 0 N2 r (sbL (l++[b])):=by obtain⟨r,H2,N2,h1,h2,_,_⟩:=Yc.push (t:=116) (c:=[.v (.int .u8 (b.toNat:Int))]) ho (Nat.zero_le _) qtT qtS qtU qtg (by omega) rfl rfl (by rw[Y9,qtR];omega) (by rw[Y9];simp only[maxLen];omega) (fun q hq=>by obtain⟨x,_,rfl⟩:=List.mem_map.1 hq;rfl);exact⟨r,H2,N2,h1,by simpa[sbL]using h2⟩
theorem qqK(n:Int):aconv prog 3 5 (.v (.int .i64 n))=some (.v (.int .u8 (IntKind.u8.wrap n))):=by kernel_rfl
def mdI(D:List Nat)(pre:List UInt8)(k:Nat)(st:St):Prop:=k≤D.length∧∃env H N,st=⟨34,env,H,N⟩∧env 0=.ro (nl D)∧env 6=.v (.int .i64 ((k:Int)-1))∧Yc prog 5 H 0 N (env 5) (sbL (pre++(D.drop k).reverse.map fun d=>(48+d).toUInt8))
theorem qoJ(l:List Nat)(neg:Bool)(hl:∀x∈l,x<10)(hn:l.length≤1000000):Qg prog 51 [.ro (nl l),.v (.bool neg)] (zs (if neg=true then -((lv 10 l:Nat):Int)else((lv 10 l:Nat):Int))):=by
 refine⟨⟨_,_,func51,by kernel_rfl,rfl⟩,(Qv.data (Q:=fun r=>r=zs (if neg=true then -((lv 10 l:Nat):Int)else((lv 10 l:Nat):Int))) (Qv.QM func51 rfl (by simp[ntmps51]) ?_)).mono fun r H N h=>h.2.2⟩;have hct:=JT l (by omega);rw[ZO (B:=10) (by decide) _ hl]at hct;have hD:=YN (B:=10) (by decide) (lv 10 l);refine Qe.seq (Qd _ _ _ ?_);simp;refine Qe.seq (Qd _ _ _ ?_);simp;refine Qc.pv hct (by rw[List.all_cons,Qo];rfl) (Qo _) ?_;simp;by_cases h0:lv 10 l=0
 ·have e0:(if neg=true then -((lv 10 l:Nat):Int)else((lv 10 l:Nat):Int))=0:=by rw[h0];split<;>rfl
  rw[e0,h0,Zh,zs0];refine Qe.seq (Qd _ _ _ ?_);simp[nl];exact .dat _ 9 rfl
 have hne:lb 10 (lv 10 l)≠[]:=by rw[Zy (by decide) (by omega)];simp
 have hlen:(lb 10 (lv 10 l)).length≤1000000:=by have:=JM l l.length (Nat.le_refl _);rw[List.take_length]at this;rw[←ZO (B:=10) (by decide) _ hl,←this];simp;omega
 have hdg:=qsp (n:=lv 10 l) (by omega);have hz:il (if neg=true then -((lv 10 l:Nat):Int)else((lv 10 l:Nat):Int))=(if neg=true then[45]else[])++dg (lv 10 l):=by
  cases neg with
  | true=>rw[if_pos rfl,il,if_pos (by omega)];simp
  | false=>rw[if_neg (by decide),il,if_neg (by omega)];simp
 generalize lb 10 (lv 10 l)=D at *;generalize (if neg=true then -((lv 10 l:Nat):Int)else((lv 10 l:Nat):Int))=z at *;have hDl:0<D.length:=List.length_pos_iff.2 hne;have hDl':¬D.length=0:=by omega
 refine Qe.qdy (fun s=>∃env,s=⟨34,env,QQ,0⟩∧env 0=.ro (nl D)∧env 1=.v (.bool neg)) (Qd _ _ _ ?_) ?_
 ·simp[hDl']
 rintro _ ⟨env,rfl,g0,g1⟩;refine Qe.qdy (fun s=>∃env,s=⟨34,env,QQ,0⟩∧env 0=.ro (nl D)∧env 1=.v (.bool neg)∧env 5=.v (.slice none 0 0)) (Qd _ _ _ ?_) ?_
 ·simp[g0,g1]
 clear g0 g1;rintro _ ⟨env,rfl,g0,g1,g5⟩;refine Qe.qdy (fun s=>∃env H N,s=⟨34,env,H,N⟩∧env 0=.ro (nl D)∧Yc prog 5 H 0 N (env 5) (sbL (if neg=true then[45]else[]))) (Qd _ _ _ ?_) ?_
 ·cases neg with
  | false =>simp[g1,g5,sbL];exact⟨_,_,_,⟨rfl,rfl,rfl⟩,by simp[g0],by simp[g5];exact .inl ⟨rfl,rfl⟩⟩
  | true =>obtain⟨r,H2,N2,hr,ho⟩:=qrs (H:=QQ) (N:=0) (x:=.v (.slice none 0 0)) (l:=[]) (.inl ⟨rfl,rfl⟩) 45 (by simp);have hr':=hr;simp at hr';simp[g1,g5,qbL,Qs,hr'];exact⟨_,_,_,⟨rfl,rfl,rfl⟩,by simp[g0],by simp;exact ho⟩
 clear g0 g1 g5;have hpre:(if neg=true then([45]:List UInt8)else[]).length≤1:=by cases neg<;>simp
 generalize (if neg=true then([45]:List UInt8)else[])=pre at *;rintro _ ⟨env,H,N,rfl,g0,ho⟩;refine Qe.qdy (fun s=>∃env H N,s=⟨34,env,H,N⟩∧Yc prog 5 H 0 N (env 5) (sbL (il z))) (Qd _ _ _ ?_) ?_
 ·have w0:IntKind.i64.wrap ((D.length:Int)-1)=(D.length:Int)-1:=Ql (by omega) (by omega);simp[g0,w0];refine Qp.of (mdI D pre) (fun k=>k) D.length ⟨Nat.le_refl _,_,_,_,rfl,by simp[g0],by simp,by simpa using ho⟩ ?_;clear ho g0;rintro k _ ⟨hk,env,H,N,rfl,g0,g6,ho⟩;cases k with
  | zero =>rw[List.drop_zero,←hdg,←hz]at ho;simp[g0,g6];exact⟨_,_,_,⟨rfl,rfl,rfl⟩,by simpa using ho⟩
  | succ k =>
   have e6:((k+1:Nat):Int)-1=(k:Int):=by omega
   rw[e6]at g6;have hkD:k<D.length:=by omega
   have hd:=hD _ (List.getElem_mem hkD);have hdr:=List.drop_eq_getElem_cons hkD;have hge:=Q7 D k (by rw[QJ];exact hkD);generalize D[k]=d at hd hdr hge;have w1:IntKind.i64.wrap (48+(d:Int))=48+(d:Int):=Ql (by omega) (by omega);have w2:IntKind.u8.wrap (48+(d:Int))=((48+d).toUInt8.toNat:Int):=by rw[wrap_u8 (by omega) (by omega),ZT hd];omega
   have w3:IntKind.i64.wrap ((k:Int)-1)=(k:Int)-1:=Ql (by omega) (by omega);obtain⟨b,hb⟩:∃b,b=(48+d).toUInt8:=⟨_,rfl⟩;rw[←hb]at w2;obtain⟨r,H2,N2,hr,ho2⟩:=qrs ho b (by simp;omega);simp[g0,g6,hkD,hge,aload,w1,w2,w3,qqK,qbL,Qs,hr];refine⟨k,⟨by omega,_,_,_,rfl,by simp[g0],by simp,?_⟩,by omega⟩;rw[hdr];rw[hb]at ho2;simpa using ho2
 ·clear ho g0;rintro _ ⟨env,H,N,rfl,ho⟩;have hzl:il z≠[]:=fun e=>by obtain⟨b,t,e1,_⟩:=W8 z;rw[e]at e1;cases e1
  rcases ho with⟨_,he⟩|⟨id,cap,_,_,he,hb⟩
  ·exact(hzl (by simpa[sbL]using he)).elim
  refine Qe.seq (Qe.QW (K:=fun st=>∃env,st=⟨34,env,H,N⟩∧env 32=.ref id 1 0 (il z).length none) 1 ?_ ?_)
  ·simp[he,Y9]
  rintro _ ⟨env,rfl,g32⟩;refine Qx.step (u:=.v (.string ⟨(il z).toArray⟩)) (st1:=⟨34,env,H,N⟩) rfl (Qw.ofBytes (e:=5) (id:=id) (mx:=none) (l:=il z) rfl (by kernel_rfl) (by kernel_rfl) g32 hb qtg (List.length_pos_iff.2 hzl) fun j hj=>?_) rfl (Z0 _ _ _ ?_)
  ·simp[QZ,sbL,hj]
  simp;refine Qd _ _ _ ?_;simp;exact .dat _ 9 rfl
end
end Go.AX.Run
