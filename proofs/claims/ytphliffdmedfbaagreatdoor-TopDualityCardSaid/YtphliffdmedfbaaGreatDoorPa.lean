/- Part 1 of the proof: an abstract machine over the model, contracts of the functions, the mathematics of the simplex. -/
import Derived.Maps.AppendAt
import Derived.WalkKit
import Derived.RangeFuncFrom
import Derived.RangeFuncLeaves
import Derived.OrdersIn
import Derived.TacticsIn
import Derived.LaidEql
import Derived.Orders
set_option maxRecDepth 100000
set_option maxHeartbeats 8000000
set_option linter.all false
set_option exponentiation.threshold 5000
namespace Go.AX
def qo0:List Int:=[1,10,100,1000,10000,100000,1000000,10000000,100000000,1000000000,10000000000,100000000000,1000000000000,10000000000000,100000000000000,1000000000000000,10000000000000000,100000000000000000,1000000000000000000,10000000000000000000]
def tabs:List (Nat×List Value):=[(5,qo0.map fun z=>.int .u64 z)]
end Go.AX
namespace Go.AX
open Go.RowKit
inductive AV where
 | v (x:Value)
 | ro (es:List (List AV))
 | agg (cs:List AV)
 | tup (vs:List AV)
 | ref (id sz off len:Nat) (mx:Option Nat)
 | ptr (id sz idx off:Nat)
 | rop (cs:List AV)
 | fn (f:Fn) (first captured:List AV)
 | rc (es:List (List AV))
 | yl (id:Nat)
 | mp (ks:List Value) (vs:List AV)
 deriving Inhabited
structure Blk where
 ty:TypeId
 sz:Nat
 es:List (List AV)
 fz:Bool
 cap:Option Nat
structure Zw where
 n:Nat
 env:Nat→AV
 ps:Array Tmp
 assign:Code
 body:Code
 pend:Option Code
 busy:Bool
structure Qf where
 b:Nat→Option Blk
 L:Nat→Option Zw
instance:CoeFun Qf (fun _=>Nat→Option Blk):=⟨Qf.b⟩
structure Env where
 η:Nat→Nat
 κ:Nat→Nat
 S:Nat→Prop
 N:Nat
 Z:Nat→Prop
 D:Nat→Prop
 ZD:Nat→Prop
def QZ(es:List (List AV))(i j:Nat):Option AV:=match es[i]? with|some e=>e[j]?|none=>none
inductive Den(E:Env)(w:World):AV→Value→Prop
 | v (x:Value):Den E w (.v x) x
 | ro (es:List (List AV)) (A:Option Addr) (c sz:Nat) (z:Nat→Nat→Value) (hc:es.length≤c) (hm:es.length≤maxLen) (hs:∀e∈es,e.length=sz)
   (hA:0<es.length→∃a,A=some a∧E.S a.block∧∀i j x,QZ es i j=some x→w.cell? (a.add (i*sz+j))=some (z i j))
   (h:∀i j x,QZ es i j=some x→Den E w x (z i j)):Den E w (.ro es) (.slice A es.length c)
 | agg (cs:List AV) (zs:Array Value) (hl:zs.size=cs.length) (h:∀j x,cs[j]?=some x→Den E w x (zs.getD j undef)):Den E w (.agg cs) (.agg zs)
 | tup (cs:List AV) (zs:Array Value) (hl:zs.size=cs.length) (h:∀j x,cs[j]?=some x→Den E w x (zs.getD j undef)):Den E w (.tup cs) (.tuple zs)
 | ref (id sz off len:Nat) (mx:Option Nat) (A:Option Addr) (c:Nat) (hid:id<E.N) (hc:c=mx.getD (E.κ id-off)) (hle:off+c≤E.κ id∨c=0) (hlen:len≤c)
   (hA:0<c∨(off=0∧0<E.κ id)→A=some ⟨E.η id,off*sz,none⟩) (hs:0<E.κ id→A.isSome):Den E w (.ref id sz off len mx) (.slice A len c)
 | ptr (id sz idx off:Nat) (hid:id<E.N):Den E w (.ptr id sz idx off) (.pointer (some ⟨E.η id,idx*sz+off,none⟩))
 | rop (cs:List AV) (a:Addr) (z:Nat→Value) (hS:E.S a.block) (hA:∀j x,cs[j]?=some x→w.cell? (a.add j)=some (z j)) (h:∀j x,cs[j]?=some x→Den E w x (z j)):Den E w (.rop cs) (.pointer (some a))
 | fn (f:Fn) (fs cs:List AV) (fs' cs':Array Value) (hlf:fs'.size=fs.length) (hlc:cs'.size=cs.length) (hf:∀j x,fs[j]?=some x→Den E w x (fs'.getD j undef))
   (hc:∀j x,cs[j]?=some x→Den E w x (cs'.getD j undef)):Den E w (.fn f fs cs) (.func f fs' cs')
 | rc (es:List (List AV)) (A:Option Addr) (h:Den E w (.ro es) (.slice A es.length es.length)):Den E w (.rc es) (.slice A es.length es.length)
 | yl (id:Nat) (hid:id<E.N):Den E w (.yl id) (.func (.yield (E.η id)) #[] #[])
 | mp (ks:List Value) (vs:List AV) (r:Nat) (es:Array MapEntry) (clock:Nat) (z:Nat→Value) (hS:E.S r) (hw:w.heap[r]?=some (.map es clock)) (hk:es.toList.map (·.key)=ks) (hz:∀j e,es[j]?=some e→e.val=z j) (hl:vs.length=es.size)
   (h:∀j x,vs[j]?=some x→Den E w x (z j)):Den E w (.mp ks vs) (.map (some r))
structure Env.le(E E':Env):Prop where
 n:E.N≤E'.N
 η:∀i,i<E.N→E'.η i=E.η i
 κ:∀i,i<E.N→E'.κ i=E.κ i
 S:∀c,E.S c→E'.S c
 Z:E'.Z=E.Z
 D:∀c,E.D c→E'.D c
 ZD:E'.ZD=E.ZD
theorem Env.le.refl(E:Env):E.le E:=⟨Nat.le_refl _,fun _ _=>rfl,fun _ _=>rfl,fun _ h=>h,rfl,fun _ h=>h,rfl⟩
theorem Env.le.trans{E F G:Env}(h:E.le F)(k:F.le G):E.le G :=
 ⟨Nat.le_trans h.n k.n,fun i hi=>(k.η i (Nat.lt_of_lt_of_le hi h.n)).trans (h.η i hi),fun i hi=>(k.κ i (Nat.lt_of_lt_of_le hi h.n)).trans (h.κ i hi),fun c hc=>k.S c (h.S c hc),k.Z.trans h.Z,fun c hc=>k.D c (h.D c hc),k.ZD.trans h.ZD⟩
def QD(E:Env)(w w':World):Prop:=∀c,E.S c→w'.heap[c]?=w.heap[c]?
theorem QD.cell{E:Env}{w w':World}(h:QD E w w'){a:Addr}(hs:E.S a.block):w'.cell? a=w.cell? a:=World.cell?_of_block (h _ hs)
theorem Addr.JD(a:Addr)(n:Nat):(a.add n).block=a.block:=by unfold Addr.add;split<;>rfl
theorem Den.sub{E E':Env}{w w':World}(hen:E.N≤E'.N)(heη:∀i,i<E.N→E'.η i=E.η i)(heκ:∀i,i<E.N→E'.κ i=E.κ i)(heS:∀c,E.S c→E'.S c)(hk:QD E w w'){x:AV}{y:Value}(h:Den E w x y):Den E' w' x y:=by
 induction h with
 | v x=>exact .v x
 | ro es A c sz z hc hm hs hA h ih =>refine .ro es A c sz z hc hm hs (fun hp=>?_) ih;obtain⟨a,ea,hS,hcell⟩:=hA hp;exact⟨a,ea,heS _ hS,fun i j x hx=>(hk.cell (by rw[Addr.JD];exact hS)).trans (hcell i j x hx)⟩
 | agg cs zs hl h ih=>exact .agg cs zs hl ih
 | tup cs zs hl h ih=>exact .tup cs zs hl ih
 | ref id sz off len mx A c hid hc hle hlen hA hs =>
  refine .ref id sz off len mx A c (Nat.lt_of_lt_of_le hid hen) ?_ ?_ hlen (fun hp=>?_) (by rw[heκ id hid];exact hs)
  ·rw[heκ id hid];exact hc
  ·rw[heκ id hid];exact hle
  ·rw[heκ id hid]at hp;rw[heη id hid];exact hA hp
 | ptr id sz idx off hid =>rw[←heη id hid];exact .ptr id sz idx off (Nat.lt_of_lt_of_le hid hen)
 | rop cs a z hS hA h ih =>exact .rop cs a z (heS _ hS) (fun j x hx=>(hk.cell (by rw[Addr.JD];exact hS)).trans (hA j x hx)) ih
 | fn f fs cs fs' cs' hlf hlc hf hc ihf ihc=>exact .fn f fs cs fs' cs' hlf hlc ihf ihc
 | rc es A h ih=>exact .rc es A ih
 | yl id hid =>rw[←heη id hid];exact .yl id (Nat.lt_of_lt_of_le hid hen)
 | mp ks vs r es clock z hS hw hk' hz hl h ih=>exact .mp ks vs r es clock z (heS _ hS) ((hk r hS).trans hw) hk' hz hl ih
theorem Den.mono{E E':Env}{w w':World}(he:E.le E')(hk:QD E w w'){x:AV}{y:Value}(h:Den E w x y):Den E' w' x y:=h.sub he.n he.η he.κ he.S hk
def Zw.ZB(r:Zw)(fn:FuncId)(tmps:Array Value)(D:Nat):Loop :=
 { state:=if r.busy then .busy else if r.pend.isNone then .ready else .done,pending:=r.pend,fn,tmps,params:=r.ps,assign:=r.assign,body:=r.body,defers:=D }
def qb3(E:Env)(w:World)(k:Nat)(r:Zw):Prop :=
 ∃(fn:FuncId) (tmps:Array Value) (D:Nat),w.heap[k]?=some (.loop (r.ZB fn tmps D))∧tmps.size=r.n∧∀i,Den E w (r.env i) (tmps.getD i undef)
theorem qb3.mono{E E':Env}{w w':World}(he:E.le E')(hk:QD E w w'){k:Nat}{r:Zw}(hs:w'.heap[k]?=w.heap[k]?)(h:qb3 E w k r):qb3 E' w' k r:=by obtain⟨fn,tmps,D,h1,h2,h3⟩:=h;exact⟨fn,tmps,D,hs.trans h1,h2,fun i=>(h3 i).mono he hk⟩
theorem qb3.KV{E:Env}{w:World}{k:Nat}{r:Zw}(h:qb3 E w k r):∃q,w.heap[k]?=some q∧q.isCells=false:=by obtain⟨fn,tmps,D,h1,h2,h3⟩:=h;exact⟨_,h1,rfl⟩
def qb4(B:Nat)(w:World):Prop:=∀p∈tabs,p.1<B∧∃t o,w.heap[p.1]?=some (.cells p.2.toArray t o)
structure Bel(B:Nat)(w0 w:World):Prop extends Below B w0 w where
 tb:qb4 B w0
theorem Bel.trans{B:Nat}{a b c:World}(h:Bel B a b)(k:Below B b c):Bel B a c:=⟨h.toBelow.trans k,h.tb⟩
theorem Bel.alloc{B:Nat}{a w:World}(h:Bel B a w)(hB:B≤w.heap.size)(o:Obj):Bel B a (w.alloc o):=⟨h.toBelow.alloc hB o,h.tb⟩
theorem Bel.drew{B:Nat}{a w:World}(h:Bel B a w):Bel B a w.drew:=⟨h.toBelow.drew,h.tb⟩
theorem Bel.grown{B:Nat}{a w w':World}{row:Option Nat}(h:Bel B a w)(hg:w.grownBy w' row)(hB:B≤w.heap.size)(hr:∀k,row=some k→B≤k):Bel B a w':=⟨h.toBelow.grown hg hB hr,h.tb⟩
theorem Bel.at{B:Nat}{a w:World}(h:Bel B a w){p:Nat×List Value}(hp:p∈tabs){i:Nat}{v:Value}(hv:p.2[i]?=some v):w.cell? ⟨p.1,i,none⟩=some v :=
 (h.toBelow.cell (h.tb p hp).1).trans (by obtain⟨t,o,q⟩:=(h.tb p hp).2;unfold World.cell?;simp only[q];simpa using hv)
theorem Bel.base{B:Nat}{a w:World}(h:Bel B a w)(hB:B≤w.heap.size):Bel w.heap.size w w :=
 ⟨Below.refl _ _,fun p hp=>⟨Nat.lt_of_lt_of_le (h.tb p hp).1 hB,by obtain⟨g,t,o,q⟩:=h.tb p hp;exact⟨t,o,(h.toBelow.block _ g).trans q⟩⟩⟩
def glb(g o:Nat):Option (List AV):=match tabs.find? (fun p=>p.1==g)with|some p=>some ((p.2.drop o).map .v)|none=>none
structure Zm(E:Env)(B:Nat)(w0:World)(H:Qf)(w:World):Prop where
 lt:∀id b,H id=some b→id<E.N
 gst:∀id b,H id=some b→b.cap=some 0→E.κ id=0∧b.es=[]
 blk:∀id b,H id=some b→b.cap≠some 0→∃(cur:Array Value) (z:Nat→Nat→Value),w.heap[E.η id]?=some (.cells cur b.ty (0,0))∧cur.size=E.κ id*b.sz∧b.es.length≤E.κ id∧E.κ id≤maxLen∧B≤E.η id ∧
  (∀e∈b.es,e.length=b.sz)∧(∀k,b.cap=some k→E.κ id=k)∧(∀i j x,QZ b.es i j=some x→cur[i*b.sz+j]?=some (z i j))∧(∀i j x,QZ b.es i j=some x→Den E w x (z i j))
 inj:∀id id' b b',H id=some b→H id'=some b'→b.cap≠some 0→b'.cap≠some 0→E.η id=E.η id'→id=id'
 mu:∀id b,H id=some b→b.cap≠some 0→b.fz=false→¬E.S (E.η id)
 frz:∀id b,H id=some b→b.cap≠some 0→b.fz=true→E.S (E.η id)
 slt:∀c,E.S c→c<w.heap.size
 so:∀c,E.S c→E.Z c∨B≤c
 bas:B≤w.heap.size
 bel:Bel B w0 w
 obj:∀id o,H.L id=some o→id<E.N∧B≤E.η id∧¬E.S (E.η id)∧qb3 E w (E.η id) o
 dfr:∀c,E.D c→w.heap[c]?=some (.deferred (some []))∧¬E.S c
 dfb:∀c,E.D c→E.ZD c∨B≤c
 zdd:∀c,E.ZD c→E.D c
 oin:∀id id' o o',H.L id=some o→H.L id'=some o'→E.η id=E.η id'→id=id'
theorem Zm.real{E:Env}{B:Nat}{w0:World}{H:Qf}{w:World}(h:Zm E B w0 H w){id:Nat}{b:Blk}(hb:H id=some b)(hl:0<b.es.length):b.cap≠some 0:=fun hc=>by rw[(h.gst id b hb hc).2]at hl;simp at hl
theorem Zm.qo8{E:Env}{B:Nat}{w0:World}{H:Qf}{w:World}(h:Zm E B w0 H w){id:Nat}{b:Blk}(hb:H id=some b){i:Nat}{e:List AV}(he:b.es[i]?=some e):b.cap≠some 0 :=
 h.real hb (Nat.lt_of_le_of_lt (Nat.zero_le _) (List.getElem?_eq_some_iff.1 he).1)
theorem Zm.objs{E E':Env}{B:Nat}{w0:World}{H:Qf}{w w':World}(h:Zm E B w0 H w)(he:E.le E')(hD:∀c,E'.D c→E.D c)(hk:QD E w w')(hw:∀(c:Nat) (q:Obj),w.heap[c]?=some q→q.isCells=false→w'.heap[c]?=w.heap[c]?)
  (hS:∀c,E'.S c→E.S c∨∀q:Obj,w.heap[c]?=some q→q.isCells=true) {L:Nat→Option Zw} (hL:∀id o,L id=some o→H.L id=some o) :
  (∀id o,L id=some o→id<E'.N∧B≤E'.η id∧¬E'.S (E'.η id)∧qb3 E' w' (E'.η id) o)∧(∀c,E'.D c→w'.heap[c]?=some (.deferred (some []))∧¬E'.S c)∧(∀c,E'.D c→E'.ZD c∨B≤c)∧(∀c,E'.ZD c→E'.D c) ∧
   ∀id id' o o',L id=some o→L id'=some o'→E'.η id=E'.η id'→id=id':=by
 have h1:∀id o,L id=some o→id<E.N∧E'.η id=E.η id:=fun id o ho=>by have:=(h.obj id o (hL id o ho)).1;exact⟨this,he.η id this⟩
 refine⟨fun id o ho=>?_,fun c hc=>?_,fun c hc=>by rw[he.ZD];exact h.dfb c (hD c hc),fun c hc=>he.D c (h.zdd c (by rw[←he.ZD];exact hc)),fun id id' o o' ho ho' e=>h.oin id id' o o' (hL _ _ ho) (hL _ _ ho') (by rw[←(h1 id o ho).2,←(h1 id' o' ho').2];exact e)⟩
 ·obtain⟨g1,g2,g3,g4⟩:=h.obj id o (hL id o ho);obtain⟨q,hq,hqc⟩:=g4.KV;rw[(h1 id o ho).2];refine⟨Nat.lt_of_lt_of_le g1 he.n,g2,fun hs=>?_,g4.mono he hk (hw _ q hq hqc)⟩;rcases hS _ hs with h'|h'
  ·exact g3 h'
  ·rw[h' q hq]at hqc;cases hqc
 ·obtain⟨g1,g2⟩:=h.dfr c (hD c hc);refine⟨(hw c _ g1 rfl).trans g1,fun hs=>?_⟩;rcases hS _ hs with h'|h'
  ·exact g2 h'
  ·have:=h' _ g1;cases this
structure JC(ds:List Nat)(w w2:World):Prop where
 os:w2.os=w.os
 tape:w2.tape=w.tape
 output:w2.output=w.output
 size:w2.heap.size=w.heap.size
 heap:∀k,k ∉ ds→w2.heap[k]?=w.heap[k]?
theorem JC.keeps{E:Env}{ds:List Nat}{w w2:World}(h:JC ds w w2)(hds:∀c∈ds,¬E.S c):QD E w w2:=fun c hc=>h.heap c (fun hm=>hds c hm hc)
theorem Zm.turn{E:Env}{B:Nat}{w0:World}{H:Qf}{w w2:World}(h:Zm E B w0 H w){ds:List Nat}(hw:JC ds w w2)(hds:∀c∈ds,(∃q,w.heap[c]?=some q∧q.isCells=false)∧B≤c∧¬E.S c)(D ZD:Nat→Prop)(hD:∀c,D c→E.D c∧c ∉ ds∧(ZD c∨B≤c))(hZ:∀c,ZD c→D c)
  (L:Nat→Option Zw) (hL:∀id r,L id=some r→∃r0,H.L id=some r0∧((r=r0∧E.η id ∉ ds)∨qb3 ⟨E.η,E.κ,E.S,E.N,E.Z,D,ZD⟩ w2 (E.η id) r)) :
  Zm ⟨E.η,E.κ,E.S,E.N,E.Z,D,ZD⟩ B w0 { H with L:=L } w2:=by
 have hkp:QD E w w2:=hw.keeps fun c hc=>(hds c hc).2.2;have hden:∀{x:AV} {y:Value},Den E w x y→Den ⟨E.η,E.κ,E.S,E.N,E.Z,D,ZD⟩ w2 x y:=fun hd=>Den.sub (E:=E) (E':=⟨E.η,E.κ,E.S,E.N,E.Z,D,ZD⟩) (Nat.le_refl _) (fun _ _=>rfl) (fun _ _=>rfl) (fun _ h=>h) hkp hd;refine⟨h.lt,h.gst,fun id b hb hc0=>?_,h.inj,h.mu,h.frz,fun c hc=>by rw[hw.size];exact h.slt c hc,h.so,by rw[hw.size];exact h.bas,h.bel.trans ⟨hw.os,hw.tape,hw.output,by rw[hw.size];exact Nat.le_refl _,fun k hk=>hw.heap k fun hm=>by have:=(hds k hm).2.1;omega⟩,fun id r hr=>?_,fun c hc=>?_,fun c hc=>(hD c hc).2.2,hZ,fun id id' r r' hr hr' e=>by obtain⟨r0,h0,_⟩:=hL id r hr;obtain⟨r1,h1,_⟩:=hL id' r' hr';exact h.oin id id' r0 r1 h0 h1 e⟩
 ·obtain⟨cur,z,q1,q2,q3,q4,q5,q6,q7,q8,q9⟩:=h.blk id b hb hc0;exact⟨cur,z,(hw.heap _ fun hm=>by obtain⟨q,hq,hqc⟩:=(hds _ hm).1;rw[q1]at hq;injection hq with hq;subst hq;cases hqc).trans q1,q2,q3,q4,q5,q6,q7,q8,fun i j x hx=>hden (q9 i j x hx)⟩
 ·obtain⟨r0,h0,hr0⟩:=hL id r hr;obtain⟨q1,q2,q3,q4⟩:=h.obj id r0 h0;refine⟨q1,q2,q3,?_⟩;rcases hr0 with⟨rfl,hn⟩|hr0
  ·obtain⟨fn,tmps,D',q4,q5,q6⟩:=q4;exact⟨fn,tmps,D',(hw.heap _ hn).trans q4,q5,fun i=>hden (q6 i)⟩
  ·exact hr0
 ·obtain⟨q1,q2⟩:=h.dfr c (hD c hc).1;exact⟨(hw.heap c (hD c hc).2.1).trans q1,q2⟩
theorem JC.refl(w:World):JC [] w w:=⟨rfl,rfl,rfl,rfl,fun _ _=>rfl⟩
structure St where
 n:Nat
 env:Nat→AV
 H:Qf
 N:Nat
structure Rel(E:Env)(B:Nat)(w0:World)(st:St)(a:Act)(w:World):Prop where
 d:∃ds:List Nat,a.defers=ds.map (fun c=>{ target:=.collected c,args:=#[] })∧ds.Nodup∧∀c∈ds,E.D c∧¬E.ZD c
 n:a.tmps.size=st.n
 t:∀i,Den E w (st.env i) (a.tmps.getD i undef)
 h:Zm E B w0 st.H w
 N:E.N=st.N
theorem Rel.dle{E E':Env}{B:Nat}{w0:World}{st:St}{a:Act}{w:World}(hr:Rel E B w0 st a w)(he:E.le E'):∃ds:List Nat,a.defers=ds.map (fun c=>{ target:=.collected c,args:=#[] })∧ds.Nodup∧∀c∈ds,E'.D c∧¬E'.ZD c:=by obtain⟨ds,h1,h2,h3⟩:=hr.d;exact⟨ds,h1,h2,fun c hc=>⟨he.D c (h3 c hc).1,by rw[he.ZD];exact(h3 c hc).2⟩⟩
theorem Rel.le{E E':Env}{B:Nat}{w0:World}{st:St}{a:Act}{w w':World}(hr:Rel E B w0 st a w)(he:E.le E')(hk:QD E w w'){H':Qf}{N':Nat}(hH:Zm E' B w0 H' w')(hN:E'.N=N'):Rel E' B w0 { st with H:=H',N:=N' } a w' :=
 ⟨by obtain⟨ds,h1,h2,h3⟩:=hr.d;exact⟨ds,h1,h2,fun c hc=>⟨he.D c (h3 c hc).1,by rw[he.ZD];exact(h3 c hc).2⟩⟩,hr.n,fun i=>(hr.t i).mono he hk,hH,hN⟩
def ev(st:St):Operand→AV
 | .tmp t=>st.env t
 | .const x=>.v x
 | .global g=>.v (.pointer (some ⟨g,0,none⟩))
 | .func f=>.fn (.func f) [] []
theorem Rel.ev{E:Env}{B:Nat}{w0:World}{st:St}{a:Act}{w:World}(h:Rel E B w0 st a w)(x:Operand):Den E w (ev st x) (a.eval x):=by
 cases x with
 | tmp t=>exact h.t t
 | const x=>exact .v x
 | global g=>exact .v _
 | func f=>exact .fn _ [] [] #[] #[] rfl rfl (fun j x hx=>by simp at hx) (fun j x hx=>by simp at hx)
def upd(env:Nat→AV)(d:Nat)(x:AV):Nat→AV:=fun i=>if i=d then x else env i
def St.put(st:St)(dst:Option Tmp)(x:AV):Option St :=
 match dst with
 | none=>some st
 | some d=>if d<st.n then some { st with env:=upd st.env d x }else none
theorem Rel.put{E:Env}{B:Nat}{w0:World}{st st':St}{a:Act}{w:World}(h:Rel E B w0 st a w){dst:Option Tmp}{x:AV}{y:Value}(hx:Den E w x y)(hp:st.put dst x=some st'):Rel E B w0 st' (a.put dst y) w:=by
 cases dst with
 | none=>simp[St.put]at hp;subst hp;exact h
 | some d =>
  simp only[St.put]at hp;split at hp
  ·rename_i hd;injection hp with hp;subst hp;refine⟨h.d,by simpa[Act.put]using h.n,fun i=>?_,h.h,h.N⟩;simp only[Act.put,upd];by_cases hi:i=d
   ·subst hi;rw[if_pos rfl];simpa[Array.getD_eq_getD_getElem?,Array.getElem?_setIfInBounds,h.n,hd]using hx
   ·rw[if_neg hi];have:=h.t i;simpa[Array.getD_eq_getD_getElem?,Array.getElem?_setIfInBounds,Ne.symm hi]using this
  ·cases hp
def abin(op:BinOp)(x y:Value):Option Value :=
 match x,y with
 | .int k a,.int k' b =>
  match op with
  | .shl=>if 0≤b then some (.int k (k.wrap (a*2^(min b.toNat k.bits))))else none
  | .shr=>if 0≤b then some (.int k (a.fdiv (2^(min b.toNat k.bits))))else none
  | .add=>if k=k' then some (.int k (k.wrap (a+b)))else none
  | .sub=>if k=k' then some (.int k (k.wrap (a-b)))else none
  | .mul=>if k=k' then some (.int k (k.wrap (a*b)))else none
  | .quo=>if k=k'∧b≠0 then some (.int k (k.wrap (a.tdiv b)))else none
  | .rem=>if k=k'∧b≠0 then some (.int k (a.tmod b))else none
  | .eql=>if k=k' then some (.bool (decide (a=b)))else none
  | .neq=>if k=k' then some (.bool (!decide (a=b)))else none
  | .lss=>if k=k' then some (.bool (decide (a<b)))else none
  | .leq=>if k=k' then some (.bool (decide (a≤b)))else none
  | .gtr=>if k=k' then some (.bool (decide (b<a)))else none
  | .geq=>if k=k' then some (.bool (decide (b≤a)))else none
  | .and=>if k=k' then some (.int k (k.wrap (BitVec.ofInt k.bits a &&& BitVec.ofInt k.bits b).toNat))else none
  | .or=>if k=k' then some (.int k (k.wrap (BitVec.ofInt k.bits a ||| BitVec.ofInt k.bits b).toNat))else none
  | .xor=>if k=k' then some (.int k (k.wrap (BitVec.ofInt k.bits a ^^^ BitVec.ofInt k.bits b).toNat))else none
  | _=>none
 | .string a,.string b =>
  match op with
  | .add=>if a.size+b.size≤maxLen then some (.string (a++b))else none
  | .eql=>some (.bool (decide (a=b)))
  | .neq=>some (.bool (!decide (a=b)))
  | .lss=>some (.bool (Op.bytesLess a.toList b.toList))
  | _=>none
 | _,_=>none
theorem qkS(a b:ByteArray):(a.toList==b.toList)=decide (a=b):=by
 by_cases h:a=b
 ·subst h;simp
 ·have:a.toList≠b.toList:=fun e=>h (by
   have e1:a.data.toList=b.data.toList:=by simpa[ByteArray.toList_eq]using e
   cases a;cases b;simp at e1;subst e1;rfl)
  simp[h,this]
theorem qks{P:Program}{op:BinOp}{x y z:Value}(h:abin op x y=some z)(t:TypeId)(a b:Operand)(w:World) :
  (do eqGuard op t a b x y;binOp op t x y:Sem Value).run P w=.ok z w:=by
 unfold abin at h;split at h
 ·rename_i k m k' n;cases op<;>simp only[]at h<;>(try cases h)<;>(split at h<;>(try cases h))<;>rename_i hc <;>
   first
   | (simp[eqGuard,binOp,Op.shift,Int.not_lt.mpr hc];done)
   | (subst hc;simp[eqGuard,binOp,Op.intArith,Op.intBits,Op.intCmp];done)
   | (subst hc;simp[eqGuard,binOp,Op.intCmp,BEq.beq,bne];done)
   | (obtain⟨rfl,hb⟩:=hc;simp[eqGuard,binOp,Op.intDiv,hb];done)
 ·cases op<;>simp only[]at h<;>(try cases h)
  ·split at h<;>cases h;rename_i hc;have hm:IntKind.i64.max=9223372036854775807:=rfl;simp only[maxLen]at hc;simp[eqGuard,binOp,Op.stringOp,hm];omega
  all_goals simp[eqGuard,binOp,Op.stringOp,qkS]
 ·cases h
def Jm(P:Program)(t:TypeId):Bool:=match P.underlying t with|some (.struct _)|some (.array _ _)=>true|_=>false
def ZQ(P:Program)(t:TypeId):Bool:=(P.underlying t).isSome&&(P.info? t).isSome
theorem JL{P:Program}{t:TypeId}(h:ZQ P t=true)(w:World):(isAgg t).run P w=.ok (Jm P t) w:=by simp only[ZQ,Bool.and_eq_true,Option.isSome_iff_exists]at h;obtain⟨⟨d,hd⟩,_⟩:=h;simp only[isAgg,Sem.run_bind,run_underlying hd,Result.andThen_ok,Jm,hd];cases d<;>simp
theorem QG{P:Program}{t:TypeId}(h:ZQ P t=true)(w:World):(sizeOf t).run P w=.ok (P.cellsOf t) w:=by simp only[ZQ,Bool.and_eq_true,Option.isSome_iff_exists]at h;obtain⟨_,i,hi⟩:=h;simp[sizeOf,typeInfo,hi,Program.cellsOf]
def apart(P:Program)(t:TypeId)(cs:List AV)(off:Nat):Option AV :=
 if ZQ P t then
  if Jm P t then(if off+P.cellsOf t≤cs.length then some (.agg ((cs.drop off).take (P.cellsOf t)))else none)else cs[off]?
 else none
theorem qcc{P:Program}{E:Env}{w:World}{t:TypeId}{cs:List AV}{off:Nat}{x:AV}(h:apart P t cs off=some x)(zs:Array Value)(hl:zs.size=cs.length)(hz:∀j x,cs[j]?=some x→Den E w x (zs.getD j undef)) :
  ∃y,(part t zs off).run P w=.ok y w∧Den E w x y:=by
 unfold apart at h;split at h
 ·rename_i ht;split at h
  ·rename_i ha;split at h
   ·rename_i hle;cases h;refine⟨.agg (zs.extract off (off+P.cellsOf t)),by simp[part,JL ht,ha,QG ht],.agg _ _ (by simp;omega) (fun j x hx=>?_)⟩;rw[List.getElem?_take]at hx;split at hx
    ·rename_i hj;rw[List.getElem?_drop]at hx;have:=hz _ _ hx;have hlt:off+j<zs.size:=by rw[hl];exact(List.getElem?_eq_some_iff.1 hx).1
     simpa[Array.getD_eq_getD_getElem?,Array.getElem?_extract,show off+j<min (off+P.cellsOf t) zs.size by omega,show j<min (off+P.cellsOf t) zs.size-off by omega,hlt]using this
    ·cases hx
   ·cases h
  ·rename_i ha;have hlt:off<zs.size:=by rw[hl];exact(List.getElem?_eq_some_iff.1 h).1
   refine⟨zs.getD off undef,?_,hz _ _ h⟩;simp[part,JL ht,ha,Array.getElem?_eq_getElem hlt,Array.getD_eq_getD_getElem?]
 ·cases h
def idx(x:AV):Option Int:=match x with|.v (.int _ i)=>some i|_=>none
def at_(H:Qf)(x:AV):Option (List AV) :=
 match x with
 | .rop cs=>some cs
 | .ptr id sz i off=>match H id with|some b=>if b.sz=sz then(match b.es[i]? with|some e=>if off≤sz then some (e.drop off)else none|none=>none)else none|none=>none
 | .v (.pointer (some ⟨g,o,none⟩))=>glb g o
 | _=>none
def aload(P:Program)(st:St)(t:TypeId)(x:AV):Option AV :=
 if ZQ P t then
  match at_ st.H x with
  | some cs=>if Jm P t then(if P.cellsOf t≤cs.length then some (.agg (cs.take (P.cellsOf t)))else none)else cs[0]?
  | none=>none
 else none
def Qh(P:Program)(st:St)(t:TypeId)(x:AV)(i:Int):Option AV :=
 match P.underlying t with
 | some (.slice e) =>
  if ZQ P e then
   match x with
   | .ro es=>if 0≤i then(match es[i.toNat]? with|some c=>if c.length=P.cellsOf e then some (.rop c)else none|none=>none)else none
   | .ref id sz off len _=>if 0≤i∧i<len∧sz=P.cellsOf e then some (.ptr id sz (off+i.toNat) 0)else none
   | _=>none
  else none
 | some (.array n e) =>
  if ZQ P e∧0≤i∧i<n then
   match x with
   | .rop cs=>some (.rop (cs.drop (i.toNat*P.cellsOf e)))
   | .ptr id sz k off=>some (.ptr id sz k (off+i.toNat*P.cellsOf e))
   | .v (.pointer (some ⟨g,o,none⟩))=>some (.v (.pointer (some ⟨g,o+i.toNat*P.cellsOf e,none⟩)))
   | _=>none
  else none
 | _=>none
def Qk(P:Program)(t:TypeId)(x:AV)(f:Nat):Option AV :=
 match P.underlying t with
 | some (.struct fs)=>match fs[f]? with
  | some g=>if ZQ P g.type∧P.cellsOf g.type≠0 then
    match x with
    | .rop cs=>some (.rop (cs.drop g.offset))
    | .ptr id sz k off=>some (.ptr id sz k (off+g.offset))
    | _=>none
   else none
  | none=>none
 | _=>none
def abounds(len:Nat)(lo hi:Option AV):Option (Nat×Nat) :=
 match (match hi with|none=>some (len:Int)|some x=>idx x)with
 | some h=>match (match lo with|none=>some (0:Int)|some x=>idx x)with
  | some l=>if 0≤l∧l≤h∧h≤len then some (l.toNat,h.toNat)else none
  | none=>none
 | none=>none
def aslice(P:Program)(t:TypeId)(x:AV)(lo hi:Option AV):Option AV :=
 match P.underlying t with
 | some .string=>match x with
  | .v (.string s)=>match abounds s.size lo hi with|some (l,h)=>some (.v (.string (s.extract l h)))|none=>none
  | _=>none
 | some (.slice e) =>
  if ZQ P e then
   match x with
   | .ro es=>match abounds es.length lo hi with|some (l,h)=>if ∀c∈es,c.length=P.cellsOf e then some (.ro ((es.take h).drop l))else none|none=>none
   | .ref id sz off len mx=>if sz=P.cellsOf e then(match abounds len lo hi with|some (l,h)=>some (.ref id sz (off+l) (h-l) (mx.map (·-l)))|none=>none)else none
   | .v (.slice none 0 0)=>match abounds 0 lo hi with|some _=>some (.v (.slice none 0 0))|none=>none
   | _=>none
  else none
 | _=>none
def alen(P:Program)(t:TypeId)(x:AV):Option AV :=
 match P.underlying t,x with
 | some .string,.v (.string s)=>some (.v (.int .i64 s.size))
 | some (.slice _),.ro es=>some (.v (.int .i64 es.length))
 | some (.slice _),.ref _ _ _ len _=>some (.v (.int .i64 len))
 | some (.slice _),.v (.slice none 0 0)=>some (.v (.int .i64 0))
 | some (.array n _),_=>some (.v (.int .i64 n))
 | _,_=>none
theorem Wb{P:Program}{t:TypeId}{i:TypeInfo}(h:P.info? t=some i):P.cellsOf t=i.size:=by simp[Program.cellsOf,h]
section
variable{P:Program}{E:Env}{B:Nat}{w0:World}{st:St}{a:Act}{w:World}
theorem Zn(g o n:Nat):(⟨g,o,none⟩:Addr).add n=⟨g,o+n,none⟩:=by unfold Addr.add;split<;>simp_all
theorem add_add(x:Addr)(m n:Nat):(x.add m).add n=x.add (m+n):=by
 unfold Addr.add;by_cases hm:m=0
 ·subst hm;simp
 ·by_cases hn:n=0
  ·subst hn;simp
  ·simp[hm,hn,Nat.add_assoc]
theorem qtQ(H H':Qf)(y:Value):at_ H (.v y)=at_ H' (.v y):=by
 cases y<;>try rfl
 rename_i p;cases p with
 | none=>rfl
 | some ad=>obtain⟨g,o,sp⟩:=ad;cases sp<;>rfl
theorem qeR(h:Zm E B w0 st.H w){x:AV}{y:Value}(hx:Den E w x y){cs:List AV}(hc:at_ st.H x=some cs) :
  ∃(ad:Addr) (z:Nat→Value),y=.pointer (some ad)∧∀j u,cs[j]?=some u→w.cell? (ad.add j)=some (z j)∧Den E w u (z j):=by
 cases hx with
 | rop cs' ad z hS hA hd =>simp only[at_,Option.some.injEq]at hc;subst hc;exact⟨ad,z,rfl,fun j u hu=>⟨hA j u hu,hd j u hu⟩⟩
 | ptr id sz i off hid =>
  simp only[at_]at hc;split at hc
  ·rename_i b hb;split at hc
   ·rename_i hsz;subst hsz;split at hc
    ·rename_i e he;split at hc
     ·cases hc;obtain⟨cur,z,hheap,hcur,_,_,_,_,_,hz,hd⟩:=h.blk id b hb (h.qo8 hb he);refine⟨_,fun j=>z i (off+j),rfl,fun j u hu=>?_⟩;rw[List.getElem?_drop]at hu;have hg:QZ b.es i (off+j)=some u:=by simp[QZ,he,hu]
      refine⟨?_,hd _ _ _ hg⟩;rw[Zn,cell_of_row w _ _ cur b.ty (0,0) hheap];have:=hz _ _ _ hg;rwa[show i*b.sz+off+j=i*b.sz+(off+j) by omega]
     ·cases hc
    ·cases hc
   ·cases hc
  ·cases hc
 | v =>
  cases y<;>simp only[at_]at hc<;>(try cases hc);rename_i ad;cases ad with
  | none=>simp at hc
  | some ad =>
   obtain⟨g,o,sp⟩:=ad;cases sp with
   | some k=>simp at hc
   | none =>
    simp only[glb]at hc;split at hc
    ·rename_i p hp;cases hc;have hm:=List.mem_of_find?_eq_some hp;have hg:p.1=g:=by have:=List.find?_some hp;simpa using this
     subst hg;refine⟨_,fun j=>(p.2[o+j]?).getD undef,rfl,fun j u hu=>?_⟩;rw[List.getElem?_map,List.getElem?_drop]at hu;cases hv:p.2[o+j]? with
     | none=>rw[hv]at hu;simp at hu
     | some v =>rw[hv]at hu;simp only[Option.map_some,Option.some.injEq]at hu;subst hu;simp only[hv,Option.getD_some];exact⟨by rw[Zn];exact h.bel.at hm hv,.v v⟩
    ·cases hc
 | _=>simp[at_]at hc
theorem qgx{ad:Addr}{cs:List AV}{z:Nat→Value}(h:∀j u,cs[j]?=some u→w.cell? (ad.add j)=some (z j)∧Den E w u (z j))(n:Nat)(hn:n≤cs.length) :
  (loadCells ad n).run P w=.ok ((List.range n).map z).toArray w:=by
 refine run_loadCells w ad n z fun j hj=>?_;have:j<cs.length:=by omega
 exact(h j _ (List.getElem?_eq_getElem this)).1
theorem qca(h:Zm E B w0 st.H w){t:TypeId}{x u:AV}{y:Value}(hx:Den E w x y)(hl:aload P st t x=some u) :
  ∃z,(Instr.loadAt t y).run P w=.ok z w∧Den E w u z:=by
 unfold aload at hl;split at hl
 ·rename_i ht;split at hl
  ·rename_i cs hc;obtain⟨ad,z,rfl,hz⟩:=qeR h hx hc;split at hl
   ·rename_i ha;split at hl
    ·rename_i hle;cases hl;refine⟨.agg ((List.range (P.cellsOf t)).map z).toArray,?_,.agg _ _ (by simp;omega) (fun j v hv=>?_)⟩
     ·simp[Instr.loadAt,Instr.sureAddr,loadVar,JL ht,ha,QG ht,qgx hz _ hle]
     ·rw[List.getElem?_take]at hv;split at hv
      ·rename_i hj;have:=(hz j v hv).2;simpa[Array.getD_eq_getD_getElem?,hj]using this
      ·cases hv
    ·cases hl
   ·rename_i ha;refine⟨z 0,?_,(hz 0 u hl).2⟩;have:=(hz 0 u hl).1;simp[Addr.add]at this;simp[Instr.loadAt,Instr.sureAddr,loadVar,JL ht,ha,this]
  ·cases hl
 ·cases hl
theorem qbt{x:AV}{y:Value}{i:Int}(hi:idx x=some i)(hx:Den E w x y):∃k,y=.int k i:=by cases hx<;>simp only[idx]at hi<;>(try cases hi);cases y<;>simp only[]at hi<;>(try cases hi);exact⟨_,rfl⟩
theorem qbn{t:TypeId}{x u:AV}{y:Value}{f:Nat}(hx:Den E w x y)(hl:Qk P t x f=some u) :
  ∃z,(Instr.fieldAt t y f).run P w=.ok z w∧Den E w u z:=by
 unfold Qk at hl;split at hl
 ·rename_i fs hu;split at hl
  ·rename_i g hg;split at hl
   ·rename_i ht;obtain⟨ht,hne⟩:=ht;cases hx<;>simp only[]at hl<;>(try cases hl)
    ·rename_i id sz k off hid;refine⟨.pointer (some ⟨E.η id,k*sz+(off+g.offset),none⟩),?_,.ptr id sz k (off+g.offset) hid⟩;simp[Instr.fieldAt,run_underlying hu,hg,Instr.sureAddr,fieldPlace,QG ht,hne,Zn,Nat.add_assoc]
    ·rename_i cs ad z hS hA hd;refine⟨.pointer (some (ad.add g.offset)),?_,.rop _ _ (fun j=>z (g.offset+j)) (by rw[Addr.JD];exact hS) (fun j v hv=>?_) (fun j v hv=>?_)⟩
     ·simp[Instr.fieldAt,run_underlying hu,hg,Instr.sureAddr,fieldPlace,QG ht,hne]
     ·rw[add_add];rw[List.getElem?_drop]at hv;exact hA _ _ hv
     ·rw[List.getElem?_drop]at hv;exact hd _ _ hv
   ·cases hl
  ·cases hl
 ·cases hl
theorem qbu{t:TypeId}{x u:AV}{y:Value}{k:IntKind}{i:Int}(hx:Den E w x y)(hl:Qh P st t x i=some u) :
  ∃z,(Instr.indexAt t y (.int k i)).run P w=.ok z w∧Den E w u z:=by
 unfold Qh at hl;split at hl
 ·rename_i e hu;split at hl
  ·rename_i ht;cases hx<;>simp only[]at hl<;>(try cases hl)
   ·rename_i es A c sz z hc hm hs hA hd;split at hl
    ·rename_i hi;split at hl
     ·rename_i cl hcl;split at hl
      ·rename_i hlen;cases hl;have hlt:=(List.getElem?_eq_some_iff.1 hcl).1;have hsz:sz=P.cellsOf e:=by rw[←hlen];exact(hs cl (List.mem_of_getElem? hcl)).symm
       obtain⟨ad,rfl,hS,hcell⟩:=hA (by omega);refine⟨.pointer (some (ad.add (i.toNat*P.cellsOf e))),?_,.rop _ _ (fun j=>z i.toNat j) (by rw[Addr.JD];exact hS) (fun j v hv=>?_) (fun j v hv=>?_)⟩
       ·simp[Instr.indexAt,asIntOf,run_underlying hu,QG ht,hi,show i<(es.length:Int) by omega]
       ·rw[add_add,←hsz];exact hcell _ _ _ (by simp only[QZ,hcl];exact hv)
       ·exact hd _ _ _ (by simp only[QZ,hcl];exact hv)
      ·cases hl
     ·cases hl
    ·cases hl
   ·rename_i id sz off len mx A c hid hc hle hlen hA hs;split at hl
    ·rename_i hi;obtain⟨hi0,hi1,hsz⟩:=hi;cases hl;have hA':=hA (.inl (by omega));subst hA';refine⟨.pointer (some ⟨E.η id,(off+i.toNat)*sz+0,none⟩),?_,.ptr id sz _ 0 hid⟩;simp[Instr.indexAt,asIntOf,run_underlying hu,QG ht,hi0,hi1,Zn,←hsz,Nat.add_mul]
    ·cases hl
  ·cases hl
 ·rename_i n e hu;split at hl
  ·rename_i h3;obtain⟨ht,hi0,hi1⟩:=h3;cases hx<;>(try simp only[]at hl)<;>(try cases hl)
   ·cases y<;>(try simp only[]at hl)<;>(try cases hl);rename_i ad;cases ad with
    | none=>simp at hl
    | some ad =>
     obtain⟨g,o,sp⟩:=ad;cases sp with
     | some k=>simp at hl
     | none =>cases hl;refine⟨.pointer (some ⟨g,o+i.toNat*P.cellsOf e,none⟩),?_,.v _⟩;simp[Instr.indexAt,asIntOf,run_underlying hu,QG ht,hi0,hi1,Instr.sureAddr,Zn]
   ·rename_i id sz q off hid;refine⟨.pointer (some ⟨E.η id,q*sz+(off+i.toNat*P.cellsOf e),none⟩),?_,.ptr id sz q _ hid⟩;simp[Instr.indexAt,asIntOf,run_underlying hu,QG ht,hi0,hi1,Instr.sureAddr,Zn,Nat.add_assoc]
   ·rename_i cs ad z hS hA hd;refine⟨.pointer (some (ad.add (i.toNat*P.cellsOf e))),?_,.rop _ _ (fun j=>z (i.toNat*P.cellsOf e+j)) (by rw[Addr.JD];exact hS) (fun j v hv=>?_) (fun j v hv=>?_)⟩
    ·simp[Instr.indexAt,asIntOf,run_underlying hu,QG ht,hi0,hi1,Instr.sureAddr]
    ·rw[add_add];rw[List.getElem?_drop]at hv;exact hA _ _ hv
    ·rw[List.getElem?_drop]at hv;exact hd _ _ hv
  ·cases hl
 ·cases hl
theorem KN{len cap:Nat}(hlc:len≤cap){lo hi:Option AV}{l h:Nat}(hb:abounds len lo hi=some (l,h))(b:Bool){lo' hi':Option Value}(hlo:∀x,lo=some x→∃y,lo'=some y∧Den E w x y)(hlo0:lo=none→lo'=none)
  (hhi:∀x,hi=some x→∃y,hi'=some y∧Den E w x y) (hhi0:hi=none→hi'=none) :
  (Instr.sliceBounds b len cap lo' hi' none).run P w=.ok (l,h,cap) w∧l≤h∧h≤len:=by
 unfold abounds at hb;split at hb
 ·rename_i h' hh;split at hb
  ·rename_i l' hl;split at hb
   ·rename_i hc;obtain⟨c0,c1,c2⟩:=hc;simp only[Option.some.injEq,Prod.mk.injEq]at hb;obtain⟨rfl,rfl⟩:=hb;refine⟨?_,by omega,by omega⟩;have HH:∀W:World,W=w→(match hi' with|some v=>Instr.sliceBound v cap (if b then BoundsCode.sliceAcap else .sliceAlen)|none=>(pure len:Sem Nat)).run P W=.ok h'.toNat W:=by
     intro W hW;cases hi with
     | none=>simp only[]at hh;rw[hhi0 rfl];simp only[Option.some.injEq]at hh;subst hh;simp
     | some x =>obtain⟨y,hy,hd⟩:=hhi x rfl;simp only[]at hh;obtain⟨k,rfl⟩:=qbt hh hd;rw[hy];simp[Instr.sliceBound,asIntOf,show 0≤h' by omega,show h'≤(cap:Int) by omega]
    have HL:∀W:World,W=w→(match lo' with|some v=>Instr.sliceBound v h'.toNat BoundsCode.sliceB|none=>(pure 0:Sem Nat)).run P W=.ok l'.toNat W:=by
     intro W hW;cases lo with
     | none=>simp only[]at hl;rw[hlo0 rfl];simp only[Option.some.injEq]at hl;subst hl;simp
     | some x =>obtain⟨y,hy,hd⟩:=hlo x rfl;simp only[]at hl;obtain⟨k,rfl⟩:=qbt hl hd;rw[hy];simp[Instr.sliceBound,asIntOf,c0,show l'≤max h' 0 by omega]
    have H1:=HH w rfl;have H2:=HL w rfl;cases hi'<;>cases lo'<;>simp_all[Instr.sliceBounds]
   ·cases hb
  ·cases hb
 ·cases hb
end
section
variable{P:Program}{E:Env}{B:Nat}{w0:World}{st:St}{a:Act}{w:World}
theorem qjA{t:TypeId}{x u:AV}{y:Value}{lo hi:Option AV}(hx:Den E w x y)(hl:aslice P t x lo hi=some u){lo' hi':Option Value}(hlo:∀x,lo=some x→∃y,lo'=some y∧Den E w x y)(hlo0:lo=none→lo'=none)
  (hhi:∀x,hi=some x→∃y,hi'=some y∧Den E w x y) (hhi0:hi=none→hi'=none) :
  ∃z,(Instr.sliceAt t y lo' hi' none).run P w=.ok z w∧Den E w u z:=by
 unfold aslice at hl;split at hl
 ·rename_i hu;split at hl
  ·rename_i s;split at hl
   ·rename_i l h hb;cases hl;cases hx;have H:=(KN (P:=P) (E:=E) (w:=w) (Nat.le_refl _) hb false hlo hlo0 hhi hhi0).1;exact⟨.string (s.extract l h),by simp[Instr.sliceAt,Instr.slice,run_underlying hu,H],.v _⟩
   ·cases hl
  ·cases hl
 ·rename_i e hu;split at hl
  ·rename_i ht;cases hx<;>(try simp only[]at hl)<;>(try cases hl)
   ·split at hl
    ·rename_i heq;cases heq
    ·rename_i heq;cases heq
    ·rename_i heq;cases heq;split at hl
     ·rename_i p hb;obtain⟨l,h⟩:=p;cases hl;obtain⟨H,h1,h2⟩:=KN (P:=P) (E:=E) (w:=w) (cap:=0) (Nat.le_refl _) hb true hlo hlo0 hhi hhi0;have e1:h=0:=by omega
      have e2:l=0:=by omega
      subst e1;subst e2;exact⟨.slice none 0 0,by simp[Instr.sliceAt,Instr.slice,run_underlying hu,H,QG ht],.v _⟩
     ·cases hl
    ·cases hl
   ·rename_i es A c sz z hc hm hs hA hd;split at hl
    ·rename_i l h hb;split at hl
     ·rename_i hall;cases hl;obtain⟨H,h1,h2⟩:=KN (P:=P) (E:=E) (w:=w) hc hb true hlo hlo0 hhi hhi0;have hlen:((es.take h).drop l).length=h-l:=by simp;omega
      have hget:∀i j v,QZ ((es.take h).drop l) i j=some v→QZ es (l+i) j=some v:=by
       intro i j v hv;simp only[QZ,List.getElem?_drop,List.getElem?_take]at hv⊢;split at hv
       ·rename_i q hq;split at hq
        ·rw[hq];exact hv
        ·cases hq
       ·cases hv
      refine⟨.slice (if c=l then A else A.map (·.add (l*P.cellsOf e))) (h-l) (c-l),by simp[Instr.sliceAt,Instr.slice,run_underlying hu,H,QG ht],?_⟩;rw[←hlen];refine .ro _ _ _ sz (fun i j=>z (l+i) j) (by omega) (by omega) (fun q hq=>hs q (List.mem_of_mem_take (List.mem_of_mem_drop hq))) (fun hp=>?_) (fun i j v hv=>hd _ _ _ (hget i j v hv));obtain⟨ad,rfl,hS,hcell⟩:=hA (by omega);rw[if_neg (by omega)];refine⟨ad.add (l*P.cellsOf e),rfl,by rw[Addr.JD];exact hS,fun i j v hv=>?_⟩;have hsz:sz=P.cellsOf e:=by have hne:es[0]?=some (es[0]'(by omega)):=List.getElem?_eq_getElem (by omega);rw[←hall _ (List.mem_of_getElem? hne),hs _ (List.mem_of_getElem? hne)]
      rw[add_add,←hsz,show l*sz+(i*sz+j)=(l+i)*sz+j by rw[Nat.add_mul];omega];exact hcell _ _ _ (hget i j v hv)
     ·cases hl
    ·cases hl
   ·rename_i id sz off len mx A c hid hc hle hlen hA hs;split at hl
    ·rename_i hsz;split at hl
     ·rename_i l h hb;cases hl;obtain⟨H,h1,h2⟩:=KN (P:=P) (E:=E) (w:=w) hlen hb true hlo hlo0 hhi hhi0;refine⟨.slice (if c=l then A else A.map (·.add (l*P.cellsOf e))) (h-l) (c-l),by simp[Instr.sliceAt,Instr.slice,run_underlying hu,H,QG ht],?_⟩;refine .ref id sz (off+l) (h-l) _ _ _ hid ?_ ?_ (by omega) (fun hp=>?_) ?_
      ·cases mx<;>simp at hc⊢<;>omega
      ·omega
      ·rcases hp with hp|hp
       ·rw[if_neg (by omega),hA (.inl (by omega)),←hsz];simp[Zn,Nat.add_mul]
       ·obtain⟨rfl,rfl⟩:off=0∧l=0:=by omega
        rw[hA (.inr ⟨rfl,hp.2⟩)];split<;>simp[Zn]
      ·intro hk;split
       ·exact hs hk
       ·simpa using hs hk
     ·cases hl
    ·cases hl
  ·cases hl
 ·cases hl
theorem qoF{t:TypeId}{x u:AV}{y:Value}(hx:Den E w x y)(hl:alen P t x=some u)(ty:TypeId) :
  (Builtin.len_ #[t] ty #[y]).run P w=.ok (match u with|.v z=>z|_=>undef) w∧∃z,u=.v z:=by
 unfold alen at hl;split at hl<;>(try cases hl)
 ·rename_i hu;cases hx;simp[Builtin.len_,run_underlying hu,goInt]
 ·rename_i hu;cases hx;simp[Builtin.len_,run_underlying hu,goInt]
 ·rename_i hu;cases hx;simp[Builtin.len_,run_underlying hu,goInt]
 ·rename_i hu;cases hx;simp[Builtin.len_,run_underlying hu,goInt]
 ·rename_i hu;simp[Builtin.len_,run_underlying hu,goInt]
def astr(s:ByteArray)(i:Int):Int:=if h:i.toNat<s.size then((s[i.toNat]'h).toNat:Int)else 0
def aindex(P:Program)(t:TypeId)(x:AV)(i:Int):Option AV :=
 match P.underlying t with
 | some .string=>match x with
  | .v (.string s)=>if 0≤i∧i<s.size then some (.v (.int .u8 (astr s i)))else none
  | _=>none
 | some (.array n e)=>match x with
  | .agg cs=>if ZQ P e∧0≤i∧i<n then apart P e cs (i.toNat*P.cellsOf e)else none
  | _=>none
 | _=>none
theorem qiF{t:TypeId}{x u:AV}{y:Value}{k:IntKind}{i:Int}(hx:Den E w x y)(hl:aindex P t x i=some u) :
  ∃z,(Instr.index t y (.int k i)).run P w=.ok z w∧Den E w u z:=by
 unfold aindex at hl;split at hl
 ·rename_i hu;split at hl
  ·rename_i s;split at hl
   ·rename_i hi;cases hl;cases hx;have hlt:i.toNat<s.size:=by omega
    refine⟨_,?_,.v _⟩;simp[Instr.index,asIntOf,run_underlying hu,hi,astr,hlt]
   ·cases hl
  ·cases hl
 ·rename_i n e hu;split at hl
  ·rename_i cs;split at hl
   ·rename_i hi;obtain⟨ht,h0,h1⟩:=hi;cases hx with
    | agg _ zs hz hd =>obtain⟨y,hy,hd'⟩:=qcc hl zs hz hd;exact⟨y,by simp[Instr.index,asIntOf,run_underlying hu,h0,h1,QG ht,hy],hd'⟩
   ·cases hl
  ·cases hl
 ·cases hl
end
section
variable{P:Program}{E:Env}{B:Nat}{w0:World}{st:St}{a:Act}{w:World}
def acells:AV→List AV|.agg cs=>cs|.v (.agg zs)=>zs.toList.map .v|x=>[x]
theorem V6{x:AV}{y:Value}(h:Den E w x y):y.cells.size=(acells x).length∧∀j u,(acells x)[j]?=some u→Den E w u (y.cells.getD j undef):=by
 have one:∀{x:AV} {y:Value},Den E w x y→y.cells=#[y]→y.cells.size=[x].length∧∀j u,[x][j]?=some u→Den E w u (y.cells.getD j undef):=by
  intro x y hd hy;rw[hy];refine⟨rfl,fun j u hu=>?_⟩;cases j with
  | zero=>simp at hu;subst hu;simpa using hd
  | succ j=>simp at hu
 cases h with
 | agg cs zs hl hd=>exact⟨hl,hd⟩
 | v =>
  cases y with
  | agg zs =>
   refine⟨by simp[Value.cells,acells],fun j u hu=>?_⟩;simp only[acells,List.getElem?_map,Option.map_eq_some_iff]at hu;obtain⟨q,hq,rfl⟩:=hu;have:zs[j]?=some q:=by simpa using hq
   simp only[Value.cells,Array.getD_eq_getD_getElem?,this,Option.getD_some];exact .v q
  | _=>exact one (.v _) rfl
 | ro es A c sz z h1 h2 h3 h4 h5=>exact one (.ro es A c sz z h1 h2 h3 h4 h5) rfl
 | tup cs zs hl hd=>exact one (.tup cs zs hl hd) rfl
 | ref id sz off len mx A c h1 h2 h3 h4 h5 h6=>exact one (.ref id sz off len mx A c h1 h2 h3 h4 h5 h6) rfl
 | ptr id sz i off h1=>exact one (.ptr id sz i off h1) rfl
 | rop cs ad z h1 h2 h3=>exact one (.rop cs ad z h1 h2 h3) rfl
 | fn f fs cs fs' cs' h1 h2 h3 h4=>exact one (.fn f fs cs fs' cs' h1 h2 h3 h4) rfl
 | rc es A h=>exact one (.rc es A h) rfl
 | yl id h=>exact one (.yl id h) rfl
 | mp ks vs r es clock z h1 h2 h3 h4 h5 h6=>exact one (.mp ks vs r es clock z h1 h2 h3 h4 h5 h6) rfl
theorem qgQ(vs:List Value):∀(off k:Nat) (cells:Array Value),off+k+vs.length≤cells.size →
  ((vs.zipIdx k).foldl (fun cs (c,j)=>cs.setIfInBounds (off+j) c) cells).size=cells.size ∧
  ∀j,((vs.zipIdx k).foldl (fun cs (c,j)=>cs.setIfInBounds (off+j) c) cells)[j]?=if off+k≤j∧j<off+k+vs.length then vs[j-(off+k)]? else cells[j]?:=by
 induction vs with
 | nil=>intro off k cells h;simp;omega
 | cons v vs ih =>
  intro off k cells h;simp only[List.length_cons]at h;simp only[List.zipIdx_cons,List.foldl_cons];obtain⟨h1,h2⟩:=ih off (k+1) (cells.setIfInBounds (off+k) v) (by simp;omega);refine⟨by rw[h1];simp,fun j=>?_⟩;rw[h2 j,Array.getElem?_setIfInBounds];simp only[List.length_cons];by_cases ha:off+(k+1)≤j∧j<off+(k+1)+vs.length
  ·rw[if_pos ha,if_pos (by omega),show j-(off+k)=(j-(off+(k+1)))+1 by omega,List.getElem?_cons_succ]
  ·rw[if_neg ha];by_cases hb:off+k=j
   ·subst hb;rw[if_pos rfl,if_pos (by omega),if_pos (by omega)];simp
   ·rw[if_neg hb,if_neg (by omega)]
def afill(place:Nat→Option (Nat×Nat))(cells:List AV):List (Nat×AV)→Option (List AV)
 | []=>some cells
 | (i,v)::rest =>
  match place i with
  | none=>none
  | some (off,size)=>if(acells v).length=size∧off+size≤cells.length then afill place (cells.take off++acells v++cells.drop (off+size)) rest else none
theorem Vo(place:Nat→Option (Nat×Nat)):∀(parts:List (Nat×AV)) (parts':List (Nat×Value)) (cells cells':List AV) (zs:Array Value),afill place cells parts=some cells' →
  parts'.map (·.1)=parts.map (·.1)→(∀(k i:Nat) (x:AV),parts[k]?=some (i,x)→∃y,parts'[k]?=some (i,y)∧Den E w x y)→zs.size=cells.length→(∀j x,cells[j]?=some x→Den E w x (zs.getD j undef)) →
  ∃zs',Instr.fill place zs parts'=some zs'∧zs'.size=cells'.length∧∀j x,cells'[j]?=some x→Den E w x (zs'.getD j undef):=by
 intro parts;induction parts with
 | nil =>
  intro parts' cells cells' zs h hm _ hs hd;cases h;cases parts' with
  | nil=>exact⟨zs,rfl,hs,hd⟩
  | cons p ps=>simp at hm
 | cons p parts ih =>
  intro parts' cells cells' zs h hm hp hs hd;obtain⟨i,x⟩:=p;cases parts' with
  | nil=>simp at hm
  | cons p' parts' =>
   obtain⟨i',y⟩:=p';simp only[List.map_cons,List.cons.injEq]at hm;obtain⟨rfl,hm⟩:=hm;obtain⟨y',hy',hxy⟩:=hp 0 i' x rfl;simp at hy';subst hy';simp only[afill]at h;cases hpl:place i' with
   | none=>simp[hpl]at h
   | some os =>
    obtain⟨off,size⟩:=os;simp only[hpl]at h;split at h
    ·rename_i hc;obtain⟨h1,h2⟩:=V6 hxy;have hsz:y.cells.size=size:=by rw[h1];exact hc.1
     obtain⟨g1,g2⟩:=qgQ y.cells.toList off 0 zs (by simp;omega);simp only[Nat.add_zero]at g1 g2;have hzi:(y.cells.zipIdx.foldl (fun cs (c,j)=>cs.setIfInBounds (off+j) c) zs)=(y.cells.toList.zipIdx 0).foldl (fun cs (c,j)=>cs.setIfInBounds (off+j) c) zs:=by rw[←Array.foldl_toList];simp
     have hlen:(cells.take off++acells x++cells.drop (off+size)).length=cells.length:=by simp;omega
     have:=ih parts' _ cells' (y.cells.zipIdx.foldl (fun cs (c,j)=>cs.setIfInBounds (off+j) c) zs) h hm (fun k i x hk=>hp (k+1) i x hk) (by rw[hzi,g1,hlen,hs]) (fun j u hu=>?_)
     ·obtain⟨zs',hf,r⟩:=this;refine⟨zs',?_,r⟩;simp only[Instr.fill,hpl];rw[if_neg (by simp;omega)];exact hf
     ·rw[hzi];simp only[Array.getD_eq_getD_getElem?,g2 j];by_cases hj:off≤j∧j<off+y.cells.toList.length
      ·rw[if_pos hj];rw[List.getElem?_append_left (by simp at hj⊢;omega),List.getElem?_append_right (by simp;omega)]at hu;simp only[List.length_take,show min off cells.length=off by omega]at hu;have:=h2 _ _ hu;simpa[Array.getD_eq_getD_getElem?]using this
      ·rw[if_neg hj];have hu':cells[j]?=some u:=by
        by_cases hlt:j<off
        ·rw[List.getElem?_append_left (by simp;omega),List.getElem?_append_left (by simp;omega),List.getElem?_take,if_pos hlt]at hu;exact hu
        ·simp only[Array.length_toList]at hj;rw[List.getElem?_append_right (by simp;omega),List.getElem?_drop]at hu;simp only[List.length_append,List.length_take,show min off cells.length=off by omega]at hu;rwa[show off+size+(j-(off+(acells x).length))=j by omega]at hu
       have:=hd _ _ hu';simpa[Array.getD_eq_getD_getElem?]using this
    ·cases h
theorem qbO{α β:Type}(f:α→Sem β)(g:α→β):∀(l:List α) (w:World),(∀x∈l,∀W:World,(f x).run P W=.ok (g x) W)→(l.mapM f).run P w=.ok (l.map g) w:=by
 intro l;induction l with
 | nil=>intro w _;simp
 | cons x l ih =>intro w h;simp[List.mapM_cons,h x (by simp),ih w (fun y hy=>h y (by simp[hy]))]
theorem qap{α β:Type}(f:α→Sem β)(g:α→β)(l:Array α)(w:World)(h:∀x∈l.toList,∀W:World,(f x).run P W=.ok (g x) W):(l.mapM f).run P w=.ok (l.map g) w:=by have:=qbO (P:=P) f g l.toList w h;rw[Array.mapM_eq_mapM_toList];change (List.mapM f l.toList >>= fun x=>pure x.toArray).run P w=_;simp only[Sem.run_bind,this,Result.andThen_ok,Sem.run_pure];exact congrArg (fun z=>Result.ok z w) (Array.ext' (by simp))
def azero(P:Program)(t:TypeId):Option (List AV) :=
 match P.info? t with
 | some i=>match i.zero with|some z=>some (z.cells.toList.map .v)|none=>none
 | none=>none
theorem JE{t:TypeId}{cs:List AV}(h:azero P t=some cs):∃z,(∀w:World,(zeroValue t).run P w=.ok z w)∧z.cells.size=cs.length∧∀(E:Env) (w:World) j x,cs[j]?=some x→Den E w x (z.cells.getD j undef):=by
 unfold azero at h;split at h
 ·rename_i i hi;split at h
  ·rename_i z hz;cases h;refine⟨z,fun w=>by simp[zeroValue,typeInfo,hi,hz],by simp,fun E w j x hx=>?_⟩;simp only[List.getElem?_map,Option.map_eq_some_iff]at hx;obtain⟨q,hq,rfl⟩:=hx;have:z.cells[j]?=some q:=by simpa using hq
   simp only[Array.getD_eq_getD_getElem?,this,Option.getD_some];exact .v q
  ·cases h
 ·cases h
def abuild(P:Program)(t:TypeId)(parts:List (Nat×AV)):Option AV :=
 match azero P t with
 | some zero =>
  match P.underlying t with
  | some (.struct fs)=>if fs.all (fun f=>ZQ P f.type)then(afill (fun i=>(fs[i]?).map fun(f:Field)=>(f.offset,P.cellsOf f.type)) zero parts).map .agg else none
  | some (.array _ e)=>if ZQ P e then(afill (fun i=>some (i*P.cellsOf e,P.cellsOf e)) zero parts).map .agg else none
  | _=>none
 | none=>none
theorem qhQ{t:TypeId}{parts:List (Nat×AV)}{parts':Array (Nat×Value)}{u:AV}(h:abuild P t parts=some u)(hm:parts'.toList.map (·.1)=parts.map (·.1))
  (hp:∀(k i:Nat) (x:AV),parts[k]?=some (i,x)→∃y,parts'.toList[k]?=some (i,y)∧Den E w x y) :
  ∃z,(Instr.build t parts').run P w=.ok z w∧Den E w u z:=by
 unfold abuild at h;split at h
 ·rename_i zero hz;obtain⟨z,hz1,hz2,hz3⟩:=JE hz;split at h
  ·rename_i fs hu;split at h
   ·rename_i hall;simp only[Option.map_eq_some_iff]at h;obtain⟨cs,hf,rfl⟩:=h;obtain⟨zs,h1,h2,h3⟩:=Vo (E:=E) (w:=w) _ parts parts'.toList zero cs z.cells hf hm hp hz2 (hz3 E w);refine⟨.agg zs,?_,.agg _ _ h2 h3⟩;have hmm:=qap (P:=P) (fun f:Field=>do pure (f.offset,←sizeOf f.type)) (fun f=>(f.offset,P.cellsOf f.type)) fs w (fun f hf W=>by have:=Array.all_eq_true'.1 hall f (by simpa using hf);simp[QG this])
    have hpl:(fun x:Nat=>(fs.map fun(f:Field)=>(f.offset,P.cellsOf f.type))[x]?)=fun i:Nat=>(fs[i]?).map fun(f:Field)=>(f.offset,P.cellsOf f.type):=by funext i;simp
    simp only[Instr.build,Sem.run_bind,hz1,Result.andThen_ok,run_underlying hu,hmm,hpl,h1,Sem.run_pure]
   ·cases h
  ·rename_i n e hu;split at h
   ·rename_i ht;simp only[Option.map_eq_some_iff]at h;obtain⟨cs,hf,rfl⟩:=h;obtain⟨zs,h1,h2,h3⟩:=Vo (E:=E) (w:=w) _ parts parts'.toList zero cs z.cells hf hm hp hz2 (hz3 E w);refine⟨.agg zs,?_,.agg _ _ h2 h3⟩;simp only[Instr.build,Sem.run_bind,hz1,Result.andThen_ok,run_underlying hu,QG ht,h1,Sem.run_pure]
   ·cases h
  ·cases h
 ·cases h
def qeA(P:Program)(t:TypeId)(fs:Array Field):Bool:=match fs.toList with
 | [f,g]=>f.name !="_"&&g.name !="_"&&f.offset==0&&g.offset==1&&ZQ P f.type&&ZQ P g.type&&!(Jm P f.type)&&!(Jm P g.type)&&(match P.underlying f.type,P.underlying g.type with|some (.int _),some (.int _)=>true|_,_=>false)&&!(P.stoodInHeld t)&&!(P.eqGuardType P.depth t)
 | _=>false
theorem qmY{t:TypeId}{fs:Array Field}(hu:P.underlying t=some (.struct fs))(h2:qeA P t fs=true){k l:IntKind}{a b a' b':Int}(d:Nat)(w:World) :
  (Op.equalIn (d+2) t (.agg #[.int k a,.int l b]) (.agg #[.int k a',.int l b'])).run P w=.ok (a==a'&&b==b') w∧P.eqGuardType P.depth t=false:=by
 unfold qeA at h2;split at h2
 ·rename_i f g hf;have hfs:fs=#[f,g]:=by apply Array.ext';simpa using hf
  subst hfs;simp only[Bool.and_eq_true,bne_iff_ne,ne_eq,beq_iff_eq,Bool.not_eq_true']at h2;obtain⟨⟨⟨⟨⟨⟨⟨⟨⟨⟨n1,n2⟩,o1⟩,o2⟩,t1⟩,t2⟩,g1⟩,g2⟩,ut⟩,s1⟩,s2⟩:=h2;refine⟨?_,s2⟩;split at ut
  ·rename_i k1 k2 u1 u2;have p1:∀(x y:Value) (w:World),(part f.type #[x,y] 0).run P w=.ok x w:=fun x y w=>by simp[part,JL t1,g1]
   have p2:∀(x y:Value) (w:World),(part g.type #[x,y] 1).run P w=.ok y w:=fun x y w=>by simp[part,JL t2,g2]
   have e1:∀(k k':IntKind) (x y:Int) (w:World),k=k'→(Op.equalIn (d+1) f.type (.int k x) (.int k' y)).run P w=.ok (x==y) w:=fun k k' x y w hk=>by subst hk;simp[Op.equalIn,run_underlying u1]
   have e2:∀(k k':IntKind) (x y:Int) (w:World),k=k'→(Op.equalIn (d+1) g.type (.int k x) (.int k' y)).run P w=.ok (x==y) w:=fun k k' x y w hk=>by subst hk;simp[Op.equalIn,run_underlying u2]
   unfold Op.equalIn;by_cases hb:b=b'<;>cases hab:(a==a')<;>simp[run_underlying hu,s1,n1,n2,o1,o2,p1,p2,e1,e2,hab,hb]
  ·cases ut
 ·cases h2
def aeq(P:Program)(t:TypeId)(x y:AV):Option Bool :=
 match P.underlying t,x,y with
 | some .bool,.v (.bool a),.v (.bool b)=>some (a==b)
 | some (.slice _),.ref _ _ _ len _,.v (.slice none _ _)=>if 0<len then some false else none
 | some (.slice _),.v (.slice none _ _),.v (.slice none _ _)=>some true
 | some (.slice _),.ro (_::_),.v (.slice none _ _)=>some false
 | some (.slice _),.rc (_::_),.v (.slice none _ _)=>some false
 | some (.func _ _ _),.fn ..,.v .nilFunc=>some false
 | some (.func _ _ _),.v .nilFunc,.v .nilFunc=>some true
 | some (.pointer _),.v (.pointer none),.v (.pointer none)=>some true
 | some (.pointer _),.ptr ..,.v (.pointer none)=>some false
 | some (.pointer _),.rop _,.v (.pointer none)=>some false
 | some (.pointer e),.ptr id sz i off,.ptr id' sz' i' off'=>if ZQ P e=true∧id=id'∧sz=sz'∧i=i'∧off=off' then some true else none
 | some (.struct fs),.agg [.v (.int k a),.v (.int l b)],.agg [.v (.int k' a'),.v (.int l' b')]=>if qeA P t fs=true∧k=k'∧l=l' then some (a==a'&&b==b')else none
 | _,_,_=>none
theorem qbh{x y:AV}{z:Value}(h:Den E w (.agg [x,y]) z):∃p q,z=.agg #[p,q]∧Den E w x p∧Den E w y q:=by
 cases h with
 | agg _ zs hl hd =>
  have hz:zs.size=2:=hl;refine⟨zs[0],zs[1],?_,?_,?_⟩
  ·congr 1;apply Array.ext
   ·simp[hz]
   ·intro i h1 h2;have:i=0∨i=1:=by omega
    rcases this with rfl|rfl<;>rfl
  ·have:=hd 0 x rfl;simpa[Array.getD_eq_getD_getElem?,Array.getElem?_eq_getElem (show 0<zs.size by omega)]using this
  ·have:=hd 1 y rfl;simpa[Array.getD_eq_getD_getElem?,Array.getElem?_eq_getElem (show 1<zs.size by omega)]using this
theorem qqe{t:TypeId}{x y:AV}{x' y':Value}{b:Bool}(h:aeq P t x y=some b)(hx:Den E w x x')(hy:Den E w y y')(d:Nat):(Op.equalIn (d+1+1) t x' y').run P w=.ok b w:=by
 unfold aeq at h;split at h<;>(try cases h)<;>rename_i hu
 ·generalize d+1=m;cases hx;cases hy;simp[Op.equalIn,run_underlying hu]
 ·cases hx with
  | ref _ _ _ _ _ A c' hid hc hle hlen hA hs =>
  cases hy;split at h
  ·rename_i hl;cases h;obtain rfl:=hA (.inl (by omega));generalize d+1=m;simp[Op.equalIn,run_underlying hu]
  ·cases h
 ·generalize d+1=m;cases hx;cases hy;simp[Op.equalIn,run_underlying hu]
 ·cases hx with
  | ro _ A c' sz z hc hm hs hA hd =>
  cases hy;obtain⟨q,rfl,_⟩:=hA (by simp);generalize d+1=m;simp[Op.equalIn,run_underlying hu]
 ·cases hx with
  | rc _ A hd =>
  cases hd with
  | ro _ _ c' sz z hc hm hs hA hd =>
  cases hy;obtain⟨q,rfl,_⟩:=hA (by simp);generalize d+1=m;simp[Op.equalIn,run_underlying hu]
 ·generalize d+1=m;cases hx;cases hy;simp[Op.equalIn,run_underlying hu]
 ·generalize d+1=m;cases hx;cases hy;simp[Op.equalIn,run_underlying hu]
 ·generalize d+1=m;cases hx;cases hy;simp[Op.equalIn,run_underlying hu]
 ·generalize d+1=m;cases hx;cases hy;simp[Op.equalIn,run_underlying hu]
 ·generalize d+1=m;cases hx;cases hy;simp[Op.equalIn,run_underlying hu]
 ·split at h
  ·rename_i hc;obtain⟨ht,rfl,rfl,rfl,rfl⟩:=hc;injection h with h;subst h;generalize d+1=m;cases hx;cases hy;simp[Op.equalIn,run_underlying hu,QG ht,run_sameAddr_same]
  ·cases h
 ·split at h
  ·rename_i hc;obtain⟨h2,rfl,rfl⟩:=hc;injection h with h;subst h;obtain⟨p,q,rfl,d1,d2⟩:=qbh hx;obtain⟨p',q',rfl,d3,d4⟩:=qbh hy;cases d1;cases d2;cases d3;cases d4;exact(qmY hu h2 d w).1
  ·cases h
theorem qhv{t:TypeId}{x y:AV}{x' y':Value}{b:Bool}(h:aeq P t x y=some b)(hx:Den E w x x')(hy:Den E w y y')(a c:Operand) :
  (do eqGuard .eql t a c x' y';binOp .eql t x' y':Sem Value).run P w=.ok (.bool b) w∧(do eqGuard .neq t a c x' y';binOp .neq t x' y':Sem Value).run P w=.ok (.bool (!b)) w:=by
 have he:(Op.equal t x' y').run P w=.ok b w:=qqe h hx hy 9998;unfold aeq at h;split at h<;>(try cases h)
 ·cases hx;cases hy;constructor<;>simp[eqGuard,binOp,he]
 ·cases hx;cases hy;constructor<;>simp[eqGuard,binOp,he]
 ·cases hx;cases hy;constructor<;>simp[eqGuard,binOp,he]
 ·cases hx;cases hy;simp only[List.length_cons]at he⊢;constructor<;>simp[eqGuard,binOp,he]
 ·cases hx;cases hy;simp only[List.length_cons]at he⊢;constructor<;>simp[eqGuard,binOp,he]
 ·cases hx;cases hy;constructor<;>simp[eqGuard,binOp,he]
 ·cases hx;cases hy;constructor<;>simp[eqGuard,binOp,he]
 ·cases hx;cases hy;constructor<;>simp[eqGuard,binOp,he]
 ·cases hx;cases hy;constructor<;>simp[eqGuard,binOp,he]
 ·cases hx;cases hy;constructor<;>simp[eqGuard,binOp,he]
 ·split at h
  ·injection h with h;subst h;cases hx;cases hy;constructor<;>simp[eqGuard,binOp,he]
  ·cases h
 ·split at h
  ·rename_i fs k a b l a' b' k' l' hu hc;obtain⟨h2,rfl,rfl⟩:=hc;injection h with h;subst h;obtain⟨p,q,rfl,d1,d2⟩:=qbh hx;obtain⟨p',q',rfl,d3,d4⟩:=qbh hy;have hgd:=(qmY (a:=0) (b:=0) (a':=0) (b':=0) (k:=.i64) (l:=.i64) hu h2 0 w).2;constructor<;>simp[eqGuard,binOp,he,hgd]
  ·cases h
end
def qnz:AV→Option (List AV)|.agg cs=>some cs|.v (.agg zs)=>some (zs.toList.map .v)|_=>none
def V1:AV→Option (List AV)|.tup cs=>some cs|.v (.tuple zs)=>some (zs.toList.map .v)|_=>none
def aunop(op:UnOp)(x:AV):Option AV :=
 match op,x with
 | .not,.v (.bool b)=>some (.v (.bool !b))
 | .neg,.v (.int k n)=>some (.v (.int k (k.wrap (0-n))))
 | .xor,.v (.int k n)=>some (.v (.int k (k.wrap (BitVec.ofInt k.bits (if k.signed then -1 else k.max) ^^^ BitVec.ofInt k.bits n).toNat)))
 | _,_=>none
def aconv(P:Program)(s d:TypeId)(x:AV):Option AV :=
 match P.underlying s,P.underlying d,x with
 | some _,some (.int k),.v (.int _ n)=>some (.v (.int k (k.wrap n)))
 | some _,some .string,.v (.string z)=>some (.v (.string z))
 | _,_,_=>none
def abinop(P:Program)(op:BinOp)(t:TypeId)(x y:AV):Option AV :=
 match (match x,y with|.v x,.v y=>abin op x y|_,_=>none)with
 | some z=>some (.v z)
 | none=>match op with
  | .eql=>(aeq P t x y).map fun b=>.v (.bool b)
  | .neq=>(aeq P t x y).map fun b=>.v (.bool !b)
  | _=>none
def amax(mn:Bool):List AV→Option AV
 | [.v (.int k x),.v (.int k' y)]=>if k=k' then some (.v (.int k (if mn then(if y<x then y else x)else(if x<y then y else x))))else none
 | _=>none
def abuiltin(P:Program)(b:Builtin)(ts:List TypeId)(xs:List AV):Option AV :=
 match b,ts,xs with
 | .len,[t],[x]=>alen P t x
 | .min,_,[x,y]=>amax true [x,y]
 | .max,_,[x,y]=>amax false [x,y]
 | _,_,_=>none
def avalue(P:Program)(st:St)(o:Oper):Option AV :=
 match o.op with
 | .move x=>some (ev st x)
 | .assign x=>some (ev st x)
 | .pick c a b=>match ev st c with|.v (.bool t)=>some (if t then ev st a else ev st b)|_=>none
 | .nilCheck x=>match ev st x with|.ptr id sz i off=>some (.ptr id sz i off)|.rop cs=>some (.rop cs)|.fn (.func f) fs cs=>some (.fn (.func f) fs cs)|_=>none
 | .binOp op t x y _=>abinop P op t (ev st x) (ev st y)
 | .unOp op _ x=>aunop op (ev st x)
 | .convert s d x=>aconv P s d (ev st x)
 | .makeFunc f fs cs=>some (.fn f (fs.toList.map (ev st)) (cs.toList.map (ev st)))
 | .field t x f=>match P.underlying t,qnz (ev st x)with
  | some (.struct fs),some cs=>match fs[f]? with|some g=>apart P g.type cs g.offset|none=>none
  | _,_=>none
 | .extract x i=>match V1 (ev st x)with|some vs=>vs[i]?|none=>none
 | .build t parts=>abuild P t (parts.toList.map fun(i,x)=>(i,ev st x))
 | .index t x i=>match idx (ev st i)with|some j=>aindex P t (ev st x) j|none=>none
 | .indexAddr t x i=>match idx (ev st i)with|some j=>Qh P st t (ev st x) j|none=>none
 | .fieldAddr t x f=>Qk P t (ev st x) f
 | .slice t x lo hi none=>aslice P t (ev st x) (lo.map (ev st)) (hi.map (ev st))
 | .load t x=>aload P st t (ev st x)
 | .call c=>match c.callee with|.builtin b=>abuiltin P b c.argTypes.toList (c.args.toList.map (ev st))|_=>none
 | _=>none
section
variable{P:Program}{E:Env}{B:Nat}{w0:World}{st:St}{a:Act}{w:World}
theorem qhw{x:AV}{y:Value}{cs:List AV}(h:qnz x=some cs)(hx:Den E w x y):∃zs,y=.agg zs∧zs.size=cs.length∧∀j u,cs[j]?=some u→Den E w u (zs.getD j undef):=by
 cases hx<;>simp only[qnz]at h<;>(try cases h)
 ·cases y<;>simp only[]at h<;>(try cases h);rename_i zs;refine⟨zs,rfl,by simp,fun j u hu=>?_⟩;simp only[List.getElem?_map,Option.map_eq_some_iff]at hu;obtain⟨q,hq,rfl⟩:=hu;have:zs[j]?=some q:=by simpa using hq
  simp only[Array.getD_eq_getD_getElem?,this,Option.getD_some];exact .v q
 ·rename_i zs hl hd;exact⟨zs,rfl,hl,hd⟩
theorem qjR{x:AV}{y:Value}{cs:List AV}(h:V1 x=some cs)(hx:Den E w x y):∃zs,y=.tuple zs∧zs.size=cs.length∧∀j u,cs[j]?=some u→Den E w u (zs.getD j undef):=by
 cases hx<;>simp only[V1]at h<;>(try cases h)
 ·cases y<;>simp only[]at h<;>(try cases h);rename_i zs;refine⟨zs,rfl,by simp,fun j u hu=>?_⟩;simp only[List.getElem?_map,Option.map_eq_some_iff]at hu;obtain⟨q,hq,rfl⟩:=hu;have:zs[j]?=some q:=by simpa using hq
  simp only[Array.getD_eq_getD_getElem?,this,Option.getD_some];exact .v q
 ·rename_i zs hl hd;exact⟨zs,rfl,hl,hd⟩
theorem qbg(h:Rel E B w0 st a w)(xs:Array Operand):(xs.map a.eval).size=(xs.toList.map (ev st)).length∧∀j u,(xs.toList.map (ev st))[j]?=some u→Den E w u ((xs.map a.eval).getD j undef):=by
 refine⟨by simp,fun j u hu=>?_⟩;simp only[List.getElem?_map,Option.map_eq_some_iff]at hu;obtain⟨q,hq,rfl⟩:=hu;have:xs[j]?=some q:=by simpa using hq
 simp only[Array.getD_eq_getD_getElem?,Array.getElem?_map,this,Option.map_some,Option.getD_some];exact h.ev q
theorem qeN{mn:Bool}{x y u:AV}{x' y':Value}(h:amax mn [x,y]=some u)(hx:Den E w x x')(hy:Den E w y y') :
  ∃z,u=.v z∧(if mn then Builtin.min_ #[] 0 #[x',y']else Builtin.max_ #[] 0 #[x',y']).run P w=.ok z w:=by
 unfold amax at h;split at h
 ·rename_i k p k' q heq;simp only[List.cons.injEq,and_true]at heq;obtain⟨rfl,rfl⟩:=heq;split at h
  ·rename_i hk;subst hk;cases h;cases hx;cases hy;refine⟨_,rfl,?_⟩;cases mn<;>simp[Builtin.min_,Builtin.max_,Builtin.min2,Builtin.max2]
  ·cases h
 ·cases h
theorem qf3(h:Rel E B w0 st a w){o:Oper}{u:AV}(hv:avalue P st o=some u):∃y,(execOp a.eval o).run P w=.ok (.value y) w∧Den E w u y:=by
 obtain⟨dst,op,type,pos,after,guard⟩:=o;unfold avalue at hv;simp only[]at hv;split at hv
 ·cases hv;exact⟨_,by simp[execOp],h.ev _⟩
 ·cases hv;exact⟨_,by simp[execOp],h.ev _⟩
 ·rename_i c x y;split at hv
  ·rename_i t ht;cases hv;have hc:=h.ev c;rw[ht]at hc;generalize hq:a.eval c=q at hc;cases hc;refine⟨if t then a.eval x else a.eval y,by simp[execOp,hq,asBool],?_⟩;cases t
   ·exact h.ev y
   ·exact h.ev x
  ·cases hv
 ·rename_i x;have hx:=h.ev x;split at hv
  ·rename_i id sz i off hq;cases hv;rw[hq]at hx;refine⟨a.eval x,?_,hx⟩;generalize hz:a.eval x=z at hx;cases hx;simp[execOp,hz]
  ·rename_i cs hq;cases hv;rw[hq]at hx;refine⟨a.eval x,?_,hx⟩;generalize hz:a.eval x=z at hx;cases hx;simp[execOp,hz]
  ·rename_i f fs cs hq;cases hv;rw[hq]at hx;refine⟨a.eval x,?_,hx⟩;generalize hz:a.eval x=z at hx;cases hx;simp[execOp,hz]
  ·cases hv
 ·rename_i op t x y yt;have hx:=h.ev x;have hy:=h.ev y;unfold abinop at hv;split at hv
  ·rename_i z hz;cases hv;split at hz
   ·rename_i x' y' e1 e2;rw[e1]at hx;rw[e2]at hy;have:=qks hz t x y w (P:=P);generalize hq:a.eval x=q at hx;generalize hr:a.eval y=r at hy;cases hx;cases hy;refine⟨z,?_,.v z⟩;simp only[execOp,hq,hr];rw[Sem.run_bind,this];simp
   ·cases hz
  ·split at hv
   ·simp only[Option.map_eq_some_iff]at hv;obtain⟨b,hb,rfl⟩:=hv;refine⟨.bool b,?_,.v _⟩;simp only[execOp];rw[Sem.run_bind,(qhv hb hx hy x y).1];simp
   ·simp only[Option.map_eq_some_iff]at hv;obtain⟨b,hb,rfl⟩:=hv;refine⟨.bool (!b),?_,.v _⟩;simp only[execOp];rw[Sem.run_bind,(qhv hb hx hy x y).2];simp
   ·cases hv
 ·rename_i op t x;have hx:=h.ev x;generalize hz:a.eval x=z at hx;unfold aunop at hv;split at hv<;>(try cases hv)<;>rename_i hq
  ·rw[hq]at hx;cases hx;exact⟨_,by simp[execOp,hz,Op.unary],.v _⟩
  ·rw[hq]at hx;cases hx;exact⟨_,by simp[execOp,hz,Op.unary,Op.intArith],.v _⟩
  ·rw[hq]at hx;cases hx;exact⟨_,by simp[execOp,hz,Op.unary,Op.intBits],.v _⟩
 ·rename_i s d x;have hx:=h.ev x;generalize hz:a.eval x=z at hx;unfold aconv at hv;split at hv<;>(try cases hv)<;>rename_i hs hd hq
  ·rw[hq]at hx;cases hx;rename_i d' _ _;exact⟨_,by simp[execOp,hz,convert,run_underlying hs,run_underlying hd,Conv.intToInt],.v _⟩
  ·rw[hq]at hx;cases hx;rename_i d' _;refine⟨_,?_,.v _⟩;simp only[execOp,hz,convert,Sem.run_bind,run_underlying hs,run_underlying hd,Result.andThen_ok];cases d'<;>simp
 ·rename_i f fs cs;cases hv;obtain⟨h1,h2⟩:=qbg h fs;obtain⟨h3,h4⟩:=qbg h cs;exact⟨.func f (fs.map a.eval) (cs.map a.eval),by simp[execOp,Instr.makeFunc],.fn f _ _ _ _ h1 h3 h2 h4⟩
 ·rename_i t x f;split at hv
  ·rename_i fs cs hu hc;split at hv
   ·rename_i g hg;obtain⟨zs,hz,hl,hd⟩:=qhw hc (h.ev x);obtain⟨y,hy,hyd⟩:=qcc (w:=w) hv zs hl hd;refine⟨y,?_,hyd⟩;simp[execOp,Instr.field,hz,run_underlying hu,hg,asAgg,hy]
   ·cases hv
  ·cases hv
 ·rename_i x i;split at hv
  ·rename_i vs hc;obtain⟨zs,hz,hl,hd⟩:=qjR hc (h.ev x);have hlt:i<zs.size:=by rw[hl];exact(List.getElem?_eq_some_iff.1 hv).1
   refine⟨zs.getD i undef,?_,hd _ _ hv⟩;simp[execOp,Instr.extract,hz,Array.getElem?_eq_getElem hlt,Array.getD_eq_getD_getElem?]
  ·cases hv
 ·rename_i t parts;obtain⟨z,hz,hd⟩:=qhQ (E:=E) (w:=w) (parts':=parts.map fun(i,x)=>(i,a.eval x)) hv (by simp[Function.comp_def]) (fun k i x hk=>by simp only[List.getElem?_map,Option.map_eq_some_iff]at hk;obtain⟨⟨i',q⟩,hq,he⟩:=hk;simp only[Prod.mk.injEq]at he;obtain⟨rfl,rfl⟩:=he;exact⟨a.eval q,by simp only[Array.toList_map,List.getElem?_map,hq,Option.map_some],h.ev q⟩)
  exact⟨z,by simp[execOp,hz],hd⟩
 ·rename_i t x i;split at hv
  ·rename_i j hj;obtain⟨k,hk⟩:=qbt hj (h.ev i);obtain⟨z,hz,hd⟩:=qiF (k:=k) (h.ev x) hv;exact⟨z,by simp[execOp,hk,hz],hd⟩
  ·cases hv
 ·rename_i t x i;split at hv
  ·rename_i j hj;obtain⟨k,hk⟩:=qbt hj (h.ev i);obtain⟨z,hz,hd⟩:=qbu (k:=k) (h.ev x) hv;exact⟨z,by simp[execOp,hk,hz],hd⟩
  ·cases hv
 ·rename_i t x f;obtain⟨z,hz,hd⟩:=qbn (h.ev x) hv;exact⟨z,by simp[execOp,hz],hd⟩
 ·rename_i t x lo hi;obtain⟨z,hz,hd⟩:=qjA (lo':=lo.map a.eval) (hi':=hi.map a.eval) (h.ev x) hv
   (fun u hu=>by cases lo<;>simp at hu;subst hu;exact⟨_,rfl,h.ev _⟩) (fun hn=>by cases lo<;>simp at hn⊢)
   (fun u hu=>by cases hi<;>simp at hu;subst hu;exact⟨_,rfl,h.ev _⟩) (fun hn=>by cases hi<;>simp at hn⊢)
  exact⟨z,by simp[execOp,hz],hd⟩
 ·rename_i t x;obtain⟨z,hz,hd⟩:=qca h.h (h.ev x) hv;exact⟨z,by simp[execOp,hz],hd⟩
 ·rename_i c;obtain⟨callee,args,argTypes⟩:=c;simp only[]at hv;split at hv
  ·rename_i b;unfold abuiltin at hv;split at hv
   ·rename_i t x ht hx;obtain⟨at',rfl⟩:∃l,argTypes=List.toArray l:=⟨argTypes.toList,by simp⟩;obtain⟨ar,rfl⟩:∃l,args=List.toArray l:=⟨args.toList,by simp⟩;simp only at ht hx;subst ht;obtain⟨q,rfl,rfl⟩:∃q,ar=[q]∧ev st q=x:=by
     cases ar with
     | nil=>simp at hx
     | cons q ar=>cases ar<;>simp at hx;exact⟨q,rfl,hx⟩
    obtain⟨hr,z,rfl⟩:=qoF (h.ev q) hv type;exact⟨z,by simp[execOp,resolve,invoke,builtin,hr],.v z⟩
   ·rename_i x y hx;obtain⟨ar,rfl⟩:∃l,args=List.toArray l:=⟨args.toList,by simp⟩;simp only at hx;obtain⟨q,r,rfl,rfl,rfl⟩:∃q r,ar=[q,r]∧ev st q=x∧ev st r=y:=by rcases ar with _|⟨q,_|⟨r,_|_⟩⟩<;>simp at hx;exact⟨q,r,rfl,hx.1,hx.2⟩
    obtain⟨z,rfl,hr⟩:=qeN (P:=P) hv (h.ev q) (h.ev r);simp only[if_true]at hr;refine⟨z,?_,.v z⟩;have:Builtin.min_ argTypes type #[a.eval q,a.eval r]=Builtin.min_ #[] 0 #[a.eval q,a.eval r]:=rfl;simp[execOp,resolve,invoke,builtin,this,hr]
   ·rename_i x y hx;obtain⟨ar,rfl⟩:∃l,args=List.toArray l:=⟨args.toList,by simp⟩;simp only at hx;obtain⟨q,r,rfl,rfl,rfl⟩:∃q r,ar=[q,r]∧ev st q=x∧ev st r=y:=by rcases ar with _|⟨q,_|⟨r,_|_⟩⟩<;>simp at hx;exact⟨q,r,rfl,hx.1,hx.2⟩
    obtain⟨z,rfl,hr⟩:=qeN (P:=P) hv (h.ev q) (h.ev r);simp only[Bool.false_eq_true,if_false]at hr;refine⟨z,?_,.v z⟩;have:Builtin.max_ argTypes type #[a.eval q,a.eval r]=Builtin.max_ #[] 0 #[a.eval q,a.eval r]:=rfl;simp[execOp,resolve,invoke,builtin,this,hr]
   ·cases hv
  ·cases hv
 ·cases hv
end
def Qf.set(H:Qf)(id:Nat)(b:Blk):Qf:={ H with b:=fun i=>if i=id then some b else H i }
def Qf.kill(H:Qf)(id:Nat):Qf:={ H with b:=fun i=>if i=id then none else H i }
def AV.one:AV→Bool|.agg _=>false|.tup _=>false|.v x=>x.oneCell'|_=>true
def Zp(sz:Nat)(es:List (List AV)):Bool:=es.all fun e=>e.length==sz
section
variable{P:Program}{E:Env}{B:Nat}{w0:World}{H:Qf}{st:St}{a:Act}{w:World}
theorem Den.qek{x:AV}{y:Value}(h:Den E w x y)(h1:x.one=true):y.oneCell'=true:=by cases h<;>first|rfl|exact h1|(simp[AV.one]at h1)
theorem Zm.le_size(h:Zm E B w0 H w){id:Nat}{b:Blk}(hb:H id=some b)(hc0:b.cap≠some 0):E.η id<w.heap.size:=by obtain⟨cur,z,hh,_⟩:=h.blk id b hb hc0;exact(Array.getElem?_eq_some_iff.1 hh).1
theorem Zm.new(h:Zm E B w0 H w)(b:Blk)(k:Nat)(cur:Array Value)(hc:cur.size=k*b.sz)(hk:b.es.length≤k)(hm:k≤maxLen)(hs:Zp b.sz b.es=true)(hcap:∀q,b.cap=some q→k=q)(hf:b.fz=false)
  (hd:∀i j x,QZ b.es i j=some x→∃z,cur[i*b.sz+j]?=some z∧Den E w x z) (hfresh:H E.N=none) :
  ∃E',E.le E'∧QD E w (w.alloc (.cells cur b.ty))∧E'.N=E.N+1∧E'.η E.N=w.heap.size∧E'.κ E.N=k∧Zm E' B w0 (H.set E.N b) (w.alloc (.cells cur b.ty)):=by
 let E':Env:={ η:=fun i=>if i=E.N then w.heap.size else E.η i,κ:=fun i=>if i=E.N then k else E.κ i,S:=E.S,N:=E.N+1,Z:=E.Z,D:=E.D,ZD:=E.ZD };have hle:E.le E':=⟨Nat.le_succ _,fun i hi=>by simp[E',Nat.ne_of_lt hi],fun i hi=>by simp[E',Nat.ne_of_lt hi],fun c hc=>hc,rfl,fun c hc=>hc,rfl⟩;have hkp:QD E w (w.alloc (.cells cur b.ty)):=fun c hc=>heap_alloc_old w _ (h.slt c hc);refine⟨E',hle,hkp,rfl,by simp[E'],by simp[E'],?_⟩;have hold:∀id b',(H.set E.N b) id=some b'→id≠E.N→H id=some b':=fun id b' hb hne=>by simpa[Qf.set,hne]using hb
 have hnew:∀b',(H.set E.N b) E.N=some b'→b'=b:=fun b' hb=>by simpa[Qf.set,eq_comm]using hb
 have hob:=h.objs (L:=(H.set E.N b).L) hle (fun c hc=>hc) hkp (fun c q hq _=>heap_alloc_old w _ (Array.getElem?_eq_some_iff.1 hq).1) (fun c hc=>.inl hc) (fun _ _ h=>h);refine⟨fun id b' hb=>?_,fun id b' hb hc0=>?_,fun id b' hb hc0=>?_,fun id id' b1 b2 h1 h2 hz1 hz2 he=>?_,fun id b' hb hc0 hfz=>?_,fun id b' hb hc0 hfz=>?_,fun c hc=>?_,h.so,?_,?_,hob.1,hob.2.1,hob.2.2.1,hob.2.2.2.1,hob.2.2.2.2⟩
 ·by_cases hi:id=E.N
  ·subst hi;exact Nat.lt_succ_self _
  ·exact Nat.lt_succ_of_lt (h.lt id b' (hold id b' hb hi))
 ·by_cases hi:id=E.N
  ·subst hi;rw[hnew b' hb]at hc0⊢;have hk0:=hcap 0 hc0;exact⟨by simp[E',hk0],List.eq_nil_of_length_eq_zero (by omega)⟩
  ·simp only[E',if_neg hi];exact h.gst id b' (hold id b' hb hi) hc0
 ·by_cases hi:id=E.N
  ·subst hi;rw[hnew b' hb];refine⟨cur,fun i j=>cur.getD (i*b.sz+j) undef,?_,by simpa[E']using hc,by simpa[E']using hk,by simpa[E']using hm,by simpa[E']using h.bas,fun e he=>?_,fun q hq=>by simpa[E']using hcap q hq,fun i j x hx=>?_,fun i j x hx=>?_⟩
   ·simp only[E',if_true];exact heap_alloc_new w _
   ·have:=List.all_eq_true.1 hs e he;simpa using this
   ·obtain⟨z,hz,_⟩:=hd i j x hx;simp[Array.getD_eq_getD_getElem?,hz]
   ·obtain⟨z,hz,hdz⟩:=hd i j x hx;have:=hdz.mono hle hkp;simpa[Array.getD_eq_getD_getElem?,hz]using this
  ·obtain⟨cur',z,h1,h2,h3,h4,h5,h6,h7,h8,h9⟩:=h.blk id b' (hold id b' hb hi) hc0;refine⟨cur',z,?_,by simpa[E',hi]using h2,by simpa[E',hi]using h3,by simpa[E',hi]using h4,by simpa[E',hi]using h5,h6,by simpa[E',hi]using h7,h8,fun i j x hx=>(h9 i j x hx).mono hle hkp⟩;simp only[E',if_neg hi];rw[heap_alloc_old w _ (h.le_size (hold id b' hb hi) hc0)];exact h1
 ·by_cases hi:id=E.N<;>by_cases hj:id'=E.N
  ·rw[hi,hj]
  ·exfalso;have:=h.le_size (hold id' b2 h2 hj) hz2;simp only[E',hi,if_true,if_neg hj]at he;omega
  ·exfalso;have:=h.le_size (hold id b1 h1 hi) hz1;simp only[E',hj,if_true,if_neg hi]at he;omega
  ·simp only[E',if_neg hi,if_neg hj]at he;exact h.inj id id' b1 b2 (hold id b1 h1 hi) (hold id' b2 h2 hj) hz1 hz2 he
 ·by_cases hi:id=E.N
  ·subst hi;intro hS;have:=h.slt _ hS;simp[E']at this
  ·simp only[E',if_neg hi];exact h.mu id b' (hold id b' hb hi) hc0 hfz
 ·by_cases hi:id=E.N
  ·subst hi;rw[hnew b' hb,hf]at hfz;cases hfz
  ·simp only[E',if_neg hi];exact h.frz id b' (hold id b' hb hi) hc0 hfz
 ·have:=h.slt c hc;simp;omega
 ·have:=h.bas;simp;omega
 ·exact h.bel.alloc h.bas _
theorem Zm.upd(h:Zm E B w0 H w){id:Nat}{b b':Blk}(hb:H id=some b)(hr0:b.cap≠some 0)(hfz:b.fz=false)(hty:b'.ty=b.ty)(hsz:b'.sz=b.sz)(hcap:b'.cap=b.cap)(hfz':b'.fz=false){cur cur':Array Value}(hcur:w.heap[E.η id]?=some (.cells cur b.ty (0,0)))
  (hcs:cur'.size=cur.size) (hlen:b'.es.length≤E.κ id) (hs:Zp b.sz b'.es=true) (hd:∀i j x,QZ b'.es i j=some x→∃z,cur'[i*b.sz+j]?=some z∧Den E w x z) :
  QD E w (w.setRow (E.η id) cur')∧Zm E B w0 (H.set id b') (w.setRow (E.η id) cur'):=by
 have hmu:=h.mu id b hb hr0 hfz;have hkp:QD E w (w.setRow (E.η id) cur'):=fun c hc=>setRow_other w _ c _ (fun e=>hmu (e▸hc));refine⟨hkp,?_⟩;have hsize:(w.setRow (E.η id) cur').heap.size=w.heap.size:=by simp[World.setRow]
 have hold:∀i q,(H.set id b') i=some q→i≠id→H i=some q:=fun i q hq hne=>by simpa[Qf.set,hne]using hq
 have hnew:∀q,(H.set id b') id=some q→q=b':=fun q hq=>by simpa[Qf.set,eq_comm]using hq
 obtain⟨cur0,z0,g1,g2,g3,g4,g5,g6,g7,g8,g9⟩:=h.blk id b hb hr0;rw[hcur]at g1;simp only[Option.some.injEq,Obj.cells.injEq,and_true]at g1;obtain⟨rfl⟩:=g1;have hob:=h.objs (L:=(H.set id b').L) (Env.le.refl E) (fun c hc=>hc) hkp (fun c q hq hqc=>setRow_other w _ c _ (fun e=>by subst e;rw[hcur]at hq;injection hq with hq;subst hq;cases hqc)) (fun c hc=>.inl hc) (fun _ _ h=>h);refine⟨fun i q hq=>?_,fun i q hq hc0=>?_,fun i q hq hc0=>?_,fun i j q r h1 h2 hz1 hz2 he=>?_,fun i q hq hc0 hf=>?_,fun i q hq hc0 hf=>?_,fun c hc=>?_,h.so,?_,?_,hob.1,hob.2.1,hob.2.2.1,hob.2.2.2.1,hob.2.2.2.2⟩
 ·by_cases hi:i=id
  ·subst hi;exact h.lt i b hb
  ·exact h.lt i q (hold i q hq hi)
 ·by_cases hi:i=id
  ·subst hi;rw[hnew q hq,hcap]at hc0;exact(hr0 hc0).elim
  ·exact h.gst i q (hold i q hq hi) hc0
 ·by_cases hi:i=id
  ·subst hi;rw[hnew q hq];refine⟨cur',fun i j=>cur'.getD (i*b.sz+j) undef,?_,by rw[hcs,g2,hsz],hlen,g4,g5,fun e he=>?_,fun k hk=>g7 k (by rw[←hcap];exact hk),fun k j x hx=>?_,fun k j x hx=>?_⟩
   ·rw[hty];exact setRow_heap w _ _ _ _ _ hcur
   ·have:=List.all_eq_true.1 hs e he;simpa[hsz]using this
   ·obtain⟨z,hz,_⟩:=hd k j x hx;rw[hsz];simp[Array.getD_eq_getD_getElem?,hz]
   ·obtain⟨z,hz,hdz⟩:=hd k j x hx;have:=hdz.mono (Env.le.refl E) hkp;simpa[Array.getD_eq_getD_getElem?,hz]using this
  ·obtain⟨c',z,h1,h2,h3,h4,h5,h6,h7,h8,h9⟩:=h.blk i q (hold i q hq hi) hc0;refine⟨c',z,?_,h2,h3,h4,h5,h6,h7,h8,fun k j x hx=>(h9 k j x hx).mono (Env.le.refl E) hkp⟩;rw[setRow_other w _ _ _ (fun e=>hi (h.inj i id q b (hold i q hq hi) hb hc0 hr0 e))];exact h1
 ·have f:∀i q,(H.set id b') i=some q→q.cap≠some 0→∃q',H i=some q'∧q'.cap≠some 0:=fun i q hq hz=>by
   by_cases hi:i=id
   ·subst hi;exact⟨b,hb,hr0⟩
   ·exact⟨q,hold i q hq hi,hz⟩
  obtain⟨q',hq',hz3⟩:=f i q h1 hz1;obtain⟨r',hr',hz4⟩:=f j r h2 hz2;exact h.inj i j q' r' hq' hr' hz3 hz4 he
 ·by_cases hi:i=id
  ·subst hi;exact hmu
  ·exact h.mu i q (hold i q hq hi) hc0 hf
 ·by_cases hi:i=id
  ·subst hi;rw[hnew q hq,hfz']at hf;cases hf
  ·exact h.frz i q (hold i q hq hi) hc0 hf
 ·rw[hsize];exact h.slt c hc
 ·rw[hsize];exact h.bas
 ·exact h.bel.trans ⟨rfl,rfl,rfl,by rw[hsize];exact Nat.le_refl _,fun k hk=>setRow_other w _ _ _ (fun e=>by omega)⟩
theorem Zm.kill(h:Zm E B w0 H w)(id:Nat):Zm E B w0 (H.kill id) w:=by
 have f:∀i q,(H.kill id) i=some q→H i=some q:=fun i q hq=>by
  simp only[Qf.kill]at hq;split at hq
  ·cases hq
  ·exact hq
 exact⟨fun i q hq=>h.lt i q (f i q hq),fun i q hq=>h.gst i q (f i q hq),fun i q hq=>h.blk i q (f i q hq),fun i j q r h1 h2=>h.inj i j q r (f i q h1) (f j r h2),fun i q hq=>h.mu i q (f i q hq),fun i q hq=>h.frz i q (f i q hq),h.slt,h.so,h.bas,h.bel,h.obj,h.dfr,h.dfb,h.zdd,h.oin⟩
end
def FW(ρ:Option Nat):Fence:={ Fence.wide with round:=ρ }
theorem qaW(ρ:Option Nat)(k:Nat):(FW ρ).room k:=fun d h=>by cases h
theorem KO{ρ:Option Nat}{n:Nat}{P:Program}{f:FuncId}{args:Array Value}{w:World}{R:Ending→World→Prop}:CallsIn (FW ρ) n P f args w R↔Calls P f args w R :=
 ⟨fun h=>callsIn_wide (n:=n).1 h,fun h=>callsIn_wide (n:=n).2 h⟩
theorem qds{ρ:Option Nat}{n n':Nat}{P:Program}{c:Code}{Q:Exit→Act→World→Prop}{a:Act}{w:World}(h:c.wpIn (FW ρ) n P Q a w):c.wpIn (FW ρ) n' P Q a w :=
 fun b k cs h1 h2 _=>h b k cs h1 h2 (qaW ρ _)
theorem qeL{ρ:Option Nat}{P:Program}{o:Oper}{a:Act}{w:World}:∀f,o.about P w a.eval=some f→(FW ρ).fn f:=fun f _=>trivial
theorem qiZ{P:Program}{o:Oper}{v:Operand→Value}{w w':World}{n:Next}(h:(execOp v o).run P w=.ok n w')(hn:∀d,n≠.defer d):∀c,o.op≠.defer c:=by
 intro c hc;unfold execOp at h;simp only[hc]at h;simp only[Sem.run_bind]at h;cases hr:(resolve v c o.type).run P w with
 | ok d w1=>rw[hr]at h;simp only[Result.andThen_ok,Sem.run_pure,Result.ok.injEq]at h;exact hn d h.1.symm
 | halt x w1=>rw[hr]at h;simp[Result.andThen]at h
theorem YP{ρ:Option Nat}{P:Program}{o:Oper}{a:Act}{w w':World}{n:Next}{K:Act→World→Prop}{Q:Exit→Act→World→Prop}(h:(execOp a.eval o).run P w=.ok n w')(hn:∀d,n≠.defer d)(hk:o.uponIn (FW ρ) 3 P a K Q (.ok n w')):o.wpIn (FW ρ) 3 P a w K Q :=
 ⟨qeL,by rw[Oper.semAt_eq _ _ _ (qiZ h hn),h];exact hk⟩
def Ym(E:Env)(B:Nat)(w0 w:World)(Q:St→Prop)(a':Act)(w':World):Prop:=∃E' st',E.le E'∧QD E w w'∧Rel E' B w0 st' a' w'∧Q st'
theorem QD.refl(E:Env)(w:World):QD E w w:=fun _ _=>rfl
theorem QD.trans{E E':Env}{w w1 w2:World}(h:QD E w w1)(he:E.le E')(k:QD E' w1 w2):QD E w w2:=fun c hc=>(k c (he.S c hc)).trans (h c hc)
def Qx(P:Program)(ops:Array Oper)(l:List Oper)(st:St)(Q:St→Prop):Prop :=
 ∀ρ E B w0 a w,Rel E B w0 st a w→∀R:Exit→Act→World→Prop,(∀a' w',Ym E B w0 w Q a' w'→R .normal a' w')→wpListIn (FW ρ) 3 P ops R l a w
def Qe(P:Program)(b:Bool)(c:Code)(st:St)(Q:Exit→St→Prop):Prop :=
 ∀ρ,(b=true→ρ=none)→∀E B w0 a w,Rel E B w0 st a w→∀R:Exit→Act→World→Prop,(∀e a' w',Ym E B w0 w (Q e) a' w'→R e a' w')→c.wpIn (FW ρ) 3 P R a w
def Qv(P:Program)(f:FuncId)(args:List AV)(H:Qf)(N:Nat)(Q:AV→Qf→Nat→Prop):Prop :=
 ∀E B w0 w args',Zm E B w0 H w→E.N=N→args'.size=args.length→(∀j u,args[j]?=some u→Den E w u (args'.getD j undef)) →
  Calls P f args' w fun e w'=>∃v E' r H' N',e=.returned v∧E.le E'∧QD E w w'∧Zm E' B w0 H' w'∧E'.N=N'∧Den E' w' r v∧Q r H' N'
theorem Ym.mono{E:Env}{B:Nat}{w0 w:World}{Q Q':St→Prop}{a:Act}{w':World}(h:Ym E B w0 w Q a w')(hq:∀st,Q st→Q' st):Ym E B w0 w Q' a w' :=
 let⟨E',st',h1,h2,h3,h4⟩:=h;⟨E',st',h1,h2,h3,hq _ h4⟩
theorem Ym.trans{E E1:Env}{B:Nat}{w0 w w1:World}{Q:St→Prop}{a:Act}{w':World}(he:E.le E1)(hk:QD E w w1)(h:Ym E1 B w0 w1 Q a w'):Ym E B w0 w Q a w' :=
 let⟨E',st',h1,h2,h3,h4⟩:=h;⟨E',st',he.trans h1,hk.trans he h2,h3,h4⟩
theorem Qx.mono{P:Program}{ops:Array Oper}{l:List Oper}{st:St}{Q Q':St→Prop}(h:Qx P ops l st Q)(hq:∀st,Q st→Q' st):Qx P ops l st Q' :=
 fun ρ E B w0 a w hr R hR=>h ρ E B w0 a w hr R fun a' w' hA=>hR a' w' (hA.mono hq)
theorem Qe.mono{P:Program}{pl:Bool}{c:Code}{st:St}{Q Q':Exit→St→Prop}(h:Qe P pl c st Q)(hq:∀e st,Q e st→Q' e st):Qe P pl c st Q' :=
 fun ρ hρ E B w0 a w hr R hR=>h ρ hρ E B w0 a w hr R fun e a' w' hA=>hR e a' w' (hA.mono (hq e))
theorem Qv.mono{P:Program}{f:FuncId}{args:List AV}{H:Qf}{N:Nat}{Q Q':AV→Qf→Nat→Prop}(h:Qv P f args H N Q)(hq:∀r H' N',Q r H' N'→Q' r H' N'):Qv P f args H N Q' :=
 fun E B w0 w args' h1 h2 h3 h4=>(h E B w0 w args' h1 h2 h3 h4).mono fun e w' ⟨v,E',r,H',N',g1,g2,g3,g4,g5,g6,g7⟩=>⟨v,E',r,H',N',g1,g2,g3,g4,g5,g6,hq _ _ _ g7⟩
def YQ(st st2:St):Prop:=∀E B w0 a w,Rel E B w0 st a w→∃E',E.le E'∧Rel E' B w0 st2 a w
theorem Qe.weak{P:Program}{pl:Bool}{c:Code}{st st2:St}{Q:Exit→St→Prop}(hw:YQ st st2)(h:Qe P pl c st2 Q):Qe P pl c st Q:=fun ρ hρ E B w0 a w hr R hR=>by obtain⟨E',he,hr'⟩:=hw E B w0 a w hr;exact h ρ hρ E' B w0 a w hr' R fun e a' w' hA=>hR e a' w' (hA.trans he (QD.refl _ _))
theorem Qx.weak{P:Program}{ops:Array Oper}{l:List Oper}{st st2:St}{Q:St→Prop}(hw:YQ st st2)(h:Qx P ops l st2 Q):Qx P ops l st Q:=fun ρ E B w0 a w hr R hR=>by obtain⟨E',he,hr'⟩:=hw E B w0 a w hr;exact h ρ E' B w0 a w hr' R fun a' w' hA=>hR a' w' (hA.trans he (QD.refl _ _))
def Qw(P:Program)(st:St)(o:Oper)(u:AV)(st1:St):Prop :=
 ∀E B w0 a w,Rel E B w0 st a w→∃y w' E',(execOp a.eval o).run P w=.ok (.value y) w'∧E.le E'∧QD E w w'∧Rel E' B w0 st1 a w'∧Den E' w' u y
def JO(P:Program)(st:St)(o:Oper)(st1:St):Prop :=
 ∀E B w0 a w,Rel E B w0 st a w→∃w' E',(execOp a.eval o).run P w=.ok .skip w'∧E.le E'∧QD E w w'∧Rel E' B w0 st1 a w'
section
variable{P:Program}{ops:Array Oper}{l:List Oper}{o:Oper}{st st1 st':St}{Q:St→Prop}{u:AV}
theorem Qw.value(h:avalue P st o=some u):Qw P st o u st:=fun E B w0 a w hr=>by obtain⟨y,hy,hd⟩:=qf3 hr h;exact⟨y,w,E,hy,Env.le.refl E,QD.refl E w,hr,hd⟩
theorem Qx.nil(h:Q st):Qx P ops [] st Q:=fun ρ E B w0 a w hr R hR=>hR a w ⟨E,st,Env.le.refl E,QD.refl E w,hr,h⟩
def wanted(st:St)(ops:Array Oper)(o:Oper):Option Bool :=
 match o.guard with
 | none=>some true
 | some (j,want)=>match (ops[j]?).bind (·.dst)with
  | none=>some false
  | some d=>match st.env d with|.v (.bool b)=>if d<st.n then some (b==want)else none|.v (.tuple _)=>some false|_=>none
theorem Y5{E:Env}{B:Nat}{w0:World}{a:Act}{w:World}(hr:Rel E B w0 st a w){b:Bool}(h:wanted st ops o=some b):Region.wanted o (yielded ops a.tmps)=b:=by
 unfold wanted at h;unfold Region.wanted;split at h
 ·rename_i hg;rw[hg];injection h
 ·rename_i j want hg;rw[hg];simp only[yielded];split at h
  ·rename_i hd;rw[hd];injection h
  ·rename_i d hd;rw[hd];have ht:=hr.t d;simp only[Option.bind_some];split at h
   ·rename_i q hq;split at h
    ·rename_i hlt;rw[hq]at ht;generalize hz:a.tmps.getD d undef=z at ht;cases ht;have hlt':d<a.tmps.size:=by rw[hr.n];exact hlt
     simp only[Array.getD_eq_getD_getElem?,Array.getElem?_eq_getElem hlt',Option.getD_some]at hz;rw[Array.getElem?_eq_getElem hlt',hz];injection h
    ·cases h
   ·rename_i q hq;injection h with h;subst h;rw[hq]at ht;generalize hz:a.tmps.getD d undef=z at ht;cases ht;cases hx:a.tmps[d]? with
    | none=>rfl
    | some z =>simp only[Array.getD_eq_getD_getElem?,hx,Option.getD_some]at hz;subst hz;rfl
   ·cases h
theorem Qx.step(hg:wanted st ops o=some true)(hs:Qw P st o u st1)(hp:st1.put o.dst u=some st')(h:Qx P ops l st' Q):Qx P ops (o::l) st Q:=fun ρ E B w0 a w hr R hR=>by obtain⟨y,w',E',hy,he,hk,hr1,hd⟩:=hs E B w0 a w hr;unfold wpListIn;rw[if_pos (Y5 hr hg)];exact YP hy (fun d=>by simp) (h ρ E' B w0 _ w' (hr1.put hd hp) R fun a' w2 hA=>hR a' w2 (hA.trans he hk))
theorem Qx.skip(hg:wanted st ops o=some true)(hs:JO P st o st1)(hp:st1.put o.dst (.v undef)=some st')(h:Qx P ops l st' Q):Qx P ops (o::l) st Q:=fun ρ E B w0 a w hr R hR=>by obtain⟨w',E',hy,he,hk,hr1⟩:=hs E B w0 a w hr;unfold wpListIn;rw[if_pos (Y5 hr hg)];exact YP hy (fun d=>by simp) (h ρ E' B w0 _ w' (hr1.put (.v undef) hp) R fun a' w2 hA=>hR a' w2 (hA.trans he hk))
theorem Qx.pass(hg:wanted st ops o=some false)(hp:st.put o.dst (.v undef)=some st')(h:Qx P ops l st' Q):Qx P ops (o::l) st Q:=fun ρ E B w0 a w hr R hR=>by unfold wpListIn;rw[if_neg (by rw[Y5 hr hg];simp)];exact⟨qeL,h ρ E B w0 _ w (hr.put (.v undef) hp) R hR⟩
theorem Qx.call(hg:wanted st ops o=some true){c:Call}(ho:o.op=.call c){x:Operand}(hc:c.callee=.value x){f:FuncId}{fs cs:List AV}(hf:ev st x=.fn (.func f) fs cs){fn:Func}{body:Code}(hfn:P.funcs[f]?=some fn)
  (hname:(fn.name=="runtime.NumGoroutine")=false) (hb:fn.body=some body)
  (h:Qv P f (fs++c.args.toList.map (ev st)++cs) st.H st.N fun r H' N'=>∃st',({ st with H:=H',N:=N' }:St).put o.dst r=some st'∧Qx P ops l st' Q):Qx P ops (o::l) st Q:=fun ρ E B w0 a w hr R hR=>by
 unfold wpListIn;rw[if_pos (Y5 hr hg)];have hx:=hr.ev x;rw[hf]at hx;generalize hq:a.eval x=q at hx;cases hx with
 | fn _ _ _ fs' cs' hlf hlc hdf hdc =>
 have hrun:(execOp a.eval o).run P w=.ok (.enter f (fs'++c.args.map a.eval++cs')) w:=by
  unfold execOp;simp only[ho,resolve,hc,hq,Deferred.ofValue,Sem.run_bind,Sem.run_pure,Result.andThen_ok,invoke];have hname':¬fn.name="runtime.NumGoroutine":=by simpa using hname
  simp[callFunc,hfn,hname',hb]
 refine YP hrun (fun d=>by simp) ⟨fun h=>(by cases h),KO.2 ?_⟩;obtain⟨ha1,ha2⟩:=qbg hr c.args;refine(h E B w0 w (fs'++c.args.map a.eval++cs') hr.h hr.N (by simp[hlf,hlc]) (fun j u hu=>?_)).mono fun e w' hh=>?_
 ·simp only[Array.getD_eq_getD_getElem?,Array.getElem?_append,List.getElem?_append,List.length_append,Array.size_append]at hu⊢;simp only[hlf,ha1];split at hu
  ·rename_i h1;rw[if_pos h1];split at hu
   ·rename_i h2;rw[if_pos h2];have:=hdf j u hu;simpa[Array.getD_eq_getD_getElem?]using this
   ·rename_i h2;rw[if_neg h2];have:=ha2 _ u hu;simpa[Array.getD_eq_getD_getElem?]using this
  ·rename_i h1;rw[if_neg h1];have:=hdc _ u hu;simpa[Array.getD_eq_getD_getElem?]using this
 ·obtain⟨v,E',r,H',N',rfl,he,hk,hH,hN,hd,st',hp,hO⟩:=hh;have hr1:Rel E' B w0 ({ st with H:=H',N:=N' }:St) a w':=hr.le he hk hH hN;exact hO ρ E' B w0 _ w' (hr1.put hd hp) R fun a' w2 hA=>hR a' w2 (hA.trans he hk)
end
section
variable{P:Program}{pl:Bool}{c d:Code}{st:St}{Q:Exit→St→Prop}
theorem Qe.skip(h:Q .normal st):Qe P pl .skip st Q:=fun ρ hρ E B w0 a w hr R hR=>wpIn_skip (hR _ _ _ ⟨E,st,Env.le.refl E,QD.refl E w,hr,h⟩)
theorem Qe.ret(h:Q .ret st):Qe P pl .ret st Q:=fun ρ hρ E B w0 a w hr R hR=>wpIn_ret (hR _ _ _ ⟨E,st,Env.le.refl E,QD.refl E w,hr,h⟩)
theorem Qe.exit{id:Nat}(h:Q (.exit id) st):Qe P pl (.exit id) st Q:=fun ρ hρ E B w0 a w hr R hR=>wpIn_exit (hR _ _ _ ⟨E,st,Env.le.refl E,QD.refl E w,hr,h⟩)
theorem Qe.seq(h:Qe P pl c st fun e st'=>match e with|.normal=>Qe P pl d st' Q|e=>Q e st'):Qe P pl (.seq c d) st Q:=fun ρ hρ E B w0 a w hr R hR=>by
 refine wpIn_seq (h ρ hρ E B w0 a w hr _ fun e a' w' hA=>?_);cases e with
 | normal =>obtain⟨E',st',he,hk,hr',hd⟩:=hA;exact hd ρ hρ E' B w0 a' w' hr' R fun e2 a2 w2 hA2=>hR e2 a2 w2 (hA2.trans he hk)
 | _=>exact hR _ a' w' hA
theorem Qe.cond{x:Operand}{b:Bool}(hx:ev st x=.v (.bool b))(h:Qe P pl (if b then c else d) st Q):Qe P pl (.cond x c d) st Q:=fun ρ hρ E B w0 a w hr R hR=>by have hd:=hr.ev x;rw[hx]at hd;generalize hq:a.eval x=q at hd;cases hd;exact wpIn_cond hq (h ρ hρ E B w0 a w hr R hR)
theorem Qe.region{id:Nat}{l:List Oper}(h:Qx P l.toArray l st (Q .normal)):Qe P pl (.region id l.toArray false) st Q:=fun ρ hρ E B w0 a w hr R hR =>wpIn_region_lit (h ρ E B w0 a w hr R fun a' w' hA=>hR _ a' w' hA)
theorem Qe.block{id:Nat}(h:Qe P pl c st fun e st'=>match e with|.exit i=>if i=id then Q .normal st' else Q (.exit i) st'|e=>Q e st'):Qe P pl (.block id c) st Q:=fun ρ hρ E B w0 a w hr R hR=>by
 refine wpIn_block (h ρ hρ E B w0 a w hr _ fun e a' w' hA=>?_);cases e with
 | exit i =>
  simp only[Exit.inBlock];by_cases hi:i=id
  ·rw[if_pos hi];exact hR _ _ _ (hA.mono fun st hq=>by simpa[hi]using hq)
  ·rw[if_neg hi];exact hR _ _ _ (hA.mono fun st hq=>by simpa[hi]using hq)
 | _=>exact hR _ a' w' hA
theorem Qe.loop{α:Type}(I:α→St→Prop)(m:α→Nat)(x0:α)(h0:I x0 st)(round:∀x st,I x st→Qe P pl c st fun e st'=>match e with|.normal=>∃y,I y st'∧m y<m x|e=>Q e st'):Qe P pl (.loop c) st Q:=by
 intro ρ hρ E B w0 a w hr R hR b k cs hro hb hrm;have key:∀n x st,m x=n→I x st→∀E1 a w1,E.le E1→QD E w w1→Rel E1 B w0 st a w1→∃e a' w',R e a' w'∧ArrivesIn (Machine.fenced P (FW ρ)) P (lone (b.atR a (.code c::.inLoop c::k)) cs w1) b k cs e a' w':=by
  intro n;induction n using Nat.strongRecOn with
  | _ n ih =>
   intro x st hn hI E1 a w1 he hk hr1;obtain⟨e,a2,w2,hq,harr⟩:=round x st hI ρ hρ E1 B w0 a w1 hr1 _ (fun e a' w' hA=>hA) b (.inLoop c::k) cs hro hb hrm;cases e with
   | normal =>obtain⟨E2,st2,he2,hk2,hr2,y,hI2,hlt⟩:=hq;obtain⟨e3,a3,w3,hq3,harr3⟩:=ih (m y) (hn▸hlt) y st2 rfl hI2 E2 a2 w2 (he.trans he2) (hk.trans he hk2) hr2;exact⟨e3,a3,w3,hq3,.of_steps (StepsIn.trans harr (.one (fenced_calm hb hrm rfl) stepR_inLoop)) harr3⟩
   | exit id=>exact⟨_,a2,w2,hR _ _ _ (Ym.trans he hk hq),.pass (x:=.inLoop c) rfl (fun _ _=>.inl (by simp)) harr⟩
   | goto l=>exact⟨_,a2,w2,hR _ _ _ (Ym.trans he hk hq),.pass (x:=.inLoop c) rfl (fun _ _=>.inl (by simp)) harr⟩
   | ret=>exact⟨_,a2,w2,hR _ _ _ (Ym.trans he hk hq),.pass (x:=.inLoop c) rfl (fun _ _=>.inl (by simp)) harr⟩
   | panic ch=>exact⟨_,a2,w2,hR _ _ _ (Ym.trans he hk hq),.pass (x:=.inLoop c) rfl (fun _ _=>.inl (by simp)) harr⟩
   | outgrown=>exact⟨_,a2,w2,hR _ _ _ (Ym.trans he hk hq),.pass (x:=.inLoop c) rfl (fun _ _=>.inl (by simp)) harr⟩
 obtain⟨e,a',w',hq,harr⟩:=key _ x0 st rfl h0 E a w (Env.le.refl E) (QD.refl E w) hr;exact⟨e,a',w',hq,.of_steps (.one (fenced_calm hb hrm rfl) stepR_loop) harr⟩
end
def aresult(P:Program)(st:St):ResultVar→Option AV
 | .tmp t=>some (st.env t)
 | .cell x t=>aload P st t (st.env x)
def aresults(P:Program)(st:St):List ResultVar→Option (List AV)
 | []=>some []
 | r::rs=>match aresult P st r,aresults P st rs with|some x,some xs=>some (x::xs)|_,_=>none
def X3(tmps:Array Value):ResultVar→Sem Value
 | .tmp t=>pure (tmps.getD t undef)
 | .cell a t=>do loadVar t (←asAddr (tmps.getD a undef))
theorem qgG(fn:Func)(tmps:Array Value):results fn tmps=(do let vs ←fn.results.mapM (X3 tmps);pure (if h:vs.size=1 then vs[0]else .tuple vs)):=rfl
def packed:List AV→AV|[x]=>x|xs=>.tup xs
section
variable{P:Program}{E:Env}{B:Nat}{w0:World}{st:St}{a:Act}{w:World}
theorem qdF(hr:Rel E B w0 st a w){r:ResultVar}{x:AV}(h:aresult P st r=some x) :
  ∃y,(X3 a.tmps r).run P w=.ok y w∧Den E w x y:=by
 cases r with
 | tmp t=>simp only[aresult,Option.some.injEq]at h;subst h;exact⟨_,by simp[X3],hr.t t⟩
 | cell c t =>
  simp only[aresult]at h;obtain⟨z,hz,hd⟩:=qca hr.h (hr.t c) h;refine⟨z,?_,hd⟩;have hd':=hr.t c;unfold aload at h;split at h
  ·split at h
   ·rename_i cs hc;obtain⟨ad,z',hy,_⟩:=qeR hr.h hd' hc;rw[hy]at hz;simp only[X3,hy];simpa[Instr.loadAt,Instr.sureAddr,asAddr]using hz
   ·cases h
  ·cases h
theorem qce(hr:Rel E B w0 st a w):∀(rs:List ResultVar) (xs:List AV),aresults P st rs=some xs →
  ∃ys:List Value,(rs.mapM (X3 a.tmps)).run P w=.ok ys w∧ys.length=xs.length∧∀(j:Nat) (u:AV),xs[j]?=some u→Den E w u (ys.getD j undef):=by
 intro rs;induction rs with
 | nil=>intro xs h;cases h;exact⟨[],by simp,rfl,fun j u hu=>by simp at hu⟩
 | cons r rs ih =>
  intro xs h;simp only[aresults]at h;split at h
  ·rename_i x xs' hx hxs;cases h;obtain⟨y,hy,hd⟩:=qdF (P:=P) hr hx;obtain⟨ys,hys,hl,hds⟩:=ih xs' hxs;refine⟨y::ys,?_,by simp[hl],fun j u hu=>?_⟩
   ·simp only[List.mapM_cons,Sem.run_bind,hy,Result.andThen_ok,hys,Sem.run_pure]
   ·cases j with
    | zero=>simp at hu;subst hu;simpa using hd
    | succ j=>simp at hu;simpa using hds j u hu
  ·cases h
def enter(n:Nat)(args:List AV)(H:Qf)(N:Nat):St:={ n:=n,env:=fun i=>args.getD i (.v undef),H:=H,N:=N }
theorem qcM{fn:Func}{tmps:Array Value}{R:Ending→World→Prop}:∀(ds:List Nat) (w:World),ds.Nodup→(∀c∈ds,w.heap[c]?=some (.deferred (some []))) →
  (∀w2,JC ds w w2→∃v,(results fn tmps).run P w2=.ok v w2∧R (.returned v) w2)→LeavesInM (FW none) 3 P fn tmps R (ds.map fun c=>{ target:=.collected c,args:=#[] }) .returning w:=by
 intro ds;induction ds with
 | nil=>intro w _ _ h;exact h w (JC.refl w)
 | cons c ds ih =>
  intro w hnd hds h;have hc:=hds c (by simp);refine⟨by simp,.inl ⟨c,_,rfl,run_takeDeferred hc,?_⟩⟩;have hnd':=List.nodup_cons.1 hnd;refine ih _ hnd'.2 (fun c' hc'=>?_) fun w2 hw2=>h w2 ?_
  ·rw[World.putObj_heap_other (fun(e:c'=c)=>hnd'.1 (by rw[←e];exact hc'))];exact hds c' (by simp[hc'])
  ·exact⟨hw2.os,hw2.tape,hw2.output,by rw[hw2.size];simp,fun k hk=>by simp only[List.mem_cons,not_or]at hk;rw[hw2.heap k hk.2,World.putObj_heap_other hk.1]⟩
theorem Qv.QM{f:FuncId}{fn:Func}{c:Code}{args:List AV}{H:Qf}{N:Nat}{Q:AV→Qf→Nat→Prop}(hf:P.funcs[f]?=some fn)(hb:fn.body=some c)(hn:args.length≤fn.ntmps)
  (h:Qe P true c (enter fn.ntmps args H N) fun e st=>(e=.normal∨e=.ret)∧∃xs,aresults P st fn.results.toList=some xs∧Q (packed xs) st.H st.N):Qv P f args H N Q:=by
 intro E B w0 w args' hH hN hl hd;let E0:Env:=⟨E.η,E.κ,E.S,E.N,E.Z,E.D,E.D⟩;have hH0:Zm E0 B w0 H w:=hH.turn (JC.refl w) (fun c hc=>by cases hc) E.D E.D (fun c hc=>⟨hc,by simp,.inl hc⟩) (fun c hc=>hc) H.L (fun id r hr=>⟨r,hr,.inl ⟨rfl,by simp⟩⟩);have hr:Rel E0 B w0 (enter fn.ntmps args H N) { tmps:=args'++Array.replicate (fn.ntmps-args'.size) undef,defers:=[] } w:=by
  refine⟨⟨[],rfl,List.nodup_nil,fun c hc=>by cases hc⟩,by simp[enter];omega,fun i=>?_,hH0,hN⟩;simp only[enter];by_cases hi:i<args.length
  ·have:=hd i args[i] (List.getElem?_eq_getElem hi);simp only[List.getD_eq_getElem?_getD,List.getElem?_eq_getElem hi,Option.getD_some];have e:(args'++Array.replicate (fn.ntmps-args'.size) undef).getD i undef=args'.getD i undef:=by simp only[Array.getD_eq_getD_getElem?,Array.getElem?_append,if_pos (show i<args'.size by omega)]
   rw[e];exact Den.sub (E:=E) (E':=E0) (Nat.le_refl _) (fun _ _=>rfl) (fun _ _=>rfl) (fun _ h=>h) (QD.refl _ _) this
  ·simp only[List.getD_eq_getElem?_getD,List.getElem?_eq_none (Nat.le_of_not_lt hi),Option.getD_none];have e:(args'++Array.replicate (fn.ntmps-args'.size) undef).getD i undef=undef:=by simp only[Array.getD_eq_getD_getElem?,Array.getElem?_append,if_neg (show ¬i<args'.size by omega),Array.getElem?_replicate];split<;>rfl
   rw[e];exact .v undef
 refine(KO (ρ:=none) (n:=3)).1 (callsIn_of_wp_marks hf hb trivial (h none (fun _=>rfl) E0 B w0 _ w hr _ fun e a' w1 hA=>?_));obtain⟨E1,st',he,hk,hr',hex,xs,hxs,hq⟩:=hA;have key:LeavesInM (FW none) 3 P fn a'.tmps (fun e w'=>∃v E' r H' N',e=.returned v∧E.le E'∧QD E w w'∧Zm E' B w0 H' w'∧E'.N=N'∧Den E' w' r v∧Q r H' N') a'.defers .returning w1:=by
  obtain⟨ds,h1,h2,h3⟩:=hr'.d;rw[h1];have hZD:E1.ZD=E.D:=he.ZD;have hdsE:∀c∈ds,w1.heap[c]?=some (.deferred (some []))∧B≤c∧¬E1.S c:=fun c hc=>by obtain⟨q1,q2⟩:=h3 c hc;obtain⟨q3,q4⟩:=hr'.h.dfr c q1;exact⟨q3,(hr'.h.dfb c q1).resolve_left q2,q4⟩
  refine qcM ds w1 h2 (fun c hc=>(hdsE c hc).1) fun w2 hw2=>?_;have hD:∀c,E.D c→E1.D c∧c ∉ ds∧(E.ZD c∨B≤c):=fun c hc=>⟨he.D c hc,fun hm=>(h3 c hm).2 (by rw[hZD];exact hc),hH.dfb c hc⟩;have hH2:=hr'.h.turn hw2 (fun c hc=>⟨⟨_,(hdsE c hc).1,rfl⟩,(hdsE c hc).2⟩) E.D E.ZD hD hH.zdd st'.H.L (fun id r hr=>⟨r,hr,.inl ⟨rfl,fun hm=>by obtain⟨_,_,_,fn,tmps,D',q,_⟩:=hr'.h.obj id r hr;rw[(hdsE _ hm).1]at q;cases q⟩⟩)
  have hk2:QD E1 w1 w2:=hw2.keeps fun c hc=>(hdsE c hc).2.2;let E2:Env:=⟨E1.η,E1.κ,E1.S,E1.N,E1.Z,E.D,E.ZD⟩;have hr2:Rel E2 B w0 st' { a' with defers:=[] } w2:=⟨⟨[],rfl,List.nodup_nil,fun c hc=>by cases hc⟩,hr'.n,fun i=>Den.sub (E:=E1) (E':=E2) (Nat.le_refl _) (fun _ _=>rfl) (fun _ _=>rfl) (fun _ h=>h) hk2 (hr'.t i),hH2,hr'.N⟩;obtain⟨ys,hys,hl,hds⟩:=qce (P:=P) hr2 fn.results.toList xs hxs;have hm:(fn.results.mapM (X3 a'.tmps)).run P w2=.ok ys.toArray w2:=by rw[Array.mapM_eq_mapM_toList];change (List.mapM (X3 a'.tmps) fn.results.toList >>= fun x=>pure x.toArray).run P w2=_;simp only[Sem.run_bind,hys,Result.andThen_ok,Sem.run_pure]
  refine⟨if h:ys.toArray.size=1 then ys.toArray[0]else .tuple ys.toArray,by rw[qgG];simp only[Sem.run_bind,hm,Result.andThen_ok,Sem.run_pure],_,E2,packed xs,st'.H,st'.N,rfl,⟨he.n,he.η,he.κ,he.S,he.Z,fun _ h=>h,rfl⟩,hk.trans (E:=E0) he hk2,hr2.h,hr2.N,?_,hq⟩;rcases xs with _|⟨x,_|⟨x2,xs⟩⟩
  ·rw[dif_neg (by simp[hl])];exact .tup [] _ (by simp[hl]) (fun j u hu=>by simp at hu)
  ·have h1:ys.toArray.size=1:=by simpa using hl
   rw[dif_pos h1];have:=hds 0 x rfl;rcases ys with _|⟨y,ys⟩
   ·simp at hl
   ·simpa[packed]using this
  ·rw[dif_neg (by simp[hl])];exact .tup _ _ (by simpa using hl) (fun j u hu=>by simpa[Array.getD_eq_getD_getElem?,List.getD_eq_getElem?_getD]using hds j u hu)
 rcases hex with rfl|rfl
 ·exact key
 ·exact key
end
def Qs(P:Program)(st:St)(t:TypeId)(es:List (List AV))(cap:Option Nat):St :=
 { st with H:=st.H.set st.N { ty:=t,sz:=P.cellsOf t,es:=es,fz:=false,cap:=cap },N:=st.N+1 }
section
variable{P:Program}{E:Env}{B:Nat}{w0:World}{st:St}{a:Act}{w:World}
theorem Rel.new(hr:Rel E B w0 st a w)(t:TypeId)(es:List (List AV))(cap:Option Nat)(k:Nat)(cur:Array Value)(hc:cur.size=k*P.cellsOf t)(hk:es.length≤k)(hm:k≤maxLen)(hs:Zp (P.cellsOf t) es=true)(hcap:∀q,cap=some q→k=q)
  (hd:∀i j x,QZ es i j=some x→∃z,cur[i*P.cellsOf t+j]?=some z∧Den E w x z) :
  ∃E',E.le E'∧QD E w (w.alloc (.cells cur t))∧Rel E' B w0 (Qs P st t es cap) a (w.alloc (.cells cur t))∧E'.η st.N=w.heap.size∧E'.κ st.N=k∧st.N<E'.N:=by
 have hfresh:st.H E.N=none:=by
  cases h:st.H E.N with
  | none=>rfl
  | some b=>exact absurd (hr.h.lt _ _ h) (Nat.lt_irrefl _)
 obtain⟨E',h1,h2,h3,h4,h5,h6⟩:=hr.h.new { ty:=t,sz:=P.cellsOf t,es:=es,fz:=false,cap:=cap } k cur hc hk hm hs hcap rfl hd hfresh;have hN:=hr.N;refine⟨E',h1,h2,⟨hr.dle h1,hr.n,fun i=>(hr.t i).mono h1 h2,?_,?_⟩,by rw[←hN];exact h4,by rw[←hN];exact h5,by rw[h3,hN];exact Nat.lt_succ_self _⟩
 ·have:(Qs P st t es cap).H=st.H.set E.N { ty:=t,sz:=P.cellsOf t,es:=es,fz:=false,cap:=cap }:=by simp[Qs,hN]
  rw[this];exact h6
 ·simp[Qs,h3,hN]
theorem qlr{cs:List AV}{i j:Nat}{x:AV}(h:QZ [cs] i j=some x):i=0∧cs[j]?=some x:=by
 unfold QZ at h;cases i with
 | zero=>exact⟨rfl,by simpa using h⟩
 | succ i=>simp at h
theorem Rel.newVar(hr:Rel E B w0 st a w)(t:TypeId)(cs:List AV)(zs:Array Value)(hl:zs.size=cs.length)(hs:cs.length=P.cellsOf t)(hd:∀j x,cs[j]?=some x→Den E w x (zs.getD j undef)) :
  ∃E',E.le E'∧QD E w (w.alloc (.cells zs t))∧Rel E' B w0 (Qs P st t [cs] (some 1)) a (w.alloc (.cells zs t))∧Den E' (w.alloc (.cells zs t)) (.ptr st.N (P.cellsOf t) 0 0) (.pointer (some ⟨w.heap.size,0,none⟩)):=by
 obtain⟨E',h1,h2,h3,h4,h5,h6⟩:=hr.new t [cs] (some 1) 1 zs (by rw[hl,hs,Nat.one_mul]) (by simp) (by simp[maxLen]) (by simp[Zp,hs]) (fun q hq=>by injection hq) (fun i j x hx=>by
  obtain⟨rfl,hx'⟩:=qlr hx;have hlt:j<zs.size:=by rw[hl];exact(List.getElem?_eq_some_iff.1 hx').1
  refine⟨zs.getD j undef,?_,hd j x hx'⟩;simp[Array.getD_eq_getD_getElem?,Array.getElem?_eq_getElem hlt])
 refine⟨E',h1,h2,h3,?_⟩;have:=Den.ptr (E:=E') (w:=w.alloc (.cells zs t)) st.N (P.cellsOf t) 0 0 h6;rwa[h4,Nat.zero_mul]at this
theorem Qw.alloc{o:Oper}{t:TypeId}{cs:List AV}(ho:o.op=.alloc t)(hz:azero P t=some cs)(hs:cs.length=P.cellsOf t):Qw P st o (.ptr st.N (P.cellsOf t) 0 0) (Qs P st t [cs] (some 1)):=fun E B w0 a w hr=>by obtain⟨z,h1,h2,h3⟩:=JE hz;obtain⟨E',g1,g2,g3,g4⟩:=hr.newVar t cs z.cells h2 hs (h3 E w);refine⟨_,_,E',?_,g1,g2,g3,g4⟩;simp[execOp,ho,Instr.alloc,h1,newVar,newRow]
theorem Qw.box{o:Oper}{t:TypeId}{x:Operand}(ho:o.op=.box t x)(hs:(acells (ev st x)).length=P.cellsOf t):Qw P st o (.ptr st.N (P.cellsOf t) 0 0) (Qs P st t [acells (ev st x)] (some 1)):=fun E B w0 a w hr=>by obtain⟨h1,h2⟩:=V6 (hr.ev x);obtain⟨E',g1,g2,g3,g4⟩:=hr.newVar t _ (a.eval x).cells h1 hs h2;refine⟨_,_,E',?_,g1,g2,g3,g4⟩;simp[execOp,ho,Instr.box,newVar,newRow]
theorem qb9(sz:Nat):∀(parts:List (Nat×AV)) (k:Nat) (cells:List AV),parts.map (·.1)=List.range' k parts.length→(∀p∈parts,(acells p.2).length=sz)→k*sz+parts.length*sz≤cells.length →
  afill (fun i=>some (i*sz,sz)) cells parts=some (cells.take (k*sz)++(parts.map fun p=>acells p.2).flatten++cells.drop (k*sz+parts.length*sz)):=by
 intro parts;induction parts with
 | nil=>intro k cells _ _ _;simp[afill]
 | cons p parts ih =>
  intro k cells hm hs hl;obtain⟨i,x⟩:=p;simp only[List.map_cons,List.length_cons,List.range'_succ,List.cons.injEq]at hm;obtain⟨rfl,hm⟩:=hm;have hx:=hs (i,x) (by simp);simp only at hx;simp only[List.length_cons,Nat.add_mul,Nat.one_mul]at hl;simp only[afill];rw[if_pos ⟨hx,by omega⟩];have hlen:(cells.take (i*sz)++acells x++cells.drop (i*sz+sz)).length=cells.length:=by simp;omega
  rw[ih (i+1) _ (by simpa using hm) (fun p hp=>hs p (by simp[hp])) (by rw[hlen];simp only[Nat.add_mul,Nat.one_mul];omega)];congr 1;simp only[List.map_cons,List.flatten_cons,Nat.add_mul,Nat.one_mul,List.length_cons];have e1:(cells.take (i*sz)++acells x++cells.drop (i*sz+sz)).take (i*sz+sz)=cells.take (i*sz)++acells x:=by rw[List.take_append_of_le_length (by simp;omega),List.take_of_length_le (by simp;omega)]
  have e2:(cells.take (i*sz)++acells x++cells.drop (i*sz+sz)).drop (i*sz+sz+parts.length*sz)=cells.drop (i*sz+(parts.length*sz+sz)):=by
   have hl1:(cells.take (i*sz)++acells x).length=i*sz+sz:=by simp;omega
   rw[←hl1,←List.drop_drop,List.drop_left,List.drop_drop,hl1];congr 1;omega
  rw[e1,e2];simp
theorem XD{sz:Nat}:∀(es:List (List AV)),(∀e∈es,e.length=sz)→es.flatten.length=es.length*sz∧∀i j x,QZ es i j=some x→es.flatten[i*sz+j]?=some x:=by
 intro es;induction es with
 | nil=>intro _;exact⟨by simp,fun i j x hx=>by simp[QZ]at hx⟩
 | cons e es ih =>
  intro h;have he:=h e (by simp);obtain⟨h1,h2⟩:=ih (fun q hq=>h q (by simp[hq]));refine⟨by simp[he,h1,Nat.add_mul,Nat.add_comm],fun i j x hx=>?_⟩;cases i with
  | zero =>
   have hx':e[j]?=some x:=by simpa[QZ]using hx
   simp only[Nat.zero_mul,Nat.zero_add,List.flatten_cons];rw[List.getElem?_append_left (List.getElem?_eq_some_iff.1 hx').1];exact hx'
  | succ i =>
   have hx':QZ es i j=some x:=by simpa[QZ]using hx
   simp only[List.flatten_cons,Nat.add_mul,Nat.one_mul];rw[List.getElem?_append_right (by omega),show i*sz+sz+j-e.length=i*sz+j by omega];exact h2 i j x hx'
def Qz(P:Program)(t:TypeId)(len:Nat)(parts:List (Nat×AV)):Option (TypeId×List (List AV)) :=
 match P.underlying t with
 | some (.slice e)=>if ZQ P e∧(azero P e).isSome∧parts.map (·.1)=List.range' 0 len∧parts.length=len∧(∀p∈parts,(acells p.2).length=P.cellsOf e)∧len*P.cellsOf e≤16777216∧len≤16777216 then some (e,parts.map fun p=>acells p.2)else none
 | _=>none
theorem Qw.buildSlice{o:Oper}{t e:TypeId}{len:Nat}{parts:Array (Nat×Operand)}{es:List (List AV)}(ho:o.op=.buildSlice t len parts)(h:Qz P t len (parts.toList.map fun(i,x)=>(i,ev st x))=some (e,es)) :
  Qw P st o (.ref st.N (P.cellsOf e) 0 len none) (Qs P st e es (some len)):=fun E B w0 a w hr=>by
 unfold Qz at h;split at h
 ·rename_i e' hu;split at h
  ·rename_i hc;obtain⟨ht,haz,hm,hlen,hs,hbig,hbig2⟩:=hc;simp only[Option.some.injEq,Prod.mk.injEq]at h;obtain⟨rfl,rfl⟩:=h;obtain⟨zc,hzc⟩:=Option.isSome_iff_exists.1 haz;obtain⟨z,z1,z2,z3⟩:=JE hzc;let parts1:List (Nat×AV):=parts.toList.map fun(i,x)=>(i,ev st x);let parts2:List (Nat×Value):=parts.toList.map fun(i,x)=>(i,a.eval x);let zero:Array Value:=if len*P.cellsOf e'=0 then #[]else z.cells
   let zs:Array Value:=(Array.range (len*P.cellsOf e')).map (zero[·%zero.size]!);have hsz:zs.size=len*P.cellsOf e':=by simp[zs]
   have hlp1:parts1.length=len:=hlen;have hfill:=qb9 (P.cellsOf e') parts1 0 (zs.toList.map .v) (by rw[hm,hlen]) hs (by simp only[Nat.zero_mul,Nat.zero_add,List.length_map,Array.length_toList,hsz,hlp1];exact Nat.le_refl _);simp only[Nat.zero_mul,Nat.zero_add,List.take_zero,List.nil_append]at hfill;rw[List.drop_eq_nil_of_le (by simp only[List.length_map,Array.length_toList,hsz,hlp1];exact Nat.le_refl _),List.append_nil]at hfill;obtain⟨zs',f1,f2,f3⟩:=Vo (E:=E) (w:=w) _ parts1 parts2 _ _ zs hfill (by simp[parts1,parts2,Function.comp_def]) (fun k i x hk=>by
    simp only[parts1,List.getElem?_map,Option.map_eq_some_iff]at hk;obtain⟨⟨i',q⟩,hq,he⟩:=hk;simp only[Prod.mk.injEq]at he;obtain⟨rfl,rfl⟩:=he;exact⟨a.eval q,by simp only[parts2,List.getElem?_map,hq,Option.map_some],hr.ev q⟩) (by simp) (fun j x hx=>by
    simp only[List.getElem?_map,Option.map_eq_some_iff]at hx;obtain⟨q,hq,rfl⟩:=hx;have:zs[j]?=some q:=by simpa using hq
    simp only[Array.getD_eq_getD_getElem?,this,Option.getD_some];exact .v q)
   have hes:∀q∈(parts1.map fun p=>acells p.2),q.length=P.cellsOf e':=fun q hq=>by obtain⟨p,hp,rfl⟩:=List.mem_map.1 hq;exact hs p hp
   obtain⟨l1,l2⟩:=XD _ hes;have hlp:(parts1.map fun p=>acells p.2).length=len:=by rw[List.length_map];exact hlen
   obtain⟨E',g1,g2,g3,g4,g5,g6⟩:=hr.new e' (parts1.map fun p=>acells p.2) (some len) len zs' (by rw[f2,l1,hlp]) (by rw[hlp];exact Nat.le_refl _) (by simp only[maxLen];omega) (List.all_eq_true.2 fun q hq=>by simpa using hes q hq) (fun q hq=>by injection hq) (fun i j x hx=>by
    have:=l2 i j x hx;have hlt:i*P.cellsOf e'+j<zs'.size:=by rw[f2];exact(List.getElem?_eq_some_iff.1 this).1
    refine⟨zs'.getD (i*P.cellsOf e'+j) undef,?_,f3 _ _ this⟩;simp[Array.getD_eq_getD_getElem?,Array.getElem?_eq_getElem hlt])
   refine⟨.slice (some ⟨w.heap.size,0,none⟩) len len,_,E',?_,g1,g2,g3,?_⟩
   ·have hpp:(parts.map fun(i,x)=>(i,a.eval x)).toList=parts2:=by simp[parts2]
    have hng:¬len*P.cellsOf e'>2^24:=by simp only[Nat.reducePow];omega
    have hpp2:(parts.map fun(p:Nat×Operand)=>(p.1,a.eval p.2)).toList=parts2:=by simp[parts2]
    have hf2:Instr.fill (fun i=>some (i*P.cellsOf e',P.cellsOf e')) ((Array.range (len*P.cellsOf e')).map (zero[·%zero.size]!)) (parts.map fun(p:Nat×Operand)=>(p.1,a.eval p.2)).toList=some zs':=by rw[hpp2];exact f1
    simp only[execOp,ho,Instr.buildSlice,Sem.run_bind,run_underlying hu,Result.andThen_ok,QG ht,if_neg hng,Sem.run_pure];by_cases h0:len*P.cellsOf e'=0
    ·simp only[zero,if_pos h0]at hf2;rw[if_pos h0];simp only[Sem.run_bind,Sem.run_pure,Result.andThen_ok];rw[hf2];simp[newRow]
    ·simp only[zero,if_neg h0]at hf2;rw[if_neg h0];simp only[Sem.run_bind,Sem.run_pure,Result.andThen_ok,z1];rw[hf2];simp[newRow]
   ·have h0:=Den.ref (E:=E') (w:=w.alloc (.cells zs' e')) st.N (P.cellsOf e') 0 len none (some ⟨w.heap.size,0,none⟩) len g6 (by simp[g5]) (.inl (by simp[g5])) (Nat.le_refl _) (fun _=>by simp[g4]) (fun _=>rfl);exact h0
  ·cases h
 ·cases h
end
section
variable{P:Program}{E:Env}{B:Nat}{w0:World}{st:St}{a:Act}{w:World}
def amake(P:Program)(t:TypeId)(l c:AV):Option (TypeId×Nat×Nat×List AV) :=
 match P.underlying t,l,c with
 | some (.slice e),.v (.int .i64 l),.v (.int .i64 c) =>
  match azero P e with
  | some z=>if ZQ P e∧0≤l∧l≤c∧z.length=P.cellsOf e∧P.bytesOf e*c≤281474976710656∧c≤281474976710656 then some (e,l.toNat,c.toNat,z)else none
  | none=>none
 | _,_,_=>none
theorem wrap_small{c:Int}(h0:0≤c)(h:c≤281474976710656):IntKind.i64.wrap c=c:=by
 have:IntKind.i64.bits=64:=rfl;unfold IntKind.wrap;simp only[this,IntKind.signed];have:(2:Int)^64=18446744073709551616:=by decide
 have:(2:Int)^(64-1)=9223372036854775808:=by decide
 split<;>simp_all<;>omega
theorem VS{z:List AV}{l i j:Nat}{x:AV}(h:QZ (List.replicate l z) i j=some x):i<l∧z[j]?=some x:=by
 unfold QZ at h;rw[List.getElem?_replicate]at h;split at h
 ·rename_i e he;split at he
  ·rename_i hi;injection he with he;subst he;exact⟨hi,h⟩
  ·cases he
 ·cases h
theorem Qw.make{o:Oper}{t e:TypeId}{l c:Operand}{ln cn:Nat}{z:List AV}(ho:o.op=.makeSlice t l c)(h:amake P t (ev st l) (ev st c)=some (e,ln,cn,z)) :
  Qw P st o (.ref st.N (P.cellsOf e) 0 ln none) (Qs P st e (List.replicate ln z) (some cn)):=fun E B w0 a w hr=>by
 unfold amake at h;split at h
 ·rename_i e' l' c' hu hl hc;split at h
  ·rename_i z' hz;split at h
   ·rename_i hcond;obtain⟨ht,h0,h1,hzl,hb,hc48⟩:=hcond;simp only[Option.some.injEq,Prod.mk.injEq]at h;obtain⟨rfl,rfl,rfl,rfl⟩:=h;obtain⟨zv,z1,z2,z3⟩:=JE hz;have hL:a.eval l=.int .i64 l':=by have:=hr.ev l;rw[hl]at this;generalize a.eval l=q at this;cases this;rfl
    have hC:a.eval c=.int .i64 c':=by have:=hr.ev c;rw[hc]at this;generalize a.eval c=q at this;cases this;rfl
    have wl:=wrap_small h0 (by omega);have wc:=wrap_small (show 0≤c' by omega) hc48;obtain⟨_,i,hi⟩:(P.underlying e').isSome=true∧∃i,P.info? e'=some i:=by simp only[ZQ,Bool.and_eq_true,Option.isSome_iff_exists]at ht;exact⟨by simpa[Option.isSome_iff_exists]using ht.1,ht.2⟩
    have hby:P.bytesOf e'=i.bytes:=by simp[Program.bytesOf,hi]
    let cs:Array Value:=(Array.range (c'.toNat*P.cellsOf e')).map (zv.cells[·%zv.cells.size]!);have hzz:zv.cells.size=P.cellsOf e':=by rw[z2,hzl]
    obtain⟨E',g1,g2,g3,g4,g5,g6⟩:=hr.new (P:=P) e' (List.replicate l'.toNat z') (some c'.toNat) c'.toNat cs (by simp[cs]) (by simp;omega) (by simp only[maxLen];omega) (by simp[Zp,hzl]) (fun q hq=>by injection hq) (fun i j x hx=>by
     obtain⟨hi',hx'⟩:=VS hx;have hj:j<P.cellsOf e':=by rw[←hzl];exact(List.getElem?_eq_some_iff.1 hx').1
     have hlt:i*P.cellsOf e'+j<c'.toNat*P.cellsOf e':=by have:(i+1)*P.cellsOf e'≤c'.toNat*P.cellsOf e':=Nat.mul_le_mul_right _ (by omega);rw[Nat.add_mul]at this;omega
     refine⟨zv.cells.getD j undef,?_,z3 E w j x hx'⟩;have hmod:(i*P.cellsOf e'+j)%P.cellsOf e'=j:=by rw[Nat.mul_comm,Nat.mul_add_mod,Nat.mod_eq_of_lt hj]
     simp[cs,hlt,hzz,hmod,Array.getD_eq_getD_getElem?,Array.getElem?_eq_getElem (show j<zv.cells.size by omega),getElem!_def])
    refine⟨.slice (some ⟨w.heap.size,0,none⟩) l'.toNat c'.toNat,_,E',?_,g1,g2,g3,?_⟩
    ·have hask:∀W:World,(askRoom (c'.toNat*i.bytes)).run P W=.ok () W:=fun W=>by unfold askRoom;split<;>rfl
     have hpow:(2:Int)^48=281474976710656:=by decide
     rw[hby]at hb;have hcond:(decide (c'<0)||decide ((i.bytes:Int)*c'>2^48)||decide (l'<0)||decide (l'>c'))=false:=by simp only[Bool.or_eq_false_iff,decide_eq_false_iff_not,hpow];refine⟨⟨⟨by omega,by omega⟩,by omega⟩,by omega⟩
     have hty:∀W:World,(typeInfo e').run P W=.ok i W:=fun W=>by simp[typeInfo,hi]
     simp only[execOp,ho,Instr.makeSlice,hL,hC,asInt,asIntOf,Sem.run_bind,run_underlying hu,Result.andThen_ok,Sem.run_pure,hty,wl,wc,hcond,Bool.false_eq_true,if_false,hask,QG ht];by_cases hn0:c'.toNat*P.cellsOf e'=0
     ·rw[if_pos hn0];have hcs0:∀f:Nat→Value,(Array.range (c'.toNat*P.cellsOf e')).map f=#[]:=fun f=>by rw[hn0];apply Array.ext';simp
      simp only[Sem.run_bind,Sem.run_pure,Result.andThen_ok,hcs0,cs];simp[newRow]
     ·rw[if_neg hn0];simp[newRow,z1,cs]
    ·have h0':=Den.ref (E:=E') (w:=w.alloc (.cells cs e')) st.N (P.cellsOf e') 0 l'.toNat none (some ⟨w.heap.size,0,none⟩) c'.toNat g6 (by simp[g5]) (.inl (by simp[g5])) (by omega) (fun _=>by simp[g4]) (fun _=>rfl);exact h0'
   ·cases h
  ·cases h
 ·cases h
def WA(e:List AV)(off:Nat)(cs:List AV):List AV:=e.take off++cs++e.drop (off+cs.length)
def astore(P:Program)(st:St)(t:TypeId)(p x:AV):Option St :=
 match p with
 | .ptr id sz i off =>
  match st.H id with
  | some b=>if b.sz=sz∧b.fz=false∧ZQ P t∧(acells x).length=P.cellsOf t∧off+P.cellsOf t≤sz∧(∀c∈acells x,c.one=true)then
    match b.es[i]? with
    | some e=>some { st with H:=st.H.set id { b with es:=b.es.set i (WA e off (acells x)) } }
    | none=>none
   else none
  | none=>none
 | _=>none
theorem JO.store{o:Oper}{t:TypeId}{p x:Operand}{st1:St}(ho:o.op=.store t p x)(h:astore P st t (ev st p) (ev st x)=some st1):JO P st o st1:=fun E B w0 a w hr=>by
 unfold astore at h;split at h
 ·rename_i id sz i off hp;split at h
  ·rename_i b hb;split at h
   ·rename_i hc;obtain⟨hsz,hfz,ht,hlen,hoff,hone⟩:=hc;subst hsz;split at h
    ·rename_i e he;injection h with h;subst h;have hdp:=hr.ev p;rw[hp]at hdp;obtain⟨d1,d2⟩:=V6 (hr.ev x);have hr0:=hr.h.qo8 hb he;obtain⟨cur,z,h1,h2,h3,h4,h5,h6,h7,h8,h9⟩:=hr.h.blk id b hb hr0;have hel:e.length=b.sz:=h6 e (List.mem_of_getElem? he);have hi:i<b.es.length:=(List.getElem?_eq_some_iff.1 he).1;have hend:i*b.sz+off+(a.eval x).cells.size≤cur.size:=by rw[d1,hlen,h2];have:(i+1)*b.sz≤E.κ id*b.sz:=Nat.mul_le_mul_right _ (by omega);rw[Nat.add_mul]at this;omega
     have hst:=run_storeCells_at P (E.η id) (i*b.sz+off) b.ty (a.eval x).cells.toList 0 cur w h1 (by simpa using hend) (fun v hv=>by
      obtain⟨j,hj,rfl⟩:=List.getElem_of_mem hv;have hj':j<(acells (ev st x)).length:=by rw[←d1];simpa using hj
      have:=(d2 j _ (List.getElem?_eq_getElem hj')).qek (hone _ (List.getElem_mem hj'));simpa[Array.getD_eq_getD_getElem?,Array.getElem?_eq_getElem (show j<(a.eval x).cells.size by simpa using hj)]using this)
     simp only[Nat.add_zero]at hst;let cur':Array Value:=(cur.toList.take (i*b.sz+off)++(a.eval x).cells.toList++cur.toList.drop (i*b.sz+off+(a.eval x).cells.toList.length)).toArray;have hcs:cur'.size=cur.size:=by simp[cur'];omega
     have hupd:=hr.h.upd (b':={ b with es:=b.es.set i (WA e off (acells (ev st x))) }) (cur':=cur') hb hr0 hfz rfl rfl rfl hfz h1 hcs (by simpa using h3) (List.all_eq_true.2 fun q hq=>by
      rcases List.mem_or_eq_of_mem_set hq with hq|rfl
      ·simpa using h6 q hq
      ·simp[WA];omega) (fun k j u hu=>by
      have hget:∀n,cur'[n]?=if n<i*b.sz+off then cur[n]? else if n<i*b.sz+off+(a.eval x).cells.size then(a.eval x).cells[n-(i*b.sz+off)]? else cur[n]?:=fun n=>by
       have hm:min (i*b.sz+off) cur.size=i*b.sz+off:=by omega
       simp only[cur',List.getElem?_toArray,List.getElem?_append,List.length_append,List.length_take,Array.length_toList,hm,List.getElem?_take,List.getElem?_drop,Array.getElem?_toList];by_cases q1:n<i*b.sz+off
       ·rw[if_pos (by omega),if_pos q1,if_pos q1,if_pos q1]
       ·rw[if_neg q1];by_cases q2:n<i*b.sz+off+(a.eval x).cells.size
        ·rw[if_pos q2,if_neg q1,if_pos q2]
        ·rw[if_neg q2,if_neg q2];rw[show i*b.sz+off+(a.eval x).cells.size+(n-(i*b.sz+off+(a.eval x).cells.size))=n by omega,if_neg q1]
      unfold QZ at hu;simp only at hu;by_cases hk:i=k
      ·subst hk;rw[List.getElem?_set_self hi]at hu;simp only[WA]at hu;have hjlt:j<b.sz:=by have:=(List.getElem?_eq_some_iff.1 hu).1;simp at this;omega
       rw[hget];by_cases q1:j<off
       ·rw[if_pos (by omega)];rw[List.getElem?_append_left (by simp;omega),List.getElem?_append_left (by simp;omega),List.getElem?_take,if_pos q1]at hu;have hg:QZ b.es i j=some u:=by simp only[QZ,he];exact hu
        exact⟨_,h8 i j u hg,h9 i j u hg⟩
       ·rw[if_neg (by omega)];by_cases q2:j<off+(acells (ev st x)).length
        ·rw[if_pos (by omega)];rw[List.getElem?_append_left (by simp;omega),List.getElem?_append_right (by simp;omega)]at hu;simp only[List.length_take,show min off e.length=off by omega]at hu;have:=d2 _ u hu;refine⟨(a.eval x).cells.getD (j-off) undef,?_,this⟩;rw[show i*b.sz+j-(i*b.sz+off)=j-off by omega];simp[Array.getD_eq_getD_getElem?,Array.getElem?_eq_getElem (show j-off<(a.eval x).cells.size by omega)]
        ·rw[if_neg (by omega)];rw[List.getElem?_append_right (by simp;omega),List.getElem?_drop]at hu;simp only[List.length_append,List.length_take,show min off e.length=off by omega]at hu;rw[show off+(acells (ev st x)).length+(j-(off+(acells (ev st x)).length))=j by omega]at hu;have hg:QZ b.es i j=some u:=by simp only[QZ,he];exact hu
         exact⟨_,h8 i j u hg,h9 i j u hg⟩
      ·rw[List.getElem?_set_ne hk]at hu;have hg:QZ b.es k j=some u:=hu;have hjlt:j<b.sz:=by
        cases hq:b.es[k]? with
        | none=>rw[hq]at hu;cases hu
        | some q =>rw[hq]at hu;rw[←h6 q (List.mem_of_getElem? hq)];exact(List.getElem?_eq_some_iff.1 hu).1
       refine⟨_,?_,h9 k j u hg⟩;rw[hget];have hne:k<i∨i<k:=by omega
       rcases hne with hlt|hlt
       ·have:(k+1)*b.sz≤i*b.sz:=Nat.mul_le_mul_right _ hlt;rw[Nat.add_mul]at this;rw[if_pos (by omega)];exact h8 k j u hg
       ·have:(i+1)*b.sz≤k*b.sz:=Nat.mul_le_mul_right _ hlt;rw[Nat.add_mul]at this;rw[if_neg (by omega),if_neg (by omega)];exact h8 k j u hg)
     obtain⟨hkp,hh⟩:=hupd;refine⟨_,E,?_,Env.le.refl E,hkp,⟨hr.d,hr.n,fun j=>(hr.t j).mono (Env.le.refl E) hkp,hh,hr.N⟩⟩;generalize hq:a.eval p=q at hdp;cases hdp;have hsize:(a.eval x).cells.size=P.cellsOf t:=by rw[d1,hlen]
     simp only[execOp,ho,hq,Instr.storeAt,Instr.sureAddr,storeVar,Sem.run_bind,Sem.run_pure,Result.andThen_ok,QG ht,hsize,ne_eq,not_true_eq_false,if_false];rw[hst];rfl
    ·cases h
   ·cases h
  ·cases h
 ·cases h
end
section
variable{P:Program}{E:Env}{B:Nat}{w0:World}{H:Qf}{st:St}{a:Act}{w:World}
theorem Zm.grown{H1:Qf}(h:Zm E B w0 H w)(hsub:∀i q,H1 i=some q→H i=some q){w':World}{row:Option Nat}(hg:w.grownBy w' row)(hrow:∀i q,H1 i=some q→q.cap≠some 0→some (E.η i)≠row)(hS:∀c,E.S c→some c≠row)(hB:∀k,row=some k→B≤k)(hcl:∀k,row=some k→∀q:Obj,w.heap[k]?=some q→q.isCells=true)(hL:H1.L=H.L)
  (b:Blk) (hf:b.fz=false) (hcap:b.cap=none) (g cap:Nat) (cur:Array Value) (hgB:B≤g) (hgr:some g=row∨g=w.heap.size) (hcur:w'.heap[g]?=some (.cells cur b.ty (0,0))) (hlen:b.es.length≤cap) (hm:cap≤maxLen) (hsz:cur.size=cap*b.sz)
  (hs:Zp b.sz b.es=true) (hd:∀i j x,QZ b.es i j=some x→∃z,cur[i*b.sz+j]?=some z∧Den E w x z) :
  ∃E',E.le E'∧QD E w w'∧E'.N=E.N+1∧E'.η E.N=g∧E'.κ E.N=cap∧Zm E' B w0 (H1.set E.N b) w':=by
 let E':Env:={ η:=fun i=>if i=E.N then g else E.η i,κ:=fun i=>if i=E.N then cap else E.κ i,S:=E.S,N:=E.N+1,Z:=E.Z,D:=E.D,ZD:=E.ZD };have hle:E.le E':=⟨Nat.le_succ _,fun i hi=>by simp[E',Nat.ne_of_lt hi],fun i hi=>by simp[E',Nat.ne_of_lt hi],fun c hc=>hc,rfl,fun c hc=>hc,rfl⟩;have hkp:QD E w w':=fun c hc=>hg.block c (h.slt c hc) (hS c hc);have hgS:¬E.S g:=fun hS'=>by
  rcases hgr with e|e
  ·exact hS g hS' e
  ·have:=h.slt g hS';omega
 refine⟨E',hle,hkp,rfl,by simp[E'],by simp[E'],?_⟩;have hold:∀id b',(H1.set E.N b) id=some b'→id≠E.N→H1 id=some b':=fun id b' hb hne=>by simpa[Qf.set,hne]using hb
 have hnew:∀b',(H1.set E.N b) E.N=some b'→b'=b:=fun b' hb=>by simpa[Qf.set,eq_comm]using hb
 have hne:∀id b',H1 id=some b'→b'.cap≠some 0→E.η id≠g:=fun id b' hb hc0 e=>by
  rcases hgr with e'|e'
  ·exact hrow id b' hb hc0 (by rw[e];exact e')
  ·have:=h.le_size (hsub _ _ hb) hc0;omega
 have hob:=h.objs (L:=(H1.set E.N b).L) hle (fun c hc=>hc) hkp (fun c q hq hqc=>hg.block c (Array.getElem?_eq_some_iff.1 hq).1 (fun e=>by rw[hcl c e.symm q hq]at hqc;cases hqc)) (fun c hc=>.inl hc) (fun i r hr=>by rw[←hL];exact hr);refine⟨fun id b' hb=>?_,fun id b' hb hc0=>?_,fun id b' hb hc0=>?_,fun id id' b1 b2 h1 h2 hz1 hz2 he=>?_,fun id b' hb hc0 hfz=>?_,fun id b' hb hc0 hfz=>?_,fun c hc=>Nat.lt_of_lt_of_le (h.slt c hc) hg.size,h.so,Nat.le_trans h.bas hg.size,h.bel.grown hg h.bas hB,hob.1,hob.2.1,hob.2.2.1,hob.2.2.2.1,hob.2.2.2.2⟩
 ·by_cases hi:id=E.N
  ·subst hi;exact Nat.lt_succ_self _
  ·exact Nat.lt_succ_of_lt (h.lt id b' (hsub _ _ (hold id b' hb hi)))
 ·by_cases hi:id=E.N
  ·subst hi;rw[hnew b' hb,hcap]at hc0;cases hc0
  ·simp only[E',if_neg hi];exact h.gst id b' (hsub _ _ (hold id b' hb hi)) hc0
 ·by_cases hi:id=E.N
  ·subst hi;rw[hnew b' hb];refine⟨cur,fun i j=>cur.getD (i*b.sz+j) undef,by simpa[E']using hcur,by simpa[E']using hsz,by simpa[E']using hlen,by simpa[E']using hm,by simpa[E']using hgB,fun e he=>?_,fun q hq=>(by rw[hcap]at hq;cases hq),fun i j x hx=>?_,fun i j x hx=>?_⟩
   ·have:=List.all_eq_true.1 hs e he;simpa using this
   ·obtain⟨z,hz,_⟩:=hd i j x hx;simp[Array.getD_eq_getD_getElem?,hz]
   ·obtain⟨z,hz,hdz⟩:=hd i j x hx;have:=hdz.mono hle hkp;simpa[Array.getD_eq_getD_getElem?,hz]using this
  ·have hb1:=hold id b' hb hi;obtain⟨cur',z,h1,h2,h3,h4,h5,h6,h7,h8,h9⟩:=h.blk id b' (hsub _ _ hb1) hc0;refine⟨cur',z,?_,by simpa[E',hi]using h2,by simpa[E',hi]using h3,by simpa[E',hi]using h4,by simpa[E',hi]using h5,h6,by simpa[E',hi]using h7,h8,fun i j x hx=>(h9 i j x hx).mono hle hkp⟩;simp only[E',if_neg hi];rw[hg.block _ (h.le_size (hsub _ _ hb1) hc0) (hrow id b' hb1 hc0)];exact h1
 ·by_cases hi:id=E.N<;>by_cases hj:id'=E.N
  ·rw[hi,hj]
  ·exfalso;simp only[E',hi,if_true,if_neg hj]at he;exact hne id' b2 (hold id' b2 h2 hj) hz2 he.symm
  ·exfalso;simp only[E',hj,if_true,if_neg hi]at he;exact hne id b1 (hold id b1 h1 hi) hz1 he
  ·simp only[E',if_neg hi,if_neg hj]at he;exact h.inj id id' b1 b2 (hsub _ _ (hold id b1 h1 hi)) (hsub _ _ (hold id' b2 h2 hj)) hz1 hz2 he
 ·by_cases hi:id=E.N
  ·subst hi;simpa[E']using hgS
  ·simp only[E',if_neg hi];exact h.mu id b' (hsub _ _ (hold id b' hb hi)) hc0 hfz
 ·by_cases hi:id=E.N
  ·subst hi;rw[hnew b' hb,hf]at hfz;cases hfz
  ·simp only[E',if_neg hi];exact h.frz id b' (hsub _ _ (hold id b' hb hi)) hc0 hfz
def QA(H:Qf)(x:AV):Option (List (List AV)) :=
 match x with
 | .ro es=>some es
 | .ref id sz off len _=>match H id with|some b=>if b.sz=sz∧off+len≤b.es.length then some ((b.es.drop off).take len)else none|none=>none
 | .v (.slice none 0 _)=>some []
 | _=>none
theorem Ks(h:Zm E B w0 H w){x:AV}{y:Value}(hx:Den E w x y){es:List (List AV)}(he:QA H x=some es){sz:Nat}(hs:Zp sz es=true) :
  ∃(A:Option Addr) (c:Nat),y=.slice A es.length c∧(0<es.length→∃ad,A=some ad∧∀i j u,QZ es i j=some u→∃z,w.cell? (ad.add (i*sz+j))=some z∧Den E w u z):=by
 have hsz:∀e∈es,e.length=sz:=fun e he=>by have:=List.all_eq_true.1 hs e he;simpa using this
 cases hx<;>simp only[QA]at he<;>(try cases he)
 ·split at he
  ·rename_i heq;cases heq
  ·rename_i heq;cases heq
  ·rename_i heq;cases heq;cases he;exact⟨_,_,rfl,fun hp=>by simp at hp⟩
  ·cases he
 ·rename_i A c sz' z hc hm hs' hA hd;refine⟨A,c,rfl,fun hp=>?_⟩;obtain⟨ad,rfl,hS,hcell⟩:=hA hp;have:sz'=sz:=by have hne:es[0]?=some (es[0]'hp):=List.getElem?_eq_getElem hp;rw[←hs' _ (List.mem_of_getElem? hne),hsz _ (List.mem_of_getElem? hne)]
  subst this;exact⟨ad,rfl,fun i j u hu=>⟨_,hcell i j u hu,hd i j u hu⟩⟩
 ·rename_i id sz' off len mx A c hid hc hle hlen hA hs';split at he
  ·rename_i b hb;split at he
   ·rename_i hcond;obtain⟨rfl,hle2⟩:=hcond;cases he;have hl:((b.es.drop off).take len).length=len:=by simp;omega
    refine⟨A,c,by rw[hl],fun hp=>?_⟩;rw[hl]at hp;obtain⟨cur,z,h1,h2,h3,h4,h5,h6,h7,h8,h9⟩:=h.blk id b hb (h.real hb (by omega));have hbs:b.sz=sz:=by
     have hlt:off<b.es.length:=by omega
     have hne:((b.es.drop off).take len)[0]?=some (b.es[off]'hlt):=by simp[List.getElem?_drop,hp]
     rw[←hsz _ (List.mem_of_getElem? hne),h6 _ (List.getElem_mem hlt)]
    refine⟨_,hA (.inl (by omega)),fun i j u hu=>?_⟩;have hg:QZ b.es (off+i) j=some u:=by
     simp only[QZ,List.getElem?_take,List.getElem?_drop]at hu⊢;split at hu
     ·rename_i q hq;split at hq
      ·rw[hq];exact hu
      ·cases hq
     ·cases hu
    refine⟨_,?_,h9 _ _ _ hg⟩;rw[Zn,cell_of_row w _ _ cur b.ty (0,0) h1,←hbs,show off*b.sz+(i*b.sz+j)=(off+i)*b.sz+j by rw[Nat.add_mul];omega];exact h8 _ _ _ hg
   ·cases he
  ·cases he
def zlen(P:Program)(e:TypeId):Bool:=match azero P e with|some z=>z.length==P.cellsOf e|none=>false
def Zb(es:List (List AV)):Bool:=es.all fun e=>e.all AV.one
def qm6:AV→Bool|.v (.slice none 0 0)=>true|.ref ..=>true|.ro _=>true|_=>false
def aappend(P:Program)(st:St)(t:TypeId)(s x:AV):Option (AV×St) :=
 match P.underlying t with
 | some (.slice e) =>
  match QA st.H x with
  | some []=>if qm6 s∧ZQ P e then some (s,st)else none
  | some news =>
   if ZQ P e∧zlen P e=true∧0<P.cellsOf e∧Zp (P.cellsOf e) news=true∧Zb news=true then
    match s with
    | .v (.slice none 0 0)=>if news.length*P.bytesOf e≤140737488355328∧news.length≤maxLen then some (.ref st.N (P.cellsOf e) 0 news.length none,Qs P st e news none)else none
    | .ref id sz 0 n none =>
     match st.H id with
     | some b=>if b.fz=false∧b.ty=e∧b.sz=P.cellsOf e∧n≤b.es.length∧(n+news.length)*P.bytesOf e≤140737488355328∧n+news.length≤maxLen then
       some (.ref st.N (P.cellsOf e) 0 (n+news.length) none,Qs P { st with H:=st.H.kill id } e (b.es.take n++news) none)else none
     | none=>none
    | _=>none
   else none
  | none=>none
 | _=>none
theorem Wc{sz:Nat}{ad:Addr}{es:List (List AV)}(hs:Zp sz es=true)(hsz:0<sz)(h:∀i j u,QZ es i j=some u→∃z,w.cell? (ad.add (i*sz+j))=some z∧Den E w u z)(h1:Zb es=true) :
  ∃vs:List Value,vs.length=es.length*sz∧(∀j u,vs[j]?=some u→w.cell? (ad.add j)=some u)∧(∀u∈vs,u.oneCell'=true)∧(∀i j u,QZ es i j=some u→∃z,vs[i*sz+j]?=some z∧Den E w u z):=by
 have hel:∀e∈es,e.length=sz:=fun e he=>by have:=List.all_eq_true.1 hs e he;simpa using this
 have hex:∀q,q<es.length*sz→∃z u,QZ es (q/sz) (q%sz)=some u∧w.cell? (ad.add q)=some z∧Den E w u z:=fun q hq=>by
  have hi:q/sz<es.length:=(Nat.div_lt_iff_lt_mul hsz).2 hq;have hj:q%sz<sz:=Nat.mod_lt _ hsz;have he:=hel _ (List.getElem_mem hi);have hg:QZ es (q/sz) (q%sz)=some (es[q/sz][q%sz]'(by omega)):=by simp only[QZ,List.getElem?_eq_getElem hi];exact List.getElem?_eq_getElem _
  obtain⟨z,hz,hd⟩:=h _ _ _ hg;refine⟨z,_,hg,?_,hd⟩;have:q/sz*sz+q%sz=q:=by rw[Nat.mul_comm];exact Nat.div_add_mod q sz
  rwa[this]at hz
 refine⟨(List.range (es.length*sz)).map fun q=>(w.cell? (ad.add q)).getD undef,by simp,fun j u hu=>?_,fun u hu=>?_,fun i j u hu=>?_⟩
 ·simp only[List.getElem?_map,Option.map_eq_some_iff]at hu;obtain⟨q,hq,rfl⟩:=hu;obtain⟨hq1,rfl⟩:=List.getElem?_eq_some_iff.1 hq;simp only[List.length_range]at hq1;simp only[List.getElem_range];obtain⟨z,_,_,hz,_⟩:=hex j hq1;rw[hz];rfl
 ·obtain⟨q,hq,rfl⟩:=List.mem_map.1 hu;obtain⟨z,x,hg,hz,hd⟩:=hex q (by simpa using hq);rw[hz];refine hd.qek ?_;unfold QZ at hg;split at hg
  ·rename_i e he;exact List.all_eq_true.1 (List.all_eq_true.1 h1 e (List.mem_of_getElem? he)) x (List.mem_of_getElem? hg)
  ·cases hg
 ·obtain⟨z,hz,hd⟩:=h i j u hu;have hi:i<es.length:=by
   unfold QZ at hu;split at hu
   ·rename_i e he;exact(List.getElem?_eq_some_iff.1 he).1
   ·cases hu
  have hj:j<sz:=by have he:=hel _ (List.getElem_mem hi);simp only[QZ,List.getElem?_eq_getElem hi]at hu;rw[←he];exact(List.getElem?_eq_some_iff.1 hu).1
  have hlt:i*sz+j<es.length*sz:=by have:(i+1)*sz≤es.length*sz:=Nat.mul_le_mul_right _ (by omega);rw[Nat.add_mul]at this;omega
  refine⟨z,?_,hd⟩;simp[hlt,hz]
theorem qdu{e:TypeId}(h:zlen P e=true):∃i z,P.info? e=some i∧i.zero=some z∧z.cells.size=P.cellsOf e∧i.size=P.cellsOf e∧i.bytes=P.bytesOf e:=by
 unfold zlen at h;split at h
 ·rename_i cs hz;unfold azero at hz;split at hz
  ·rename_i i hi;split at hz
   ·rename_i z hzz;cases hz;simp at h;exact⟨i,z,hi,hzz,h,by simp[Program.cellsOf,hi],by simp[Program.bytesOf,hi]⟩
   ·cases hz
  ·cases hz
 ·cases h
theorem Qf.JZ{H:Qf}{id i:Nat}{q:Blk}(h:(H.kill id) i=some q):i≠id∧H i=some q:=by
 simp only[Qf.kill]at h;split at h
 ·cases h
 ·rename_i hne;exact⟨hne,h⟩
theorem qbq{sz:Nat}{es:List (List AV)}{i j:Nat}{x:AV}(hs:∀e∈es,e.length=sz)(h:QZ es i j=some x):j<sz:=by
 unfold QZ at h;split at h
 ·rename_i e he;rw[←hs e (List.mem_of_getElem? he)];exact(List.getElem?_eq_some_iff.1 h).1
 ·cases h
theorem qdE{t ty e:TypeId}{i:TypeInfo}{z:Value}{m c:Nat}{ad:Addr}(hu:P.underlying t=some (.slice e))(hi:P.info? e=some i)(hz:i.zero=some z)(h48:m*i.bytes≤140737488355328)(h0:0<m)(hm:m≤maxLen)(A:Option Addr) :
  (Builtin.append_ #[t,t] ty #[.slice A 0 0,.slice (some ad) m c]).run P w=(Builtin.append_ #[t,t] ty #[.slice none 0 0,.slice (some ad) m c]).run P w:=by
 cases A with
 | none=>rfl
 | some b =>
  have hcap:¬(281474976710656<Builtin.nextslicecap m 0*i.bytes):=by rw[nextslicecap_zero h0];omega
  have h63':¬((9223372036854775807:Int)<(m:Int)):=by simp only[maxLen]at hm;omega
  have hm0:¬m=0:=by omega
  simp[Builtin.append_,run_underlying hu,sizeOf,typeInfo,zeroValue,hi,hz,Builtin.lenOf,Builtin.firstCells,loadCells,loadCellsFrom,hcap,h63',hm0]
theorem Qw.append{o:Oper}{c:Call}{t:TypeId}{s x:Operand}{u:AV}{st1:St}(ho:o.op=.call c)(hcl:c.callee=.builtin .append)(ha:c.args=#[s,x])(hat:c.argTypes=#[t,t])(h:aappend P st t (ev st s) (ev st x)=some (u,st1)):Qw P st o u st1:=fun E B w0 a w hr=>by
 have hexec:∀v y w' ,(Builtin.append_ #[t,t] o.type #[a.eval s,a.eval x]).run P w=.ok y w'→v=y→(execOp a.eval o).run P w=.ok (.value v) w':=fun v y w' hrun hv=>by subst hv;simp only[execOp,ho,resolve,hcl,ha,hat,invoke,builtin,Sem.run_bind,Sem.run_pure,Result.andThen_ok,List.map_toArray,List.map_cons,List.map_nil,hrun]
 have hds:=hr.ev s;have hdx:=hr.ev x;unfold aappend at h;split at h
 ·rename_i e hu;split at h
  ·rename_i hel;split at h
   ·rename_i hc;obtain⟨hsl,ht⟩:=hc;simp only[Option.some.injEq,Prod.mk.injEq]at h;obtain⟨rfl,rfl⟩:=h;obtain⟨A,c',hy,_⟩:=Ks (sz:=0) hr.h hdx hel rfl;refine⟨a.eval s,w,E,hexec _ _ _ ?_ rfl,Env.le.refl E,QD.refl E w,hr,hds⟩;have hS:∃A n c,a.eval s=.slice A n c∧n≤c:=by
     generalize hq:a.eval s=q at hds;generalize hes:ev st s=es at hds hsl;cases hds<;>simp only[qm6]at hsl<;>(try cases hsl)
     ·split at hsl<;>first|(rename_i heq;cases heq;exact⟨_,_,_,rfl,Nat.le_refl _⟩)|(rename_i heq;cases heq)|(cases hsl)
     ·rename_i hc' _ _ _ _;exact⟨_,_,_,rfl,hc'⟩
     ·rename_i hlen _ _;exact⟨_,_,_,rfl,hlen⟩
    obtain⟨As,n,cs,hse,hle⟩:=hS;rw[hse,hy];cases As<;>cases A<;>simp[Builtin.append_,run_underlying hu,QG ht,Builtin.lenOf,hle,Builtin.firstCells,loadCells,loadCellsFrom,storeCells]
   ·cases h
  ·rename_i news hne hel;split at h
   ·rename_i hc;obtain⟨ht,hzl,hpos,hok,hone⟩:=hc;obtain⟨i,z,hi,hz,hzs,hsize,hby⟩:=qdu hzl;obtain⟨A,c',hy,hcell⟩:=Ks hr.h hdx hel hok;have hnl:0<news.length:=by
     rcases news with _|⟨q,news⟩
     ·exact absurd rfl hne
     ·simp
    obtain⟨ad,hAe,hcell2⟩:=hcell hnl;subst hAe;obtain⟨vs,v1,v2,v3,v4⟩:=Wc hok hpos hcell2 hone;have hnew:∀e'∈news,e'.length=P.cellsOf e:=fun q hq=>by have:=List.all_eq_true.1 hok q hq;simpa using this
    have fresh:∀(H1:Qf),(∀i q,H1 i=some q→st.H i=some q)→H1.L=st.H.L→news.length*P.bytesOf e≤140737488355328→news.length≤maxLen→(∀y w',(Builtin.append_ #[t,t] o.type #[.slice none 0 0,a.eval x]).run P w=.ok y w'→(Builtin.append_ #[t,t] o.type #[a.eval s,a.eval x]).run P w=.ok y w') →
      ∃v w' E',(execOp a.eval o).run P w=.ok (.value v) w'∧E.le E'∧QD E w w'∧Rel E' B w0 (Qs P { st with H:=H1 } e news none) a w'∧Den E' w' (.ref st.N (P.cellsOf e) 0 news.length none) v:=fun H1 hsub hHL hb hml0 hrn=>by
     obtain⟨v',w',hrun,hown,hg,hnil,hat'⟩:=run_append_own_at (P:=P) w B t o.type e i z (P.cellsOf e) (P.bytesOf e) hu hi hz hsize hby hzs hpos (.slice none 0 0) 0 [] (World.ownsRow_nil w B e _) ad news.length c' vs v1 v2 v3 (by omega) (by simpa using hb) hr.h.bas;have hvn:v'≠.slice none 0 0:=fun e'=>by have:=(hnil.1 e').2;omega
     rcases hown.2 with⟨e',_⟩|⟨g,cap,cur,rfl,hgB,hgh,hle,hcm,hcs,htake⟩
     ·exact absurd e' hvn
     ·have hgw:g=w.heap.size:=by simpa[Value.ownBlock]using hat'
      simp only[Nat.zero_add,List.nil_append]at hle htake hown hrun;obtain⟨E',g1,g2,g3,g4,g5,g6⟩:=hr.h.grown (H1:=H1) hsub hg (fun _ _ _ _=>by simp[Value.ownBlock]) (fun _ _=>by simp[Value.ownBlock]) (fun k hk=>by simp[Value.ownBlock]at hk) (fun k hk=>by simp[Value.ownBlock]at hk) hHL { ty:=e,sz:=P.cellsOf e,es:=news,fz:=false,cap:=none } rfl rfl g cap cur hgB (.inr hgw) hgh hle hcm hcs hok (fun p q u hu=>by
       obtain⟨zz,hz1,hz2⟩:=v4 p q u hu;refine⟨zz,?_,hz2⟩;have hlt:=(List.getElem?_eq_some_iff.1 hz1).1;rw[←htake,List.getElem?_take]at hz1;split at hz1
       ·simpa using hz1
       ·cases hz1)
      have hN:=hr.N;refine⟨_,w',E',hexec _ _ _ (hrn _ _ (by rw[hy];exact hrun)) rfl,g1,g2,⟨hr.dle g1,hr.n,fun p=>(hr.t p).mono g1 g2,?_,by simp[Qs,g3,hN]⟩,?_⟩
      ·have:(Qs P { st with H:=H1 } e news none).H=H1.set E.N { ty:=e,sz:=P.cellsOf e,es:=news,fz:=false,cap:=none }:=by simp[Qs,hN]
       rw[this];exact g6
      ·have h0:=Den.ref (E:=E') (w:=w') st.N (P.cellsOf e) 0 news.length none (some ⟨g,0,none⟩) cap (by rw[g3,hN];exact Nat.lt_succ_self _) (by rw[←hN,g5];simp) (.inl (by rw[←hN,g5];simp)) hle (fun _=>by rw[←hN,g4];simp) (fun _=>rfl);exact h0
    split at h
    ·rename_i hs0;split at h
     ·rename_i hb;simp only[Option.some.injEq,Prod.mk.injEq]at h;obtain⟨rfl,rfl⟩:=h;have hse:a.eval s=.slice none 0 0:=by rw[hs0]at hds;generalize a.eval s=q at hds;cases hds;rfl
      exact fresh st.H (fun _ _ h=>h) rfl hb.1 hb.2 (fun y w' hr=>by rw[hse];exact hr)
     ·cases h
    ·rename_i id sz n hs0;split at h
     ·rename_i b hbb;split at h
      ·rename_i hcnd;obtain⟨hfz,hty,hbsz,hnb,hbytes,hml⟩:=hcnd;simp only[Option.some.injEq,Prod.mk.injEq]at h;obtain⟨rfl,rfl⟩:=h;rw[hs0]at hds;by_cases hk0:E.κ id=0
       ·have hes0:b.es=[]:=by
         by_cases hc0:b.cap=some 0
         ·exact(hr.h.gst id b hbb hc0).2
         ·obtain⟨cur0,zz0,q1,q2,q3,_⟩:=hr.h.blk id b hbb hc0;exact List.eq_nil_of_length_eq_zero (by omega)
        rw[hes0]at hnb;have hn0:n=0:=by simpa using hnb
        subst hn0;obtain⟨A0,hse⟩:∃A0,a.eval s=.slice A0 0 0:=by
         generalize a.eval s=q at hds;cases hds with
         | ref _ _ _ _ _ A' c'' hid hcq hle hlen hA hs =>
          have:c''=0:=by simp only[Option.getD_none]at hcq;omega
          subst this;exact⟨A',rfl⟩
        have hz0:=fresh (st.H.kill id) (fun p q hq=>(Qf.JZ hq).2) rfl (by simpa using hbytes) (by omega) (fun y w' hr=>by rw[hse,hy];rw[hy]at hr;exact(qdE hu hi hz (by rw[hby];simpa using hbytes) hnl (by omega) A0).trans hr);simpa[hes0]using hz0
       have hc0:b.cap≠some 0:=fun hc=>hk0 (hr.h.gst id b hbb hc).1;obtain⟨cur0,zz0,q1,q2,q3,q4,q5,q6,q7,q8,q9⟩:=hr.h.blk id b hbb hc0;obtain⟨cc,hse,hcc⟩:∃cc,a.eval s=.slice (some ⟨E.η id,0,none⟩) n cc∧n≤cc∧cc=E.κ id:=by
        generalize a.eval s=q at hds;cases hds with
        | ref _ _ _ _ _ A' c'' hid hcq hle hlen hA hs =>
         have hcq':c''=E.κ id:=by simpa using hcq
         have:=hA (.inr ⟨rfl,by omega⟩);subst this;exact⟨c'',by simp,hlen,hcq'⟩
       obtain⟨hncc,rfl⟩:=hcc;have hown0:w.ownsRow B e (P.cellsOf e) (.slice (some ⟨E.η id,0,none⟩) n (E.κ id)) n (cur0.toList.take (n*P.cellsOf e)):=by refine⟨?_,.inr ⟨E.η id,E.κ id,cur0,rfl,q5,by rw[←hty];exact q1,hncc,q4,by rw[q2,hbsz],rfl⟩⟩;have:n*P.cellsOf e≤E.κ id*P.cellsOf e:=Nat.mul_le_mul_right _ hncc;rw[List.length_take,Array.length_toList,q2,hbsz,Nat.min_eq_left this]
       obtain⟨v',w',hrun,hown,hg,hnil,hat'⟩:=run_append_own_at (P:=P) w B t o.type e i z (P.cellsOf e) (P.bytesOf e) hu hi hz hsize hby hzs hpos _ n _ hown0 ad news.length c' vs v1 v2 v3 hml hbytes hr.h.bas;rw[hse,hy]at hexec;have hvn:v'≠.slice none 0 0:=fun e'=>by have:=(hnil.1 e').1;cases this
       rcases hown.2 with⟨e',_⟩|⟨g,cap,cur,rfl,hgB,hgh,hle,hcm,hcs,htake⟩
       ·exact absurd e' hvn
       ·have hgw:g=E.η id∨g=w.heap.size:=by simpa[Value.ownBlock]using hat'
        have hnews:(b.es.take n++news).length=n+news.length:=by simp;omega
        obtain⟨E',g1,g2,g3,g4,g5,g6⟩:=hr.h.grown (H1:=st.H.kill id) (fun p q hq=>(Qf.JZ hq).2) hg (fun p q hq hqc=>by obtain⟨hpi,hq'⟩:=Qf.JZ hq;simp only[Value.ownBlock,ne_eq,Option.some.injEq];exact fun e'=>hpi (hr.h.inj p id q b hq' hbb hqc hc0 e')) (fun c hc=>by simp only[Value.ownBlock,ne_eq,Option.some.injEq];exact fun e'=>hr.h.mu id b hbb hc0 hfz (e'▸hc)) (fun k hk=>by simp only[Value.ownBlock,Option.some.injEq]at hk;rw[←hk];exact q5) (fun k hk q hq=>by simp only[Value.ownBlock,Option.some.injEq]at hk;rw[←hk,q1]at hq;injection hq with hq;subst hq;rfl) rfl
         { ty:=e,sz:=P.cellsOf e,es:=b.es.take n++news,fz:=false,cap:=none } rfl rfl g cap cur hgB (hgw.elim (fun h'=>.inl (by rw[h'];rfl)) .inr) hgh (by simp only[hnews];exact hle) hcm hcs (List.all_eq_true.2 fun q hq=>by
          rcases List.mem_append.1 hq with hq|hq
          ·have:=q6 q (List.mem_of_mem_take hq);simp[this,hbsz]
          ·simpa using hnew q hq) (fun p q u hu=>by
          have hcur:∀j v,(cur0.toList.take (n*P.cellsOf e)++vs)[j]?=some v→cur[j]?=some v:=fun j v hv=>by
           rw[←htake,List.getElem?_take]at hv;split at hv
           ·simpa using hv
           ·cases hv
          have hl0:(cur0.toList.take (n*P.cellsOf e)).length=n*P.cellsOf e:=by have:n*P.cellsOf e≤E.κ id*P.cellsOf e:=Nat.mul_le_mul_right _ hncc;rw[List.length_take,Array.length_toList,q2,hbsz,Nat.min_eq_left this]
          have htl:(b.es.take n).length=n:=by simp;omega
          by_cases hp:p<n
          ·have hgu:QZ b.es p q=some u:=by simp only[QZ]at hu⊢;rw[List.getElem?_append_left (by rw[htl];exact hp),List.getElem?_take,if_pos hp]at hu;exact hu
           have hq:q<P.cellsOf e:=by have:=qbq (sz:=P.cellsOf e) (fun e' he'=>by rw[q6 e' he',hbsz]) hgu;exact this
           refine⟨_,hcur _ _ ?_,q9 p q u hgu⟩;have hlt:p*P.cellsOf e+q<n*P.cellsOf e:=by have:(p+1)*P.cellsOf e≤n*P.cellsOf e:=Nat.mul_le_mul_right _ hp;rw[Nat.add_mul]at this;omega
           rw[List.getElem?_append_left (by rw[hl0];exact hlt),List.getElem?_take,if_pos hlt,Array.getElem?_toList,←hbsz];exact q8 p q u hgu
          ·have hgu:QZ news (p-n) q=some u:=by simp only[QZ]at hu⊢;rw[List.getElem?_append_right (by rw[htl];omega),htl]at hu;exact hu
           obtain⟨zz,hz1,hz2⟩:=v4 _ q u hgu;refine⟨zz,hcur _ _ ?_,hz2⟩;show(_++vs)[p*P.cellsOf e+q]?=some zz;have hpn:p*P.cellsOf e=n*P.cellsOf e+(p-n)*P.cellsOf e:=by rw[←Nat.add_mul];congr 1;omega
           rw[List.getElem?_append_right (by rw[hl0];omega),hl0,show p*P.cellsOf e+q-n*P.cellsOf e=(p-n)*P.cellsOf e+q by omega];exact hz1)
        have hN:=hr.N;refine⟨_,w',E',hexec _ _ _ hrun rfl,g1,g2,⟨hr.dle g1,hr.n,fun p=>(hr.t p).mono g1 g2,?_,by simp[Qs,g3,hN]⟩,?_⟩
        ·have:(Qs P { st with H:=st.H.kill id } e (b.es.take n++news) none).H=(st.H.kill id).set E.N { ty:=e,sz:=P.cellsOf e,es:=b.es.take n++news,fz:=false,cap:=none }:=by simp[Qs,hN]
         rw[this];exact g6
        ·have h0:=Den.ref (E:=E') (w:=w') st.N (P.cellsOf e) 0 (n+news.length) none (some ⟨g,0,none⟩) cap (by rw[g3,hN];exact Nat.lt_succ_self _) (by rw[←hN,g5];simp) (.inl (by rw[←hN,g5];simp)) hle (fun _=>by rw[←hN,g4];simp) (fun _=>rfl);exact h0
      ·cases h
     ·cases h
    ·cases h
   ·cases h
  ·cases h
 ·cases h
end
def aptr(P:Program)(st:St)(t:TypeId)(cs:List AV):Option (AV×St) :=
 if cs.length=P.cellsOf t then some (.ptr st.N (P.cellsOf t) 0 0,Qs P st t [cs] (some 1))else none
def astep(P:Program)(st:St)(o:Oper):Option (AV×St) :=
 match o.op with
 | .alloc t=>match azero P t with|some cs=>aptr P st t cs|none=>none
 | .box t x=>aptr P st t (acells (ev st x))
 | .buildSlice t len parts=>match Qz P t len (parts.toList.map fun(i,x)=>(i,ev st x))with|some (e,es)=>some (.ref st.N (P.cellsOf e) 0 len none,Qs P st e es (some len))|none=>none
 | .makeSlice t l c=>match amake P t (ev st l) (ev st c)with|some (e,ln,cn,z)=>some (.ref st.N (P.cellsOf e) 0 ln none,Qs P st e (List.replicate ln z) (some cn))|none=>none
 | .call c=>match c.callee with
  | .builtin .append=>match c.args.toList,c.argTypes.toList with|[s,x],[t,t']=>if t=t' then aappend P st t (ev st s) (ev st x)else none|_,_=>none
  | _=>match avalue P st o with|some u=>some (u,st)|none=>none
 | _=>match avalue P st o with|some u=>some (u,st)|none=>none
def Qc(P:Program)(f:FuncId)(args:List AV)(H:Qf)(N:Nat)(Q:AV→Qf→Nat→Prop):Prop :=
 (∃fn body,P.funcs[f]?=some fn∧(fn.name=="runtime.NumGoroutine")=false∧fn.body=some body)∧Qv P f args H N Q
def Z7(st:St)(dst:Option Tmp)(u:AV)(K:St→Prop):Prop:=match st.put dst u with|some st'=>K st'|none=>False
def qac(P:Program)(st:St)(o:Oper)(K:St→Prop):Prop :=
 match o.op with
 | .store t p x=>match astore P st t (ev st p) (ev st x)with|some st1=>Z7 st1 o.dst (.v undef) K|none=>False
 | .call c=>match c.callee with
  | .value x=>match ev st x with
   | .fn (.func f) fs cs=>Qc P f (fs++c.args.toList.map (ev st)++cs) st.H st.N fun r H' N'=>Z7 { st with H:=H',N:=N' } o.dst r K
   | _=>False
  | _=>match astep P st o with|some (u,st1)=>Z7 st1 o.dst u K|none=>False
 | _=>match astep P st o with|some (u,st1)=>Z7 st1 o.dst u K|none=>False
def qrk(Q:Exit→St→Prop):St→Prop:=fun st=>Q .normal st
def qqy(id:Nat)(Q:Exit→St→Prop):Exit→St→Prop:=fun e st'=>match e with|.exit i=>if i=id then Q .normal st' else Q (.exit i) st'|e=>Q e st'
def QC(P:Program)(ops:Array Oper):List Oper→(St→Prop)→St→Prop
 | [],Q,st=>Q st
 | o::l,Q,st=>match wanted st ops o with
  | some b=>(b=true→qac P st o (QC P ops l Q))∧(b=false→Z7 st o.dst (.v undef) (QC P ops l Q))
  | none=>False
def Qp(P:Program)(pl:Bool)(c:Code)(st:St)(Q:Exit→St→Prop):Prop:=Qe P pl (.loop c) st Q
def Qm(P:Program)(id:Nat)(ops:Array Oper)(st:St)(Q:St→Prop):Prop:=∀(pl:Bool) (R:Exit→St→Prop),(∀st',Q st'→R .normal st')→Qe P pl (.region id ops true) st R
def Kn(P:Program)(pl:Bool)(c:Code)(st:St)(Q:Exit→St→Prop):Prop:=Qe P pl c st Q
def qpn(K:St→Prop)(Q:Exit→St→Prop):Exit→St→Prop:=fun e st'=>match e with|.normal=>K st'|e=>Q e st'
def Zv(P:Program)(pl:Bool):Code→(Exit→St→Prop)→St→Prop
 | .skip,Q,st=>Q .normal st
 | .ret,Q,st=>Q .ret st
 | .exit id,Q,st=>Q (.exit id) st
 | .seq c d,Q,st=>Zv P pl c (qpn (Zv P pl d Q) Q) st
 | .cond x c d,Q,st=>match ev st x with|.v (.bool b)=>(b=true→Zv P pl c Q st)∧(b=false→Zv P pl d Q st)|_=>False
 | .region id ops draw,Q,st=>if draw then Qm P id ops st (qrk Q)else QC P ops ops.toList (qrk Q) st
 | .block id c,Q,st=>Zv P pl c (qqy id Q) st
 | .loop c,Q,st=>Qp P pl c st Q
 | .rangeFunc f ps as c,Q,st=>Kn P pl (.rangeFunc f ps as c) st Q
 | .scope c,Q,st=>Kn P pl (.scope c) st Q
 | .label _,Q,st=>Q .normal st
 | .goto l,Q,st=>Q (.goto l) st
 | .refuse _,_,_=>False
section
variable{P:Program}{pl:Bool}{st:St}
theorem ZG{dst:Option Tmp}{u:AV}{K:St→Prop}(h:Z7 st dst u K):∃st',st.put dst u=some st'∧K st':=by
 unfold Z7 at h;split at h
 ·rename_i st' hs;exact⟨st',hs,h⟩
 ·cases h
theorem W5{o:Oper}{u:AV}{st1:St}(h:astep P st o=some (u,st1)):Qw P st o u st1:=by
 have hval:(match avalue P st o with|some u=>some (u,st)|none=>none)=some (u,st1)→Qw P st o u st1:=fun h=>by
  split at h
  ·rename_i v hv;simp only[Option.some.injEq,Prod.mk.injEq]at h;obtain⟨rfl,rfl⟩:=h;exact Qw.value hv
  ·cases h
 unfold astep at h;split at h
 ·rename_i t ho;split at h
  ·rename_i cs hz;unfold aptr at h;split at h
   ·rename_i hl;simp only[Option.some.injEq,Prod.mk.injEq]at h;obtain⟨rfl,rfl⟩:=h;exact Qw.alloc ho hz hl
   ·cases h
  ·cases h
 ·rename_i t x ho;unfold aptr at h;split at h
  ·rename_i hl;simp only[Option.some.injEq,Prod.mk.injEq]at h;obtain⟨rfl,rfl⟩:=h;exact Qw.box ho hl
  ·cases h
 ·rename_i t len parts ho;split at h
  ·rename_i e es hb;simp only[Option.some.injEq,Prod.mk.injEq]at h;obtain⟨rfl,rfl⟩:=h;exact Qw.buildSlice ho hb
  ·cases h
 ·rename_i t l c ho;split at h
  ·rename_i e ln cn z hm;simp only[Option.some.injEq,Prod.mk.injEq]at h;obtain⟨rfl,rfl⟩:=h;exact Qw.make ho hm
  ·cases h
 ·rename_i c ho;split at h
  ·rename_i hcl;split at h
   ·rename_i s x t t' ha hat;split at h
    ·rename_i ht;subst ht;exact Qw.append ho hcl (Array.ext' (by simpa using ha)) (Array.ext' (by simpa using hat)) h
    ·cases h
   ·cases h
  ·exact hval h
 ·exact hval h
theorem Z0{ops:Array Oper}:∀(l:List Oper) (st:St) (Q:St→Prop),QC P ops l Q st→Qx P ops l st Q:=by
 intro l;induction l with
 | nil=>intro st Q h;exact Qx.nil h
 | cons o l ih =>
  intro st Q h;unfold QC at h;split at h
  ·rename_i b hw;cases b with
   | false =>obtain⟨st',hp,hk⟩:=ZG (h.2 rfl);exact Qx.pass hw hp (ih _ _ hk)
   | true =>
    have h:=h.1 rfl;have hst:∀(h:(match astep P st o with|some (u,st1)=>Z7 st1 o.dst u (QC P ops l Q)|none=>False)),Qx P ops (o::l) st Q:=fun h=>by
     split at h
     ·rename_i u st1 hs;obtain⟨st',hp,hk⟩:=ZG h;exact Qx.step hw (W5 hs) hp (ih _ _ hk)
     ·cases h
    unfold qac at h;split at h
    ·rename_i t p x ho;split at h
     ·rename_i st1 hs;obtain⟨st',hp,hk⟩:=ZG h;exact Qx.skip hw (JO.store ho hs) hp (ih _ _ hk)
     ·cases h
    ·rename_i c ho;split at h
     ·rename_i x hcl;split at h
      ·rename_i f fs cs hf;obtain⟨⟨fn,body,h1,h2,h3⟩,hc⟩:=h;refine Qx.call hw ho hcl hf h1 h2 h3 (hc.mono fun r H' N' hq=>?_);obtain⟨st',hp,hk⟩:=ZG hq;exact⟨st',hp,ih _ _ hk⟩
      ·cases h
     ·exact hst h
    ·exact hst h
  ·cases h
theorem Qe.J7{id:Nat}{ops:Array Oper}{Q:Exit→St→Prop}(h:Qx P ops ops.toList st (Q .normal)):Qe P pl (.region id ops false) st Q:=fun ρ hρ E B w0 a w hr R hR =>wpIn_region_list (h ρ E B w0 a w hr R fun a' w' hA=>hR _ a' w' hA)
theorem Qe.label{l:Nat}{Q:Exit→St→Prop}(h:Q .normal st):Qe P pl (.label l) st Q:=fun ρ hρ E B w0 a w hr R hR=>wpIn_label (hR _ _ _ ⟨E,st,Env.le.refl E,QD.refl E w,hr,h⟩)
theorem Qe.goto{l:Nat}{Q:Exit→St→Prop}(h:Q (.goto l) st):Qe P pl (.goto l) st Q:=fun ρ hρ E B w0 a w hr R hR=>wpIn_goto (hR _ _ _ ⟨E,st,Env.le.refl E,QD.refl E w,hr,h⟩)
theorem Qd:∀(c:Code) (st:St) (Q:Exit→St→Prop),Zv P pl c Q st→Qe P pl c st Q:=by
 intro c;induction c with
 | skip=>intro st Q h;exact Qe.skip h
 | ret=>intro st Q h;exact Qe.ret h
 | exit id=>intro st Q h;exact Qe.exit h
 | seq c d ihc ihd =>
  intro st Q h;refine Qe.seq ((ihc st _ h).mono fun e st' hq=>?_);cases e with
  | normal=>exact ihd st' Q hq
  | _=>exact hq
 | cond x c d ihc ihd =>
  intro st Q h;unfold Zv at h;split at h
  ·rename_i b hx;refine Qe.cond hx ?_;cases b
   ·exact ihd st Q (h.2 rfl)
   ·exact ihc st Q (h.1 rfl)
  ·cases h
 | region id ops draw =>
  intro st Q h;unfold Zv at h;cases draw with
  | true=>simp only[if_true]at h;exact h pl Q (fun st' hq=>hq)
  | false=>simp only[Bool.false_eq_true,if_false]at h;exact Qe.J7 (Z0 _ _ _ h)
 | block id c ih =>intro st Q h;exact Qe.block ((ih st _ h).mono fun e st' hq=>hq)
 | loop c ih=>intro st Q h;exact h
 | rangeFunc f ps as c=>intro st Q h;exact h
 | scope c=>intro st Q h;exact h
 | label l=>intro st Q h;exact Qe.label h
 | goto l=>intro st Q h;exact Qe.goto h
 | refuse w=>intro st Q h;exact h.elim
theorem Qp.of{α:Type}{c:Code}{Q:Exit→St→Prop}(I:α→St→Prop)(m:α→Nat)(x0:α)(h0:I x0 st)(round:∀x st,I x st→Zv P pl c (qpn (fun st'=>∃y,I y st'∧m y<m x) Q) st):Qp P pl c st Q :=
 Qe.loop I m x0 h0 fun x st hi=>(Qd c st _ (round x st hi)).mono fun e st' h=>by cases e<;>exact h
end
theorem qeC(env:Nat→AV)(d:Nat)(x:AV)(i:Nat):upd env d x i=if i=d then x else env i:=_root_.id rfl
theorem qlL(Q:Exit→St→Prop)(st:St):qrk Q st=Q .normal st:=_root_.id rfl
theorem qhI(id i:Nat)(Q:Exit→St→Prop)(st:St):qqy id Q (.exit i) st=if i=id then Q .normal st else Q (.exit i) st:=_root_.id rfl
theorem qdK(id:Nat)(Q:Exit→St→Prop)(st:St):qqy id Q .normal st=Q .normal st:=_root_.id rfl
theorem qkL(id:Nat)(Q:Exit→St→Prop)(st:St):qqy id Q .ret st=Q .ret st:=_root_.id rfl
theorem qeu(K:St→Prop)(Q:Exit→St→Prop)(st:St):qpn K Q .normal st=K st:=_root_.id rfl
theorem qjy(K:St→Prop)(Q:Exit→St→Prop)(i:Nat)(st:St):qpn K Q (.exit i) st=Q (.exit i) st:=_root_.id rfl
theorem qme(K:St→Prop)(Q:Exit→St→Prop)(st:St):qpn K Q .ret st=Q .ret st:=_root_.id rfl
theorem qpO(P:Program)(pl:Bool)(Q:Exit→St→Prop)(st:St):Zv P pl .skip Q st=Q .normal st:=_root_.id rfl
theorem qrS(P:Program)(pl:Bool)(Q:Exit→St→Prop)(st:St):Zv P pl .ret Q st=Q .ret st:=_root_.id rfl
theorem qpM(P:Program)(pl:Bool)(id:Nat)(Q:Exit→St→Prop)(st:St):Zv P pl (.exit id) Q st=Q (.exit id) st:=_root_.id rfl
theorem qrT(P:Program)(pl:Bool)(c d:Code)(Q:Exit→St→Prop)(st:St):Zv P pl (.seq c d) Q st=Zv P pl c (qpn (Zv P pl d Q) Q) st:=_root_.id rfl
theorem qpK(P:Program)(pl:Bool)(x:Operand)(c d:Code)(Q:Exit→St→Prop)(st:St):Zv P pl (.cond x c d) Q st=match ev st x with|.v (.bool b)=>(b=true→Zv P pl c Q st)∧(b=false→Zv P pl d Q st)|_=>False:=_root_.id rfl
theorem qj4(P:Program)(pl:Bool)(id:Nat)(ops:Array Oper)(Q:Exit→St→Prop)(st:St):Zv P pl (.region id ops false) Q st=QC P ops ops.toList (qrk Q) st:=_root_.id rfl
theorem qpL(P:Program)(pl:Bool)(id:Nat)(ops:Array Oper)(Q:Exit→St→Prop)(st:St):Zv P pl (.region id ops true) Q st=Qm P id ops st (qrk Q):=_root_.id rfl
theorem qmy(P:Program)(pl:Bool)(id:Nat)(c:Code)(Q:Exit→St→Prop)(st:St):Zv P pl (.block id c) Q st=Zv P pl c (qqy id Q) st:=_root_.id rfl
theorem qpN(P:Program)(pl:Bool)(c:Code)(Q:Exit→St→Prop)(st:St):Zv P pl (.loop c) Q st=Qp P pl c st Q:=_root_.id rfl
theorem qg8(P:Program)(ops:Array Oper)(Q:St→Prop)(st:St):QC P ops [] Q st=Q st:=_root_.id rfl
theorem YI(P:Program)(ops:Array Oper)(o:Oper)(l:List Oper)(Q:St→Prop)(st:St):QC P ops (o::l) Q st=match wanted st ops o with|some b=>(b=true→qac P st o (QC P ops l Q))∧(b=false→Z7 st o.dst (.v undef) (QC P ops l Q))|none=>False:=rfl
def qan(st:St)(d:Nat)(u:Option AV)(K:St→Prop):Prop:=match u with|some u=>if d<st.n then K { st with env:=upd st.env d u }else False|none=>False
def qnh(d:Nat)(r:Option (AV×St))(K:St→Prop):Prop:=match r with|some (u,st1)=>if d<st1.n then K { st1 with env:=upd st1.env d u }else False|none=>False
def qsO(r:Option St)(K:St→Prop):Prop:=match r with|some st1=>K st1|none=>False
theorem qjh(st:St)(d:Nat)(u:AV)(K:St→Prop):qan st d (some u) K=if d<st.n then K { st with env:=upd st.env d u }else False:=_root_.id rfl
theorem qjg(d:Nat)(u:AV)(st1:St)(K:St→Prop):qnh d (some (u,st1)) K=if d<st1.n then K { st1 with env:=upd st1.env d u }else False:=_root_.id rfl
theorem qjf(st1:St)(K:St→Prop):qsO (some st1) K=K st1:=_root_.id rfl
section
variable(P:Program)(ops:Array Oper)(d:Nat)(ty:TypeId)(pos:String)(aft:Array Edge)(l:List Oper)(Q:St→Prop)(st:St)
theorem Z1(st:St)(d:Nat)(u:AV)(K:St→Prop):Z7 st (some d) u K=if d<st.n then K { st with env:=upd st.env d u }else False:=by
 unfold Z7 St.put;simp only[];split
 ·rename_i st' h;split at h
  ·rename_i hd;injection h with h;subst h;rw[if_pos hd]
  ·cases h
 ·rename_i h;split at h
  ·cases h
  ·rename_i hd;rw[if_neg hd]
theorem K3(o:Oper)(hg:o.guard=none):QC P ops (o::l) Q st=qac P st o (QC P ops l Q):=by rw[YI];simp[wanted,hg]
theorem Yf(u:Option AV)(st:St):(match u with|some u=>some (u,st)|none=>none)=u.map fun u=>(u,st):=by cases u<;>rfl
theorem YD(op:Op)(u:Option AV)(h1:∀K,qac P st ⟨some d,op,ty,pos,aft,none⟩ K=match astep P st ⟨some d,op,ty,pos,aft,none⟩with|some (u,st1)=>Z7 st1 (some d) u K|none=>False)
  (h2:astep P st ⟨some d,op,ty,pos,aft,none⟩=u.map fun u=>(u,st)):QC P ops (⟨some d,op,ty,pos,aft,none⟩::l) Q st=qan st d u (QC P ops l Q):=by
 rw[K3 P ops l Q st _ rfl,h1,h2];cases u with
 | none=>rfl
 | some u=>simp only[qan,Z1,Option.map_some]
theorem qpR(x:Operand):QC P ops (⟨some d,.move x,ty,pos,aft,none⟩::l) Q st=qan st d (some (ev st x)) (QC P ops l Q):=YD P ops d ty pos aft l Q st _ _ (fun _=>rfl) rfl
theorem qj6(x:Operand):QC P ops (⟨some d,.assign x,ty,pos,aft,none⟩::l) Q st=qan st d (some (ev st x)) (QC P ops l Q):=YD P ops d ty pos aft l Q st _ _ (fun _=>rfl) rfl
theorem qmA(op:BinOp)(t:TypeId)(x y:Operand)(yt:TypeId):QC P ops (⟨some d,.binOp op t x y yt,ty,pos,aft,none⟩::l) Q st=qan st d (abinop P op t (ev st x) (ev st y)) (QC P ops l Q):=YD P ops d ty pos aft l Q st _ _ (fun _=>rfl) (Yf _ _)
theorem qpT(op:UnOp)(t:TypeId)(x:Operand):QC P ops (⟨some d,.unOp op t x,ty,pos,aft,none⟩::l) Q st=qan st d (aunop op (ev st x)) (QC P ops l Q):=YD P ops d ty pos aft l Q st _ _ (fun _=>rfl) (Yf _ _)
theorem qg9(s t:TypeId)(x:Operand):QC P ops (⟨some d,.convert s t x,ty,pos,aft,none⟩::l) Q st=qan st d (aconv P s t (ev st x)) (QC P ops l Q):=YD P ops d ty pos aft l Q st _ _ (fun _=>rfl) (Yf _ _)
theorem qmD(t:TypeId)(x i:Operand):QC P ops (⟨some d,.index t x i,ty,pos,aft,none⟩::l) Q st=qan st d (match idx (ev st i)with|some j=>aindex P t (ev st x) j|none=>none) (QC P ops l Q):=YD P ops d ty pos aft l Q st _ _ (fun _=>rfl) (Yf _ _)
theorem qdp(t:TypeId)(x i:Operand):QC P ops (⟨some d,.indexAddr t x i,ty,pos,aft,none⟩::l) Q st=qan st d (match idx (ev st i)with|some j=>Qh P st t (ev st x) j|none=>none) (QC P ops l Q):=YD P ops d ty pos aft l Q st _ _ (fun _=>rfl) (Yf _ _)
theorem qdo(t:TypeId)(x:Operand)(f:Nat):QC P ops (⟨some d,.fieldAddr t x f,ty,pos,aft,none⟩::l) Q st=qan st d (Qk P t (ev st x) f) (QC P ops l Q):=YD P ops d ty pos aft l Q st _ _ (fun _=>rfl) (Yf _ _)
theorem qpQ(t:TypeId)(x:Operand):QC P ops (⟨some d,.load t x,ty,pos,aft,none⟩::l) Q st=qan st d (aload P st t (ev st x)) (QC P ops l Q):=YD P ops d ty pos aft l Q st _ _ (fun _=>rfl) (Yf _ _)
theorem qmE(t:TypeId)(x:Operand)(lo hi:Option Operand):QC P ops (⟨some d,.slice t x lo hi none,ty,pos,aft,none⟩::l) Q st=qan st d (aslice P t (ev st x) (lo.map (ev st)) (hi.map (ev st))) (QC P ops l Q):=YD P ops d ty pos aft l Q st _ _ (fun _=>rfl) (Yf _ _)
theorem qha(x:Operand)(i:Nat):QC P ops (⟨some d,.extract x i,ty,pos,aft,none⟩::l) Q st=qan st d (match V1 (ev st x)with|some vs=>vs[i]?|none=>none) (QC P ops l Q):=YD P ops d ty pos aft l Q st _ _ (fun _=>rfl) (Yf _ _)
theorem qmB(t:TypeId)(parts:List (Nat×Operand)):QC P ops (⟨some d,.build t parts.toArray,ty,pos,aft,none⟩::l) Q st=qan st d (abuild P t (parts.map fun(i,x)=>(i,ev st x))) (QC P ops l Q):=YD P ops d ty pos aft l Q st _ _ (fun _=>rfl) (Yf _ _)
theorem qpS(c a b:Operand):QC P ops (⟨some d,.pick c a b,ty,pos,aft,none⟩::l) Q st=qan st d (match ev st c with|.v (.bool t)=>some (if t then ev st a else ev st b)|_=>none) (QC P ops l Q):=YD P ops d ty pos aft l Q st _ _ (fun _=>rfl) (Yf _ _)
theorem qeI(x:Operand):QC P ops (⟨some d,.nilCheck x,ty,pos,aft,none⟩::l) Q st=qan st d (match ev st x with|.ptr id sz i off=>some (.ptr id sz i off)|.rop cs=>some (.rop cs)|.fn (.func f) fs cs=>some (.fn (.func f) fs cs)|_=>none) (QC P ops l Q):=YD P ops d ty pos aft l Q st _ _ (fun _=>rfl) (Yf _ _)
theorem qeH(f:Fn)(fs cs:List Operand):QC P ops (⟨some d,.makeFunc f fs.toArray cs.toArray,ty,pos,aft,none⟩::l) Q st=qan st d (some (.fn f (fs.map (ev st)) (cs.map (ev st)))) (QC P ops l Q):=YD P ops d ty pos aft l Q st _ _ (fun _=>rfl) rfl
theorem qrV(x:Operand)(t:TypeId):QC P ops (⟨some d,.call ⟨.builtin .len,#[x],#[t]⟩,ty,pos,aft,none⟩::l) Q st=qan st d (alen P t (ev st x)) (QC P ops l Q):=YD P ops d ty pos aft l Q st _ _ (fun _=>rfl) (Yf _ _)
theorem qrX(x y:Operand)(ts:Array TypeId):QC P ops (⟨some d,.call ⟨.builtin .min,#[x,y],ts⟩,ty,pos,aft,none⟩::l) Q st=qan st d (amax true [ev st x,ev st y]) (QC P ops l Q):=YD P ops d ty pos aft l Q st _ _ (fun _=>rfl) (Yf _ _)
theorem qrW(x y:Operand)(ts:Array TypeId):QC P ops (⟨some d,.call ⟨.builtin .max,#[x,y],ts⟩,ty,pos,aft,none⟩::l) Q st=qan st d (amax false [ev st x,ev st y]) (QC P ops l Q):=YD P ops d ty pos aft l Q st _ _ (fun _=>rfl) (Yf _ _)
theorem qdr(op:Op)(r:Option (AV×St))(h1:∀K,qac P st ⟨some d,op,ty,pos,aft,none⟩ K=match astep P st ⟨some d,op,ty,pos,aft,none⟩with|some (u,st1)=>Z7 st1 (some d) u K|none=>False)
  (h2:astep P st ⟨some d,op,ty,pos,aft,none⟩=r):QC P ops (⟨some d,op,ty,pos,aft,none⟩::l) Q st=qnh d r (QC P ops l Q):=by
 rw[K3 P ops l Q st _ rfl,h1,h2];cases r with
 | none=>rfl
 | some r=>obtain⟨u,st1⟩:=r;simp only[qnh,Z1]
theorem qmz(t:TypeId):QC P ops (⟨some d,.alloc t,ty,pos,aft,none⟩::l) Q st=qnh d (match azero P t with|some cs=>aptr P st t cs|none=>none) (QC P ops l Q):=qdr P ops d ty pos aft l Q st _ _ (fun _=>rfl) rfl
theorem qrU(t:TypeId)(x:Operand):QC P ops (⟨some d,.box t x,ty,pos,aft,none⟩::l) Q st=qnh d (aptr P st t (acells (ev st x))) (QC P ops l Q):=qdr P ops d ty pos aft l Q st _ _ (fun _=>rfl) rfl
theorem qbX(t:TypeId)(len:Nat)(parts:List (Nat×Operand)):QC P ops (⟨some d,.buildSlice t len parts.toArray,ty,pos,aft,none⟩::l) Q st =
  qnh d (match Qz P t len (parts.map fun(i,x)=>(i,ev st x))with|some (e,es)=>some (.ref st.N (P.cellsOf e) 0 len none,Qs P st e es (some len))|none=>none) (QC P ops l Q):=qdr P ops d ty pos aft l Q st _ _ (fun _=>rfl) rfl
theorem qdq(t:TypeId)(x c:Operand):QC P ops (⟨some d,.makeSlice t x c,ty,pos,aft,none⟩::l) Q st =
  qnh d (match amake P t (ev st x) (ev st c)with|some (e,ln,cn,z)=>some (.ref st.N (P.cellsOf e) 0 ln none,Qs P st e (List.replicate ln z) (some cn))|none=>none) (QC P ops l Q):=qdr P ops d ty pos aft l Q st _ _ (fun _=>rfl) rfl
theorem qj5(s x:Operand)(t:TypeId):QC P ops (⟨some d,.call ⟨.builtin .append,#[s,x],#[t,t]⟩,ty,pos,aft,none⟩::l) Q st=qnh d (aappend P st t (ev st s) (ev st x)) (QC P ops l Q) :=
 qdr P ops d ty pos aft l Q st _ _ (fun _=>rfl) (by simp[astep])
theorem qmF(t:TypeId)(p x:Operand):QC P ops (⟨none,.store t p x,ty,pos,aft,none⟩::l) Q st=qsO (astore P st t (ev st p) (ev st x)) (QC P ops l Q):=by rw[K3 P ops l Q st _ rfl];simp only[qac,qsO];cases astore P st t (ev st p) (ev st x)<;>rfl
def grd(st:St)(ops:Array Oper)(j:Nat)(want:Bool):Option Bool :=
 match (ops[j]?).bind (·.dst)with
 | none=>some false
 | some d=>match st.env d with|.v (.bool b)=>if d<st.n then some (b==want)else none|.v (.tuple _)=>some false|_=>none
def qm4(b:Option Bool)(K1 K2:Prop):Prop:=match b with|some true=>K1|some false=>K2|none=>False
theorem XJ(K1 K2:Prop):qm4 (some true) K1 K2=K1:=_root_.id rfl
theorem Wm(K1 K2:Prop):qm4 (some false) K1 K2=K2:=_root_.id rfl
theorem Qb(dst:Option Tmp)(op:Op)(j:Nat)(want:Bool):QC P ops (⟨dst,op,ty,pos,aft,some (j,want)⟩::l) Q st =
  qm4 (grd st ops j want) (QC P ops (⟨dst,op,ty,pos,aft,none⟩::l) Q st) (Z7 st dst (.v undef) (QC P ops l Q)):=by
 rw[YI,K3 P ops l Q st ⟨dst,op,ty,pos,aft,none⟩ rfl];have hw:wanted st ops ⟨dst,op,ty,pos,aft,some (j,want)⟩=grd st ops j want:=rfl;have hv:∀K,qac P st ⟨dst,op,ty,pos,aft,some (j,want)⟩ K=qac P st ⟨dst,op,ty,pos,aft,none⟩ K:=fun _=>rfl;rw[hw,hv];rcases grd st ops j want with _|_|_<;>simp[qm4]
def qrA(st:St)(d:Nat)(K:St→Prop):AV→Qf→Nat→Prop:=fun r H' N'=>if d<st.n then K ⟨st.n,upd st.env d r,H',N'⟩else False
theorem qfx(st:St)(d:Nat)(K:St→Prop)(r:AV)(H':Qf)(N':Nat):qrA st d K r H' N'=if d<st.n then K ⟨st.n,upd st.env d r,H',N'⟩else False:=_root_.id rfl
theorem qpP(f:FuncId)(args:List Operand)(ts:Array TypeId):QC P ops (⟨some d,.call ⟨.value (.func f),args.toArray,ts⟩,ty,pos,aft,none⟩::l) Q st=Qc P f (args.map (ev st)) st.H st.N (qrA st d (QC P ops l Q)):=by
 rw[K3 P ops l Q st _ rfl];have:(fun r H' N'=>Z7 { st with H:=H',N:=N' } (some d) r (QC P ops l Q))=qrA st d (QC P ops l Q):=by funext r H' N';rw[Z1];rfl
 simp only[qac,ev,List.nil_append,List.append_nil];rw[this]
end
section
variable(P:Program)(t:TypeId)(k:IntKind)(a b:Int)
theorem qnF:abinop P .add t (.v (.int k a)) (.v (.int k b))=some (.v (.int k (k.wrap (a+b)))):=by simp[abinop,abin]
theorem qnN:abinop P .sub t (.v (.int k a)) (.v (.int k b))=some (.v (.int k (k.wrap (a-b)))):=by simp[abinop,abin]
theorem qnL:abinop P .mul t (.v (.int k a)) (.v (.int k b))=some (.v (.int k (k.wrap (a*b)))):=by simp[abinop,abin]
theorem qnK:abinop P .lss t (.v (.int k a)) (.v (.int k b))=some (.v (.bool (decide (a<b)))):=by simp[abinop,abin]
theorem qnJ:abinop P .leq t (.v (.int k a)) (.v (.int k b))=some (.v (.bool (decide (a≤b)))):=by simp[abinop,abin]
theorem qnI:abinop P .gtr t (.v (.int k a)) (.v (.int k b))=some (.v (.bool (decide (b<a)))):=by simp[abinop,abin]
theorem qnH:abinop P .geq t (.v (.int k a)) (.v (.int k b))=some (.v (.bool (decide (b≤a)))):=by simp[abinop,abin]
theorem qnG:abinop P .eql t (.v (.int k a)) (.v (.int k b))=some (.v (.bool (decide (a=b)))):=by simp[abinop,abin]
theorem qnM:abinop P .neq t (.v (.int k a)) (.v (.int k b))=some (.v (.bool (!decide (a=b)))):=by simp[abinop,abin]
theorem Ze(h:b≠0):abinop P .quo t (.v (.int k a)) (.v (.int k b))=some (.v (.int k (k.wrap (a.tdiv b)))):=by simp[abinop,abin,h]
theorem Zj(h:b≠0):abinop P .rem t (.v (.int k a)) (.v (.int k b))=some (.v (.int k (a.tmod b))):=by simp[abinop,abin,h]
theorem qa4(x y:ByteArray):abinop P .eql t (.v (.string x)) (.v (.string y))=some (.v (.bool (decide (x=y)))):=by simp[abinop,abin]
theorem qeS(x y:ByteArray):abinop P .neq t (.v (.string x)) (.v (.string y))=some (.v (.bool (!decide (x=y)))):=by simp[abinop,abin]
theorem KM(x y:ByteArray)(h:x.size+y.size≤maxLen):abinop P .add t (.v (.string x)) (.v (.string y))=some (.v (.string (x++y))):=by simp[abinop,abin,h]
end
theorem Ql{n:Int}(h0:-9223372036854775808≤n)(h:n≤9223372036854775807):IntKind.i64.wrap n=n:=by
 have:IntKind.i64.bits=64:=rfl;unfold IntKind.wrap;simp only[this,IntKind.signed];have:(2:Int)^64=18446744073709551616:=by decide
 have:(2:Int)^(64-1)=9223372036854775808:=by decide
 split<;>simp_all<;>omega
attribute [simp] Qb XJ Wm grd qjh qjg qjf Z1 qpR qj6 qmA qpT qg9 qmD qdp qdo qpQ qmE qha qmB qpS qeI qeH qrV qrX qrW qmz qrU qbX qdq qj5 qmF qpP qfx qnF qnN qnL qnK qnJ qnI qnH qnG qnM qa4 qeS qeC qlL qhI qdK qkL qeu qjy qme qpO qrS qpM qrT qpK qj4 qpL qmy qpN qg8 ev idx aresults aresult packed enter
def shp(es es':List (List AV)):Prop:=es'.length=es.length∧∀(i:Nat) (e e':List AV),es[i]?=some e→es'[i]?=some e'→e'.length=e.length
def Qu:Nat→AV→Bool
 | 0,_=>false
 | k+1,x=>match x with
  | .v _=>true
  | .ro es=>es.all fun e=>e.all (Qu k)
  | .agg cs=>cs.all (Qu k)
  | .tup cs=>cs.all (Qu k)
  | .rop cs=>cs.all (Qu k)
  | .fn _ fs cs=>fs.all (Qu k)&&cs.all (Qu k)
  | .rc es=>es.all fun e=>e.all (Qu k)
  | .mp _ vs=>vs.all (Qu k)
  | _=>false
theorem qe8{es:List (List AV)}{i j:Nat}{x:AV}(h:QZ es i j=some x):∃e∈es,x∈e:=by
 unfold QZ at h;split at h
 ·rename_i e he;exact⟨e,List.mem_of_getElem? he,List.mem_of_getElem? h⟩
 ·cases h
theorem Den.data{E E':Env}{w:World}(hS:∀c,E.S c→E'.S c):∀(k:Nat) {x:AV} {y:Value},Qu k x=true→Den E w x y→Den E' w x y:=by
 intro k;induction k with
 | zero=>intro x y h;cases h
 | succ k ih =>
  intro x y h hd;cases hd with
  | v=>exact .v _
  | ro es A c sz z hc hm hs hA hh =>
   have h:∀e∈es,∀x∈e,Qu k x=true:=by simpa[Qu,List.all_eq_true]using h
   refine .ro es A c sz z hc hm hs (fun hp=>?_) (fun i j x hx=>?_)
   ·obtain⟨a,e1,e2,e3⟩:=hA hp;exact⟨a,e1,hS _ e2,e3⟩
   ·obtain⟨e,he,hxe⟩:=qe8 hx;exact ih (h e he x hxe) (hh i j x hx)
  | agg cs zs hl hh =>
   have h:∀x∈cs,Qu k x=true:=by simpa[Qu,List.all_eq_true]using h
   exact .agg cs zs hl fun j x hx=>ih (h x (List.mem_of_getElem? hx)) (hh j x hx)
  | tup cs zs hl hh =>
   have h:∀x∈cs,Qu k x=true:=by simpa[Qu,List.all_eq_true]using h
   exact .tup cs zs hl fun j x hx=>ih (h x (List.mem_of_getElem? hx)) (hh j x hx)
  | ref=>cases h
  | ptr=>cases h
  | rop cs a z hS' hA hh =>
   have h:∀x∈cs,Qu k x=true:=by simpa[Qu,List.all_eq_true]using h
   exact .rop cs a z (hS _ hS') hA fun j x hx=>ih (h x (List.mem_of_getElem? hx)) (hh j x hx)
  | fn f fs cs fs' cs' h1 h2 h3 h4 =>
   have h:(∀x∈fs,Qu k x=true)∧∀x∈cs,Qu k x=true:=by simpa[Qu,List.all_eq_true]using h
   exact .fn f fs cs fs' cs' h1 h2 (fun j x hx=>ih (h.1 x (List.mem_of_getElem? hx)) (h3 j x hx)) fun j x hx=>ih (h.2 x (List.mem_of_getElem? hx)) (h4 j x hx)
  | yl=>cases h
  | mp ks vs r es clock z q1 q2 q3 q4 q5 q6 =>
   have h:∀x∈vs,Qu k x=true:=by simpa[Qu,List.all_eq_true]using h
   exact .mp ks vs r es clock z (hS _ q1) q2 q3 q4 q5 fun j x hx=>ih (h x (List.mem_of_getElem? hx)) (q6 j x hx)
  | rc es A hh =>
   have h:∀e∈es,∀x∈e,Qu k x=true:=by simpa[Qu,List.all_eq_true]using h
   refine .rc es A ?_;cases hh with
   | ro _ _ _ sz z hc hm hs hA hh =>
    refine .ro es A _ sz z hc hm hs (fun hp=>?_) (fun i j x hx=>?_)
    ·obtain⟨a,e1,e2,e3⟩:=hA hp;exact⟨a,e1,hS _ e2,e3⟩
    ·obtain⟨e,he,hxe⟩:=qe8 hx;exact ih (h e he x hxe) (hh i j x hx)
inductive Frz(H:Qf)(F G:Nat→Prop):AV→AV→Prop
 | v (x:Value):Frz H F G (.v x) (.v x)
 | nil:Frz H F G (.v (.slice none 0 0)) (.ro [])
 | ro (es es':List (List AV)) (p:Nat→Nat→AV) (hs:shp es es') (hp:∀i j x',QZ es' i j=some x'→QZ es i j=some (p i j)) (h:∀i j x',QZ es' i j=some x'→Frz H F G (p i j) x'):Frz H F G (.ro es) (.ro es')
 | agg (cs cs':List AV) (p:Nat→AV) (hl:cs'.length=cs.length) (hp:∀(j:Nat) (x':AV),cs'[j]?=some x'→cs[j]?=some (p j)) (h:∀(j:Nat) (x':AV),cs'[j]?=some x'→Frz H F G (p j) x'):Frz H F G (.agg cs) (.agg cs')
 | tup (cs cs':List AV) (p:Nat→AV) (hl:cs'.length=cs.length) (hp:∀(j:Nat) (x':AV),cs'[j]?=some x'→cs[j]?=some (p j)) (h:∀(j:Nat) (x':AV),cs'[j]?=some x'→Frz H F G (p j) x'):Frz H F G (.tup cs) (.tup cs')
 | old (id sz off len:Nat) (mx:Option Nat) (hid:G id):Frz H F G (.ref id sz off len mx) (.ref id sz off len mx)
 | new (id sz off len:Nat) (mx:Option Nat) (b:Blk) (hid:F id) (hb:H id=some b) (hsz:b.sz=sz) (hle:off+len≤b.es.length) (es':List (List AV)) (p:Nat→Nat→AV) (hs:shp ((b.es.drop off).take len) es')
   (hp:∀i j x',QZ es' i j=some x'→QZ ((b.es.drop off).take len) i j=some (p i j)) (h:∀i j x',QZ es' i j=some x'→Frz H F G (p i j) x'):Frz H F G (.ref id sz off len mx) (.ro es')
 | ptr (id sz i off:Nat) (hid:G id):Frz H F G (.ptr id sz i off) (.ptr id sz i off)
 | rc (es es':List (List AV)) (h:Frz H F G (.ro es) (.ro es')) (hl:es'.length=es.length):Frz H F G (.rc es) (.rc es')
 | dat (x:AV) (k:Nat) (h:Qu k x=true):Frz H F G x x
 | fn (f:Fn) (fs fs' cs cs':List AV) (p q:Nat→AV) (hl:fs'.length=fs.length) (hl':cs'.length=cs.length) (hp:∀(j:Nat) (x':AV),fs'[j]?=some x'→fs[j]?=some (p j)) (h:∀(j:Nat) (x':AV),fs'[j]?=some x'→Frz H F G (p j) x')
   (hq:∀(j:Nat) (x':AV),cs'[j]?=some x'→cs[j]?=some (q j)) (h':∀(j:Nat) (x':AV),cs'[j]?=some x'→Frz H F G (q j) x'):Frz H F G (.fn f fs cs) (.fn f fs' cs')
 | cell (id sz i off:Nat) (b:Blk) (e cs':List AV) (hid:F id) (hb:H id=some b) (hsz:b.sz=sz) (he:b.es[i]?=some e) (hl:cs'.length=(e.drop off).length) (p:Nat→AV)
   (hp:∀(j:Nat) (x':AV),cs'[j]?=some x'→(e.drop off)[j]?=some (p j)) (h:∀(j:Nat) (x':AV),cs'[j]?=some x'→Frz H F G (p j) x'):Frz H F G (.ptr id sz i off) (.rop cs')
section
variable{P:Program}{E:Env}{B:Nat}{w0:World}{H:Qf}{st:St}{a:Act}{w:World}
def Env.fr(E:Env)(H:Qf)(F:Nat→Prop)(N:Nat):Env:={ η:=E.η,κ:=E.κ,S:=fun c=>E.S c∨∃id b,F id∧H id=some b∧b.cap≠some 0∧c=E.η id,N:=N,Z:=E.Z,D:=E.D,ZD:=E.ZD }
abbrev Env.old(E:Env)(H:Qf)(N:Nat):Env:=E.fr H (fun id=>N≤id) N
theorem Frz.den{F G:Nat→Prop}{N:Nat}(h:Zm E B w0 H w)(hG:∀id,G id→id<E.N→id<N){x x':AV}(hf:Frz H F G x x'):∀{y:Value},Den E w x y→Den (E.fr H F N) w x' y:=by
 induction hf with
 | v x=>intro y hd;cases hd;exact .v _
 | nil=>intro y hd;cases hd;exact .ro [] none 0 0 (fun _ _=>undef) (Nat.le_refl _) (Nat.zero_le _) (fun e he=>by cases he) (fun hp=>by simp at hp) (fun i j x hx=>by simp[QZ]at hx)
 | ro es es' p hs hp hh ih =>
  intro y hd;cases hd with
  | ro _ A c sz z hc hm hsz hA hd =>
  obtain⟨hl,hs⟩:=hs;rw[←hl];refine .ro es' A c sz z (by omega) (by omega) (fun e he=>?_) (fun hq=>?_) (fun i j x' hx'=>ih i j x' hx' (hd _ _ _ (hp i j x' hx')))
  ·obtain⟨i,hi,rfl⟩:=List.getElem_of_mem he;have hi':i<es.length:=by omega
   rw[hs i _ _ (List.getElem?_eq_getElem hi') (List.getElem?_eq_getElem hi)];exact hsz _ (List.getElem_mem hi')
  ·obtain⟨ad,e,hS,hcell⟩:=hA (by omega);exact⟨ad,e,.inl hS,fun i j x' hx'=>hcell i j _ (hp i j x' hx')⟩
 | agg cs cs' p hl hp hh ih =>
  intro y hd;cases hd with
  | agg _ zs hz hd=>exact .agg _ _ (by omega) fun j x' hx'=>ih j x' hx' (hd _ _ (hp j x' hx'))
 | tup cs cs' p hl hp hh ih =>
  intro y hd;cases hd with
  | tup _ zs hz hd=>exact .tup _ _ (by omega) fun j x' hx'=>ih j x' hx' (hd _ _ (hp j x' hx'))
 | old id sz off len mx hid =>
  intro y hd;cases hd with
  | ref _ _ _ _ _ A c h1 h2 h3 h4 h5 h6=>exact .ref id sz off len mx A c (hG id hid h1) h2 h3 h4 h5 h6
 | ptr id sz i off hid =>
  intro y hd;cases hd with
  | ptr _ _ _ _ h1=>exact .ptr id sz i off (hG id hid h1)
 | dat x k h=>intro y hd;exact Den.data (E:=E) (E':=E.fr _ F N) (fun c hc=>.inl hc) k h hd
 | fn f fs fs' cs cs' p q hl hl' hp hh hq hh' ih ih' =>
  intro y hd;cases hd with
  | fn _ _ _ fs2 cs2 h1 h2 h3 h4=>exact .fn f fs' cs' fs2 cs2 (h1.trans hl.symm) (h2.trans hl'.symm) (fun j x' hx=>ih j x' hx (h3 j _ (hp j x' hx))) (fun j x' hx=>ih' j x' hx (h4 j _ (hq j x' hx)))
 | cell id sz i off b e cs' hid hb hsz he hl p hp hh ih =>
  intro y hd;cases hd with
  | ptr _ _ _ _ h1 =>
  have hc0:=h.qo8 hb he;obtain⟨cur,z,g1,g2,g3,g4,g5,g6,g7,g8,g9⟩:=h.blk id b hb hc0;have hg:∀(j:Nat) (x':AV),cs'[j]?=some x'→QZ b.es i (off+j)=some (p j):=fun j x' hx=>by have:=hp j x' hx;rw[List.getElem?_drop]at this;simp only[QZ,he];exact this
  refine .rop cs' _ (fun j=>z i (off+j)) (.inr ⟨id,b,hid,hb,hc0,rfl⟩) (fun j x' hx=>?_) (fun j x' hx=>ih j x' hx (g9 _ _ _ (hg j x' hx)));rw[Zn,cell_of_row w _ _ cur b.ty (0,0) g1,←hsz,show i*b.sz+off+j=i*b.sz+(off+j) by omega];exact g8 _ _ _ (hg j x' hx)
 | rc es es' h0 hl ih =>
  intro y hd;cases hd with
  | rc _ A h1 =>have:=ih h1;rw[←hl]at this⊢;exact .rc es' A this
 | new id sz off len mx b hid hb hsz hle es' p hs hp hh ih =>
  intro y hd;cases hd with
  | ref _ _ _ _ _ A c h1 h2 h3 h4 h5 h6 =>
  obtain⟨hl,hs⟩:=hs;by_cases hc0:b.cap=some 0
  ·have he0:=(h.gst id b hb hc0).2;rw[he0]at hle hl;have hl0:len=0:=by simp at hle;omega
   subst hl0;have hes:es'=[]:=List.eq_nil_of_length_eq_zero (by simpa using hl);subst hes;exact .ro [] A c 0 (fun _ _=>undef) (Nat.zero_le _) (Nat.zero_le _) (fun e he=>by cases he) (fun hp=>by simp at hp) (fun i j x hx=>by simp[QZ]at hx)
  obtain⟨cur,z,g1,g2,g3,g4,g5,g6,g7,g8,g9⟩:=h.blk id b hb hc0;have hlen:((b.es.drop off).take len).length=len:=by simp;omega
  have hg:∀i j x,QZ ((b.es.drop off).take len) i j=some x→QZ b.es (off+i) j=some x:=fun i j x hx=>by
   simp only[QZ,List.getElem?_take,List.getElem?_drop]at hx⊢;split at hx
   ·rename_i q hq;split at hq
    ·rw[hq];exact hx
    ·cases hq
   ·cases hx
  have e1:len=es'.length:=by omega
  subst e1;refine .ro es' A c sz (fun i j=>z (off+i) j) h4 (by omega) (fun e he=>?_) (fun hq=>?_) (fun i j x' hx'=>ih i j x' hx' (g9 _ _ _ (hg _ _ _ (hp i j x' hx'))))
  ·obtain⟨i,hi,rfl⟩:=List.getElem_of_mem he;have hi':i<((b.es.drop off).take es'.length).length:=by omega
   rw[hs i _ _ (List.getElem?_eq_getElem hi') (List.getElem?_eq_getElem hi),←hsz];exact g6 _ (List.mem_of_mem_drop (List.mem_of_mem_take (List.getElem_mem hi')))
  ·refine⟨_,h5 (.inl (by omega)),.inr ⟨id,b,hid,hb,hc0,rfl⟩,fun i j x' hx'=>?_⟩;rw[Zn,cell_of_row w _ _ cur b.ty (0,0) g1,←hsz,show off*b.sz+(i*b.sz+j)=(off+i)*b.sz+j by rw[Nat.add_mul];omega];exact g8 _ _ _ (hg _ _ _ (hp i j x' hx'))
theorem Den.restrict{E E':Env}{w w':World}{H':Qf}{N:Nat}(hN:E.N=N){x:AV}{y0:Value}(h0:Den E w x y0):∀{y:Value},Den E' w' x y→Den (E'.old H' N) w' x y:=by
 induction h0 with
 | v x=>intro y hd;cases hd;exact .v _
 | ro es A c sz z hc hm hs hA h ih =>
  intro y hd;cases hd with
  | ro _ A' c' sz' z' hc' hm' hs' hA' h' =>
  refine .ro es A' c' sz' z' hc' hm' hs' (fun hp=>?_) fun i j x hx=>ih i j x hx (h' i j x hx);obtain⟨a,e,hS,hcell⟩:=hA' hp;exact⟨a,e,.inl hS,hcell⟩
 | agg cs zs hl h ih=>intro y hd;cases hd with|agg _ zs' hl' h'=>exact .agg _ _ hl' fun j x hx=>ih j x hx (h' j x hx)
 | tup cs zs hl h ih=>intro y hd;cases hd with|tup _ zs' hl' h'=>exact .tup _ _ hl' fun j x hx=>ih j x hx (h' j x hx)
 | ref id sz off len mx A c hid hc hle hlen hA hs=>intro y hd;cases hd with|ref _ _ _ _ _ A' c' h1 h2 h3 h4 h5 h6=>exact .ref id sz off len mx A' c' (by show id<N;omega) h2 h3 h4 h5 h6
 | ptr id sz i off hid=>intro y hd;cases hd with|ptr _ _ _ _ h1=>exact .ptr id sz i off (by show id<N;omega)
 | rop cs a z hS hA h ih=>intro y hd;cases hd with|rop _ a' z' hS' hA' h'=>exact .rop cs a' z' (.inl hS') hA' fun j x hx=>ih j x hx (h' j x hx)
 | fn f fs cs fs' cs' hlf hlc hf hc ihf ihc=>intro y hd;cases hd with|fn _ _ _ fs2 cs2 h1 h2 h3 h4=>exact .fn f fs cs fs2 cs2 h1 h2 (fun j x hx=>ihf j x hx (h3 j x hx)) fun j x hx=>ihc j x hx (h4 j x hx)
 | rc es A h ih=>intro y hd;cases hd with|rc _ A' h'=>exact .rc es A' (ih h')
 | yl id hid=>intro y hd;cases hd with|yl _ h1=>exact .yl id (by show id<N;omega)
 | mp ks vs r es clock z hS hw hk hz hl h ih=>intro y hd;cases hd with|mp _ _ r' es' clock' z' q1 q2 q3 q4 q5 q6=>exact .mp ks vs r' es' clock' z' (.inl q1) q2 q3 q4 q5 fun j x hx=>ih j x hx (q6 j x hx)
theorem Zm.W7(h:Zm E B w0 H w){F:Nat→Prop}{c:Nat}{q:Obj}(hq:w.heap[c]?=some q)(hqc:q.isCells=false):¬∃i b,F i∧H i=some b∧b.cap≠some 0∧c=E.η i:=by rintro⟨i,b,_,hb,hc0,rfl⟩;obtain⟨cur,z,q1,_⟩:=h.blk i b hb hc0;rw[q1]at hq;injection hq with hq;subst hq;cases hqc
theorem Frz.KB{F G:Nat→Prop}{id sz off len:Nat}{mx:Option Nat}{b:Blk}(hid:F id)(hb:H id=some b)(hsz:b.sz=sz)(hle:off+len≤b.es.length)(h:∀e∈(b.es.drop off).take len,∀x∈e,Frz H F G x x) :
  Frz H F G (.ref id sz off len mx) (.ro ((b.es.drop off).take len)):=by
 refine .new id sz off len mx b hid hb hsz hle _ (fun i j=>(QZ ((b.es.drop off).take len) i j).getD (.v undef)) ⟨rfl,fun i e e' h1 h2=>by rw[h1]at h2;injection h2 with h2;rw[h2]⟩ (fun i j x hx=>by rw[hx];rfl) (fun i j x hx=>?_);rw[hx];unfold QZ at hx;split at hx
 ·rename_i e he;exact h e (List.mem_of_getElem? he) x (List.mem_of_getElem? hx)
 ·cases hx
theorem Qv.data{f:FuncId}{args:List AV}{N:Nat}{Q:AV→Prop}(h:Qv P f args H N fun r H' N'=>N≤N'∧(∀id,id<N→H' id=H id∧H'.L id=H.L id)∧∃r',Frz H' (fun id=>N≤id) (fun id=>id<N) r r'∧Q r') :
  Qv P f args H N fun r H' N'=>H'=H∧N'=N∧Q r:=by
 intro E B w0 w args' hH hN hl hd;refine(h E B w0 w args' hH hN hl hd).mono fun e w' ⟨v,E',r,H',N',g1,g2,g3,g4,g5,g6,hNN,hold,r',hf,hq⟩=>?_;have hsame:∀id b,H id=some b→H' id=some b:=fun id b hb=>by have:=hH.lt id b hb;rw[(hold id (by omega)).1];exact hb
 have hsameL:∀id r,H.L id=some r→H'.L id=some r:=fun id r hr=>by have:=(hH.obj id r hr).1;rw[(hold id (by omega)).2];exact hr
 refine⟨v,E'.old H' N,r',H,N,g1,⟨by rw[hN];exact Nat.le_refl _,g2.η,g2.κ,fun c hc=>.inl (g2.S c hc),g2.Z,g2.D,g2.ZD⟩,g3,?_,rfl,hf.den g4 (fun id hid _=>hid) g6,rfl,rfl,hq⟩;refine⟨fun id b hb=>by have:=hH.lt id b hb;rw[hN]at this;exact this,fun id b hb=>g4.gst id b (hsame id b hb),fun id b hb hc0=>?_,fun i j p q h1 h2 hz1 hz2 he=>g4.inj i j p q (hsame i p h1) (hsame j q h2) hz1 hz2 he,fun id b hb hc0 hfz=>?_,fun id b hb hc0 hfz=>.inl (g4.frz id b (hsame id b hb) hc0 hfz),fun c hc=>?_,fun c hc=>hc.elim (g4.so c) (fun⟨i,q,_,hq,hc0,e⟩=>.inr (by obtain⟨_,_,_,_,_,_,h5,_⟩:=g4.blk i q hq hc0;rw[e];exact h5)),g4.bas,g4.bel,fun id r hr=>?_,fun c hc=>⟨(g4.dfr c hc).1,fun hs=>hs.elim (g4.dfr c hc).2 (g4.W7 (g4.dfr c hc).1 rfl)⟩,g4.dfb,g4.zdd,fun i j p q h1 h2 he=>g4.oin i j p q (hsameL i p h1) (hsameL j q h2) he⟩
 ·obtain⟨cur,z,q1,q2,q3,q4,q5,q6,q7,q8,q9⟩:=g4.blk id b (hsame id b hb) hc0;obtain⟨cur0,z0,p1,p2,p3,p4,p5,p6,p7,p8,p9⟩:=hH.blk id b hb hc0;refine⟨cur,z,q1,q2,q3,q4,q5,q6,q7,q8,fun i j x hx=>?_⟩;have hd1:=q9 i j x hx;have hd0:=p9 i j x hx;exact Den.restrict hN hd0 hd1
 ·intro hS;rcases hS with hS|⟨i,q,hi,hq,hz,he⟩
  ·exact g4.mu id b (hsame id b hb) hc0 hfz hS
  ·have:=g4.inj id i b q (hsame id b hb) hq hc0 hz he;have:=hH.lt id b hb;omega
 ·rcases hc with hc|⟨i,q,hi,hq,hz,rfl⟩
  ·exact g4.slt c hc
  ·exact g4.le_size hq hz
 ·have hlt:=(hH.obj id r hr).1;obtain⟨q1,q2,q3,q4⟩:=g4.obj id r (hsameL id r hr);obtain⟨_,_,_,fn0,tmps0,D0,_,_,p3⟩:=hH.obj id r hr;obtain⟨q,hq,hqc⟩:=q4.KV;obtain⟨fn,tmps,D,r1,r2,r3⟩:=q4;exact⟨by show id<N;omega,q2,fun hs=>hs.elim q3 (g4.W7 hq hqc),fn,tmps,D,r1,r2,fun i=>Den.restrict hN (p3 i) (r3 i)⟩
def Qf.fr(H:Qf)(F:Nat→Prop)[DecidablePred F]:Qf:={ H with b:=fun id=>match H id with|some b=>some (if F id then { b with fz:=true }else b)|none=>none }
theorem Zm.fr(h:Zm E B w0 H w)(F:Nat→Prop)[DecidablePred F]:E.le (E.fr H F E.N)∧QD E w w∧Zm (E.fr H F E.N) B w0 (H.fr F) w:=by
 have hle:E.le (E.fr H F E.N):=⟨Nat.le_refl _,fun _ _=>rfl,fun _ _=>rfl,fun c hc=>.inl hc,rfl,fun c hc=>hc,rfl⟩;have hf:∀id b',(H.fr F) id=some b'→∃b,H id=some b∧(b'.cap=b.cap∧b'.es=b.es)∧b'=if F id then { b with fz:=true }else b:=fun id b' hb=>by
  simp only[Qf.fr]at hb;split at hb
  ·rename_i b hb0;injection hb with hb;exact⟨b,hb0,by rw[←hb];split<;>exact⟨rfl,rfl⟩,hb.symm⟩
  ·cases hb
 refine⟨hle,QD.refl E w,fun id b' hb=>?_,fun id b' hb hc0=>?_,fun id b' hb hc0=>?_,fun i j p q h1 h2 hz1 hz2 he=>?_,fun id b' hb hc0 hfz=>?_,fun id b' hb hc0 hfz=>?_,fun c hc=>?_,fun c hc=>hc.elim (h.so c) (fun⟨i,q,_,hq,hz,e⟩=>.inr (by obtain⟨_,_,_,_,_,_,h5,_⟩:=h.blk i q hq hz;rw[e];exact h5)),h.bas,h.bel,fun id r hr=>?_,fun c hc=>⟨(h.dfr c hc).1,fun hs=>hs.elim (h.dfr c hc).2 (h.W7 (h.dfr c hc).1 rfl)⟩,h.dfb,h.zdd,h.oin⟩
 ·obtain⟨b,hb0,_,rfl⟩:=hf id b' hb;exact h.lt id b hb0
 ·obtain⟨b,hb0,⟨hcb,heb⟩,_⟩:=hf id b' hb;rw[hcb]at hc0;rw[heb];exact h.gst id b hb0 hc0
 ·obtain⟨b,hb0,⟨hcb,heb⟩,rfl⟩:=hf id b' hb;rw[hcb]at hc0;obtain⟨cur,z,q1,q2,q3,q4,q5,q6,q7,q8,q9⟩:=h.blk id b hb0 hc0;split
  ·exact⟨cur,z,q1,q2,q3,q4,q5,q6,q7,q8,fun i j x hx=>(q9 i j x hx).mono hle (QD.refl E w)⟩
  ·exact⟨cur,z,q1,q2,q3,q4,q5,q6,q7,q8,fun i j x hx=>(q9 i j x hx).mono hle (QD.refl E w)⟩
 ·obtain⟨b,hb0,⟨hcb,_⟩,_⟩:=hf i p h1;obtain⟨b',hb1,⟨hcb',_⟩,_⟩:=hf j q h2;rw[hcb]at hz1;rw[hcb']at hz2;exact h.inj i j b b' hb0 hb1 hz1 hz2 he
 ·obtain⟨b,hb0,⟨hcb,_⟩,rfl⟩:=hf id b' hb;rw[hcb]at hc0;split at hfz
  ·cases hfz
  ·rename_i hF;rintro(hS|⟨i,q,hi,hq,hz,he⟩)
   ·exact h.mu id b hb0 hc0 hfz hS
   ·exact hF (h.inj id i b q hb0 hq hc0 hz he▸hi)
 ·obtain⟨b,hb0,⟨hcb,_⟩,rfl⟩:=hf id b' hb;rw[hcb]at hc0;split at hfz
  ·rename_i hF;exact .inr ⟨id,b,hF,hb0,hc0,rfl⟩
  ·exact .inl (h.frz id b hb0 hc0 hfz)
 ·rcases hc with hc|⟨i,q,hi,hq,hz,rfl⟩
  ·exact h.slt c hc
  ·exact h.le_size hq hz
 ·obtain⟨q1,q2,q3,q4⟩:=h.obj id r hr;obtain⟨q,hq,hqc⟩:=q4.KV;exact⟨q1,q2,fun hs=>hs.elim q3 (h.W7 hq hqc),q4.mono hle (QD.refl E w) rfl⟩
theorem Qv.args{f:FuncId}{args args':List AV}{N:Nat}{Q:AV→Qf→Nat→Prop}(F:Nat→Prop)[DecidablePred F](hl:args'.length=args.length)(ha:∀(j:Nat) (x x':AV),args[j]?=some x→args'[j]?=some x'→Frz H F (fun _=>True) x x')
  (h:Qv P f args' (H.fr F) N Q):Qv P f args H N Q:=by
 intro E B w0 w vs hH hN hvl hd;obtain⟨h1,h2,h3⟩:=hH.fr F;refine(h _ B w0 w vs h3 hN (by omega) (fun j u hu=>?_)).mono fun e w' ⟨v,E',r,H',N',g1,g2,g3,g4,g5,g6,g7⟩=>⟨v,E',r,H',N',g1,h1.trans g2,h2.trans h1 g3,g4,g5,g6,g7⟩;have hj:j<args.length:=by rw[←hl];exact(List.getElem?_eq_some_iff.1 hu).1
 exact(ha j _ u (List.getElem?_eq_getElem hj) hu).den hH (fun id _ hid=>hid) (hd j _ (List.getElem?_eq_getElem hj))
end
theorem Qc.of{P:Program}{f:FuncId}{args:List AV}{H:Qf}{N:Nat}{Q Q':AV→Qf→Nat→Prop}{fn:Func}{body:Code}(h1:P.funcs[f]?=some fn)(h2:(fn.name=="runtime.NumGoroutine")=false)(h3:fn.body=some body)(h:Qv P f args H N Q)(hq:∀r H' N',Q r H' N'→Q' r H' N'):Qc P f args H N Q' :=
 ⟨⟨fn,body,h1,h2,h3⟩,h.mono hq⟩
def Yc(P:Program)(e:TypeId)(H:Qf)(lo hi:Nat)(x:AV)(es:List (List AV)):Prop :=
 (x=.v (.slice none 0 0)∧es=[])∨∃id cap,lo≤id∧id<hi∧x=.ref id (P.cellsOf e) 0 es.length none∧H id=some ⟨e,P.cellsOf e,es,false,cap⟩
theorem Yc.nil(P:Program)(e:TypeId)(H:Qf)(lo hi:Nat):Yc P e H lo hi (.v (.slice none 0 0)) []:=.inl ⟨rfl,rfl⟩
theorem Yc.push{P:Program}{e t:TypeId}{H:Qf}{lo N sz:Nat}{x:AV}{es:List (List AV)}{c:List AV}(h:Yc P e H lo N x es)(hlo:lo≤N)(hu:P.underlying t=some (.slice e))(ht:ZQ P e=true)(hz:zlen P e=true)(hsz:P.cellsOf e=sz)(hpos:0<sz)
  (hc:c.length=sz) (h1:c.all AV.one=true) (hb:(es.length+1)*P.bytesOf e≤140737488355328) (hm:es.length+1≤maxLen) (hes:∀q∈es,q.length=sz) :
  ∃r H2 N2,(∀n env,aappend P ⟨n,env,Qf.set H N ⟨e,sz,[c],false,some 1⟩,N+1⟩ t x (.ref N sz 0 1 none)=some (r,⟨n,env,H2,N2⟩))∧Yc P e H2 lo N2 r (es++[c])∧(∀id,id<lo→H2 id=H id)∧N<N2:=by
 have hel:QA (Qf.set H N ⟨e,sz,[c],false,some 1⟩) (.ref N sz 0 1 none)=some [c]:=by simp[QA,Qf.set]
 have hok:ZQ P e=true∧zlen P e=true∧0<P.cellsOf e∧Zp (P.cellsOf e) [c]=true∧Zb [c]=true:=⟨ht,hz,by omega,by simp[Zp,hc,hsz],by simpa[Zb]using h1⟩;rcases h with⟨rfl,rfl⟩|⟨id,cap,q1,q2,rfl,q3⟩
 ·refine⟨.ref (N+1) sz 0 1 none,Qf.set (Qf.set H N ⟨e,sz,[c],false,some 1⟩) (N+1) ⟨e,sz,[c],false,none⟩,N+2,fun n env=>?_,.inr ⟨N+1,none,by omega,by omega,by simp[hsz],by simp[Qf.set,hsz]⟩,fun id hid=>by simp[Qf.set,show id≠N+1 by omega,show id≠N by omega],by omega⟩;unfold aappend;simp only[hu,hel];rw[if_pos hok];simp only[List.length_singleton];rw[if_pos (by simpa using And.intro hb hm)];simp[Qs,hsz]
 ·have hne:id≠N:=by omega
  refine⟨.ref (N+1) sz 0 (es.length+1) none,Qf.set (Qf.kill (Qf.set H N ⟨e,sz,[c],false,some 1⟩) id) (N+1) ⟨e,sz,es++[c],false,none⟩,N+2,fun n env=>?_,.inr ⟨N+1,none,by omega,by omega,by simp[hsz],by simp[Qf.set,hsz]⟩,fun i hi=>by simp[Qf.set,Qf.kill,show i≠N+1 by omega,show i≠N by omega,show i≠id by omega],by omega⟩;unfold aappend;simp only[hu,hel];rw[if_pos hok];have hid:(Qf.set H N ⟨e,sz,[c],false,some 1⟩) id=some ⟨e,P.cellsOf e,es,false,cap⟩:=by simp[Qf.set,hne,q3]
  simp only[hid,List.length_singleton];rw[if_pos ⟨trivial,trivial,trivial,Nat.le_refl _,by simpa using hb,hm⟩];simp[Qs,hsz]
theorem Yc.frz{P:Program}{e:TypeId}{H:Qf}{lo hi:Nat}{x:AV}{es:List (List AV)}(h:Yc P e H lo hi x es){F G:Nat→Prop}(hF:∀id,lo≤id→id<hi→F id)(hv:∀q∈es,∀c∈q,Frz H F G c c):Frz H F G x (.ro es):=by
 rcases h with h|⟨id,cap,q1,q2,rfl,q3⟩
 ·obtain⟨rfl,rfl⟩:=h;exact .nil
 ·have:=Frz.KB (F:=F) (G:=G) (id:=id) (sz:=P.cellsOf e) (off:=0) (len:=es.length) (mx:=none) (hF id q1 q2) q3 rfl (by simp) (by simpa using hv);simpa using this
theorem Xt{P:Program}{t e:TypeId}{es:List (List AV)}{lo hi:Option AV}{l h:Nat}(hu:P.underlying t=some (.slice e))(ht:ZQ P e=true)(hs:∀c∈es,c.length=P.cellsOf e)(hb:abounds es.length lo hi=some (l,h)) :
  aslice P t (.ro es) lo hi=some (.ro ((es.take h).drop l)):=by
 simp only[aslice,hu,ht,if_true,hb];rw[if_pos hs]
theorem V5{n h:Nat}{k:IntKind}{i:Int}(hi:i=h)(hh:h≤n):abounds n none (some (.v (.int k i)))=some (0,h):=by subst hi;simp only[abounds,idx];rw[if_pos (by omega)];simp
def St.up(st:St)(d:Nat)(u:AV):St:={ st with env:=upd st.env d u }
def WV(d:Nat)(x:Operand):Bool:=match x with|.tmp t=>t !=d|_=>true
def blind(o:Op)(d:Nat):Bool:=o.operands.all (WV d)
theorem ZV{st:St}{d:Nat}{u:AV}{x:Operand}(h:WV d x=true):ev (st.up d u) x=ev st x:=by
 cases x with
 | tmp t =>
  have:t≠d:=by simpa[WV]using h
  simp[ev,St.up,upd,this]
 | _=>rfl
theorem Vw{st:St}{d:Nat}{u:AV}{xs:List Operand}(h:∀x∈xs,WV d x=true):xs.map (ev (st.up d u))=xs.map (ev st) :=
 List.map_congr_left fun x hx=>ZV (h x hx)
section
variable{P:Program}{st:St}{d:Nat}{u:AV}
theorem Vq{o:Op}(h:blind o d=true):∀x∈o.operands.toList,WV d x=true:=by intro x hx;unfold blind at h;exact Array.all_eq_true'.1 h x (by simpa using hx)
theorem qcf{o:Oper}(h:blind o.op d=true):avalue P (st.up d u) o=avalue P st o:=by
 have hm:=Vq h;obtain⟨dst,op,ty,pos,aft,grd⟩:=o;simp only at h hm;have hH:(st.up d u).H=st.H:=rfl;cases op<;>simp only[Op.operands]at hm<;>try rfl
 case move x=>simp only[avalue];rw[ZV (hm x (by simp))]
 case assign x=>simp only[avalue];rw[ZV (hm x (by simp))]
 case pick a b c=>simp only[avalue];rw[ZV (hm a (by simp)),ZV (hm b (by simp)),ZV (hm c (by simp))]
 case nilCheck x=>simp only[avalue];rw[ZV (hm x (by simp))]
 case binOp op t x y yt=>simp only[avalue];rw[ZV (hm x (by simp)),ZV (hm y (by simp))]
 case unOp op t x=>simp only[avalue];rw[ZV (hm x (by simp))]
 case convert s t x=>simp only[avalue];rw[ZV (hm x (by simp))]
 case makeFunc f fs cs=>simp only[avalue];rw[Vw (fun x hx=>hm x (by simp;exact .inl (by simpa using hx))),Vw (fun x hx=>hm x (by simp;exact .inr (by simpa using hx)))]
 case field t x f=>simp only[avalue];rw[ZV (hm x (by simp))]
 case extract x i=>simp only[avalue];rw[ZV (hm x (by simp))]
 case index t x i=>simp only[avalue];rw[ZV (hm x (by simp)),ZV (hm i (by simp))]
 case indexAddr t x i=>simp only[avalue];rw[ZV (hm x (by simp)),ZV (hm i (by simp))];rfl
 case fieldAddr t x f=>simp only[avalue];rw[ZV (hm x (by simp))]
 case load t x=>simp only[avalue];rw[ZV (hm x (by simp))];rfl
 case slice t x lo hi mx =>
  cases mx with
  | some m=>rfl
  | none =>
   simp only[avalue];rw[ZV (hm x (by simp))];cases lo<;>cases hi<;>simp only[Option.map_some,Option.map_none]
   ·rename_i y;rw[ZV (hm y (by simp))]
   ·rename_i y;rw[ZV (hm y (by simp))]
   ·rename_i y z;rw[ZV (hm y (by simp)),ZV (hm z (by simp))]
 case build t parts =>simp only[avalue];congr 1;refine List.map_congr_left fun p hp=>?_;obtain⟨i,x⟩:=p;simp only;rw[ZV (hm x (by simp;exact⟨i,by simpa using hp⟩))]
 case call c =>simp only[avalue];cases hc:c.callee<;>simp only[];rename_i b;rw[Vw (fun x hx=>hm x (by simp only[Call.operands,hc];simpa using hx))]
theorem qfR{t:TypeId}{s x:AV}:aappend P (st.up d u) t s x=(aappend P st t s x).map fun((v,s'):AV×St)=>(v,s'.up d u):=by
 unfold aappend;simp only[show(st.up d u).H=st.H from rfl,show(st.up d u).N=st.N from rfl];cases P.underlying t with
 | none=>rfl
 | some D =>
  cases D<;>try rfl
  rename_i e;simp only[];cases QA st.H x with
  | none=>rfl
  | some news =>
   cases news with
   | nil=>simp only[];split<;>rfl
   | cons q news =>
    simp only[];split
    ·split
     ·split<;>rfl
     ·rename_i id sz n;cases st.H id with
      | none=>rfl
      | some b=>simp only[];split<;>rfl
     ·rfl
    ·rfl
theorem qkC{o:Oper}(h:blind o.op d=true):astep P (st.up d u) o=(astep P st o).map fun(v,s)=>(v,s.up d u):=by
 have hm:=Vq h;have hv:=qcf (P:=P) (st:=st) (u:=u) h;have hval:(match avalue P (st.up d u) o with|some v=>some (v,st.up d u)|none=>none)=(match avalue P st o with|some v=>some (v,st)|none=>none).map fun((v,s):AV×St)=>(v,s.up d u):=by rw[hv];cases avalue P st o<;>rfl
 obtain⟨dst,op,ty,pos,aft,grd⟩:=o;simp only at h hm;cases op<;>simp only[Op.operands]at hm<;>(try exact hval);case alloc t =>
  simp only[astep];cases azero P t with
  | none=>rfl
  | some cs=>simp only[aptr];split<;>rfl
 case box t x=>simp only[astep];rw[ZV (hm x (by simp))];simp only[aptr];split<;>rfl
 case buildSlice t len parts =>
  simp only[astep];have:(parts.toList.map fun(i,x)=>(i,ev (st.up d u) x))=parts.toList.map fun(i,x)=>(i,ev st x):=List.map_congr_left fun p hp=>by obtain⟨i,x⟩:=p;simp only;rw[ZV (hm x (by simp;exact⟨i,by simpa using hp⟩))]
  rw[this];cases Qz P t len (parts.toList.map fun(i,x)=>(i,ev st x))<;>rfl
 case makeSlice t l c =>simp only[astep];rw[ZV (hm l (by simp)),ZV (hm c (by simp))];cases amake P t (ev st l) (ev st c)<;>rfl
 case call c =>
  simp only[astep];cases hc:c.callee with
  | builtin b =>
   cases b with
   | append =>
    simp only[];split
    ·rename_i s x t t' ha hat;have hx:∀y∈c.args.toList,WV d y=true:=fun y hy=>hm y (by simp only[Call.operands,hc];simpa using hy);rw[ZV (hx s (by rw[ha];simp)),ZV (hx x (by rw[ha];simp))];split
     ·exact qfR
     ·rfl
    ·rfl
   | _=>exact hval
  | _=>exact hval
theorem qhE{t:TypeId}{p x:AV}:astore P (st.up d u) t p x=(astore P st t p x).map fun s=>s.up d u:=by
 unfold astore;simp only[show(st.up d u).H=st.H from rfl];split
 ·rename_i id sz i off;cases st.H id with
  | none=>rfl
  | some b =>
   simp only[];split
   ·cases b.es[i]?<;>rfl
   ·rfl
 ·rfl
theorem qbW{env:Nat→AV}{d d':Nat}{u x:AV}(h:d'≠d):upd (upd env d u) d' x=upd (upd env d' x) d u:=by
 funext i;unfold upd;by_cases h1:i=d'
 ·subst h1;simp[h]
 ·simp[h1]
theorem K0{dst:Option Tmp}{x:AV}{K:St→Prop}(hd:dst≠some d):Z7 (st.up d u) dst x K↔Z7 st dst x fun s=>K (s.up d u):=by
 cases dst with
 | none=>exact Iff.rfl
 | some d' =>
  have hne:d'≠d:=fun e=>hd (by rw[e]);rw[Z1,Z1];have:({ (st.up d u)with env:=upd (st.up d u).env d' x }:St)=({ st with env:=upd st.env d' x }:St).up d u:=by simp only[St.up];rw[qbW hne]
  rw[this];exact Iff.rfl
theorem Qc.mono{f:FuncId}{args:List AV}{H:Qf}{N:Nat}{Q Q':AV→Qf→Nat→Prop}(h:Qc P f args H N Q)(hq:∀r H' N',Q r H' N'→Q' r H' N'):Qc P f args H N Q':=⟨h.1,h.2.mono hq⟩
theorem qj3{o:Oper}{K:St→Prop}(h:blind o.op d=true)(hd:o.dst≠some d):qac P (st.up d u) o K↔qac P st o fun s=>K (s.up d u):=by
 have hm:=Vq h;have hs:=qkC (P:=P) (st:=st) (u:=u) h;have hst:(match astep P (st.up d u) o with|some (v,st1)=>Z7 st1 o.dst v K|none=>False)↔(match astep P st o with|some (v,st1)=>Z7 st1 o.dst v fun s=>K (s.up d u)|none=>False):=by
  rw[hs];cases astep P st o with
  | none=>exact Iff.rfl
  | some r=>obtain⟨v,st1⟩:=r;exact K0 hd
 obtain⟨dst,op,ty,pos,aft,grd⟩:=o;simp only at h hm hd;cases op<;>simp only[Op.operands]at hm<;>(try exact hst);case store t p x =>
  simp only[qac];rw[ZV (hm p (by simp)),ZV (hm x (by simp)),qhE];cases astore P st t (ev st p) (ev st x)with
  | none=>exact Iff.rfl
  | some s1=>exact K0 hd
 case call c =>
  simp only[qac];cases hc:c.callee with
  | builtin b=>simp only at hst⊢;exact hst
  | invoke r nm=>simp only at hst⊢;exact hst
  | value x =>
   simp only[];have hx:WV d x=true:=hm x (by simp only[Call.operands,hc];simp);have hargs:∀y∈c.args.toList,WV d y=true:=fun y hy=>hm y (by simp only[Call.operands,hc];simp;exact .inr (by simpa using hy));rw[ZV hx,Vw hargs];split
   ·constructor
    ·exact fun hce=>hce.mono fun r H' N' hq=>(K0 (st:={ st with H:=H',N:=N' }) hd).1 hq
    ·exact fun hce=>hce.mono fun r H' N' hq=>(K0 (st:={ st with H:=H',N:=N' }) hd).2 hq
   ·exact Iff.rfl
end
def flo:Op→Bool
 | .move _|.assign _|.pick ..|.nilCheck _|.binOp ..|.unOp ..|.convert ..|.makeFunc ..|.field ..|.extract ..|.build ..|.index ..|.indexAddr ..|.fieldAddr ..|.slice ..=>true
 | .call c=>match c.callee with|.builtin .len|.builtin .min|.builtin .max=>true|_=>false
 | _=>false
def val(o:Op):Bool:=flo o||(match o with|.load ..=>true|_=>false)
def YM(p o:Op):Bool:=flo p||(val p&&val o)
def St.mem(st:St)(H:Qf)(N:Nat):St:={ st with H:=H,N:=N }
section
variable{P:Program}{ops:Array Oper}{st:St}{o p:Oper}{Q:St→Prop}
theorem qf2(h:flo o.op=true)(H:Qf)(N:Nat):avalue P (st.mem H N) o=avalue P st o:=by
 obtain⟨dst,op,ty,pos,aft,grd⟩:=o;simp only at h;cases op<;>simp only[flo]at h<;>(try cases h)<;>try rfl
 all_goals (rename_i mx;cases mx<;>rfl)
theorem qhC(h:val o.op=true):astep P st o=(match avalue P st o with|some u=>some (u,st)|none=>none):=by
 obtain⟨dst,op,ty,pos,aft,grd⟩:=o;simp only at h;cases op<;>simp only[val,flo,Bool.or_false,Bool.or_self]at h<;>(try cases h)<;>try rfl
 case call c =>
  simp only[astep];revert h;cases hc:c.callee with
  | builtin b=>intro h;cases b<;>(first|rfl|cases h)
  | _=>intro h;cases h
theorem qfO(h:val o.op=true)(K:St→Prop):qac P st o K=(match avalue P st o with|some u=>Z7 st o.dst u K|none=>False):=by
 have hs:=qhC (P:=P) (st:=st) h;have:qac P st o K=(match astep P st o with|some (u,st1)=>Z7 st1 o.dst u K|none=>False):=by
  obtain⟨dst,op,ty,pos,aft,grd⟩:=o;simp only at h;cases op<;>simp only[val,flo,Bool.or_false,Bool.or_self]at h<;>(try cases h)<;>try rfl
  case call c =>simp only[qac];cases hc:c.callee<;>simp only[hc]at h⊢;all_goals (first|rfl|cases h)
 rw[this,hs];cases avalue P st o<;>rfl
theorem qdA{t:TypeId}{s x u:AV}{st1:St}(h:aappend P st t s x=some (u,st1)):∃H N,st1=st.mem H N:=by
 unfold aappend at h;split at h
 ·split at h
  ·split at h
   ·simp only[Option.some.injEq,Prod.mk.injEq]at h;obtain⟨_,rfl⟩:=h;exact⟨_,_,rfl⟩
   ·cases h
  ·split at h
   ·split at h
    ·split at h
     ·simp only[Option.some.injEq,Prod.mk.injEq]at h;obtain⟨_,rfl⟩:=h;exact⟨_,_,rfl⟩
     ·cases h
    ·split at h
     ·split at h
      ·simp only[Option.some.injEq,Prod.mk.injEq]at h;obtain⟨_,rfl⟩:=h;exact⟨_,_,rfl⟩
      ·cases h
     ·cases h
    ·cases h
   ·cases h
  ·cases h
 ·cases h
theorem qhD{u:AV}{st1:St}(h:astep P st o=some (u,st1)):∃H N,st1=st.mem H N:=by
 have hval:(match avalue P st o with|some u=>some (u,st)|none=>none)=some (u,st1)→∃H N,st1=st.mem H N:=fun h=>by
  split at h
  ·simp only[Option.some.injEq,Prod.mk.injEq]at h;obtain⟨_,rfl⟩:=h;exact⟨st.H,st.N,rfl⟩
  ·cases h
 have hptr:∀t cs,aptr P st t cs=some (u,st1)→∃H N,st1=st.mem H N:=fun t cs h=>by
  unfold aptr at h;split at h
  ·simp only[Option.some.injEq,Prod.mk.injEq]at h;obtain⟨_,rfl⟩:=h;exact⟨_,_,rfl⟩
  ·cases h
 unfold astep at h;split at h
 ·split at h
  ·exact hptr _ _ h
  ·cases h
 ·exact hptr _ _ h
 ·split at h
  ·simp only[Option.some.injEq,Prod.mk.injEq]at h;obtain⟨_,rfl⟩:=h;exact⟨_,_,rfl⟩
  ·cases h
 ·split at h
  ·simp only[Option.some.injEq,Prod.mk.injEq]at h;obtain⟨_,rfl⟩:=h;exact⟨_,_,rfl⟩
  ·cases h
 ·split at h
  ·split at h
   ·split at h
    ·exact qdA h
    ·cases h
   ·cases h
  ·exact hval h
 ·exact hval h
theorem qf1{t:TypeId}{x y:AV}{st1:St}(h:astore P st t x y=some st1):∃H N,st1=st.mem H N:=by
 unfold astore at h;split at h
 ·split at h
  ·split at h
   ·split at h
    ·injection h with h;subst h;exact⟨_,_,rfl⟩
    ·cases h
   ·cases h
  ·cases h
 ·cases h
theorem qad{K K':St→Prop}(h:qac P st p K)(hk0:∀H N s x,(val p.op=true→H=st.H∧N=st.N)→(st.mem H N).put p.dst x=some s→K s→K' s):qac P st p K':=by
 by_cases hv:val p.op=true
 ·rw[qfO hv]at h⊢;split at h
  ·rename_i u hu;obtain⟨s,hs,hK⟩:=ZG h;unfold Z7;rw[hs];exact hk0 st.H st.N s u (fun _=>⟨rfl,rfl⟩) hs hK
  ·cases h
 have hk:∀H N s x,(st.mem H N).put p.dst x=some s→K s→K' s:=fun H N s x=>hk0 H N s x (fun h'=>absurd h' hv);have hput:∀H N x,Z7 (st.mem H N) p.dst x K→Z7 (st.mem H N) p.dst x K':=fun H N x hp=>by obtain⟨s,hs,hK⟩:=ZG hp;unfold Z7;rw[hs];exact hk H N s x hs hK
 have hst:(match astep P st p with|some (u,st1)=>Z7 st1 p.dst u K|none=>False)→(match astep P st p with|some (u,st1)=>Z7 st1 p.dst u K'|none=>False):=fun h=>by
  split at h
  ·rename_i u st1 hs;obtain⟨H,N,rfl⟩:∃H N,st1=st.mem H N:=qhD hs;exact hput H N u h
  ·cases h
 obtain⟨dst,op,ty,pos,aft,grd⟩:=p;cases op<;>(try exact hst h);case store t x y =>
  simp only[qac]at h⊢;split at h
  ·rename_i st1 hs;obtain⟨H,N,rfl⟩:=qf1 hs;exact hput H N _ h
  ·cases h
 case call c =>
  simp only[qac]at h hst⊢;revert h hst;cases hc:c.callee with
  | builtin b=>intro h hst;exact hst h
  | invoke r nm=>intro h hst;exact hst h
  | value x =>
   intro h _;simp only[]at h⊢;split at h
   ·exact h.mono fun r H' N' hq=>hput H' N' r hq
   ·cases h
def gdst(ops:Array Oper)(o:Oper):Option Tmp:=match o.guard with|none=>none|some (j,_)=>(ops[j]?).bind (·.dst)
def YJ(ops:Array Oper)(o:Oper)(d:Nat):Bool:=blind o.op d&&(gdst ops o !=some d)
theorem V2{d:Nat}{u:AV}(h:gdst ops o≠some d):wanted (st.up d u) ops o=wanted st ops o:=by
 unfold wanted;unfold gdst at h;split
 ·rfl
 ·rename_i j want hg;rw[hg]at h;simp only at h;split
  ·rfl
  ·rename_i d' hd;have hne:d'≠d:=fun e=>h (by rw[hd,e]);have:(st.up d u).env d'=st.env d':=by simp[St.up,upd,hne]
   rw[this];rfl
theorem qhd(H:Qf)(N:Nat):wanted (st.mem H N) ops o=wanted st ops o:=rfl
def fval(P:Program)(ops:Array Oper)(st:St)(o:Oper):Option AV:=match wanted st ops o with|some true=>avalue P st o|some false=>some (.v undef)|none=>none
theorem qos{d:Nat}{u:AV}(h:YJ ops o d=true):fval P ops (st.up d u) o=fval P ops st o:=by simp only[YJ,Bool.and_eq_true,bne_iff_ne,ne_eq]at h;unfold fval;rw[V2 h.2,qcf h.1]
theorem qlp(hf:flo o.op=true)(H:Qf)(N:Nat):fval P ops (st.mem H N) o=fval P ops st o:=by unfold fval;rw[qhd,qf2 hf]
theorem KJ{d:Nat}(hf:val o.op=true)(hd:o.dst=some d)(l:List Oper):QC P ops (o::l) Q st=(match fval P ops st o with|some u=>if d<st.n then QC P ops l Q (st.up d u)else False|none=>False):=by
 rw[YI];unfold fval;rcases wanted st ops o with _|_|_
 ·rfl
 ·simp only[Bool.false_eq_true,false_implies,true_and,forall_const,hd];rw[Z1];rfl
 ·simp only[forall_const,Bool.true_eq_false,false_implies,and_true];rw[qfO hf,hd];cases avalue P st o with
  | none=>rfl
  | some u=>simp only[];rw[Z1];rfl
theorem qlS{dst:Option Tmp}{x:AV}{s:St}(h:st.put dst x=some s):s.n=st.n∧(s=st∨∃d,dst=some d∧s=st.up d x):=by
 cases dst with
 | none=>simp[St.put]at h;subst h;exact⟨rfl,.inl rfl⟩
 | some d =>
  simp only[St.put]at h;split at h
  ·injection h with h;subst h;exact⟨rfl,.inr ⟨d,rfl,rfl⟩⟩
  ·cases h
theorem Vy{H:Qf}{N:Nat}{x:AV}{s:St}(hf:YM o.op p.op=true)(hm:val p.op=true→H=st.H∧N=st.N)(hb:∀d,p.dst=some d→YJ ops o d=true)(h:(st.mem H N).put p.dst x=some s):fval P ops s o=fval P ops st o∧s.n=st.n:=by
 obtain⟨h1,h2⟩:=qlS h;refine⟨?_,h1⟩;have hme:fval P ops (st.mem H N) o=fval P ops st o:=by
  simp only[YM,Bool.or_eq_true,Bool.and_eq_true]at hf;rcases hf with hf|⟨_,hf⟩
  ·exact qlp hf H N
  ·obtain⟨rfl,rfl⟩:=hm hf;rfl
 rcases h2 with rfl|⟨d,hd,rfl⟩
 ·exact hme
 ·rw[qos (hb d hd),hme]
theorem qjM{d:Nat}{rest:List Oper}(hf:val p.op=true)(hkp:YM p.op o.op=true)(hd:p.dst=some d)(hb:YJ ops o d=true)(hne:o.dst≠some d)(hp:∀d',o.dst=some d'→YJ ops p d'=true)(h:QC P ops (p::o::rest) Q st):QC P ops (o::p::rest) Q st:=by
 rw[KJ hf hd]at h;split at h
 ·rename_i u hu;split at h
  ·rename_i hdn;rw[YI]at h⊢;simp only[YJ,Bool.and_eq_true,bne_iff_ne,ne_eq]at hb;rw[V2 hb.2]at h;have hK:∀H N s x,(val o.op=true→H=st.H∧N=st.N)→(st.mem H N).put o.dst x=some s→QC P ops rest Q (s.up d u)→QC P ops (p::rest) Q s:=fun H N s x hm hs hq=>by obtain⟨e1,e2⟩:=Vy (P:=P) (ops:=ops) (o:=p) (p:=o) hkp hm hp hs;rw[KJ hf hd,e1,hu];simp only[e2,hdn,if_true];exact hq
   rcases hw:wanted st ops o with _|b
   ·rw[hw]at h;exact h
   ·rw[hw]at h;refine⟨fun hbt=>qad ((qj3 hb.1 hne).1 (h.1 hbt)) hK,fun hbf=>?_⟩;have h2:=(K0 hne).1 (h.2 hbf);obtain⟨s,hs,hq⟩:=ZG h2;unfold Z7;rw[hs];exact hK st.H st.N s _ (fun _=>⟨rfl,rfl⟩) hs hq
  ·cases h
 ·cases h
theorem qgZ{d:Nat}{v:AV}{rest:List Oper}(hf:val o.op=true)(hkp:YM o.op p.op=true)(hd:o.dst=some d)(hv:fval P ops st o=some v)(hdn:d<st.n)(hb:YJ ops p d=true)(hne:p.dst≠some d)(hp:∀d',p.dst=some d'→YJ ops o d'=true)(h:QC P ops (p::o::rest) Q st):QC P ops (o::p::rest) Q st:=by
 rw[KJ hf hd,hv];simp only[hdn,if_true];simp only[YJ,Bool.and_eq_true,bne_iff_ne,ne_eq]at hb;rw[YI]at h⊢;rw[V2 hb.2];have hK:∀H N s x,(val p.op=true→H=st.H∧N=st.N)→(st.mem H N).put p.dst x=some s→QC P ops (o::rest) Q s→QC P ops rest Q (s.up d v):=fun H N s x hm hs hq=>by obtain⟨e1,e2⟩:=Vy (P:=P) (ops:=ops) (o:=o) (p:=p) hkp hm hp hs;rw[KJ hf hd,e1,hv]at hq;simp only[e2,hdn,if_true]at hq;exact hq
 rcases hw:wanted st ops p with _|b
 ·rw[hw]at h;exact h
 ·rw[hw]at h;refine⟨fun hbt=>(qj3 hb.1 hne).2 (qad (h.1 hbt) hK),fun hbf=>?_⟩;obtain⟨s,hs,hq⟩:=ZG (h.2 hbf);refine(K0 hne).2 ?_;unfold Z7;rw[hs];exact hK st.H st.N s _ (fun _=>⟨rfl,rfl⟩) hs hq
end
section
variable{P:Program}{ops:Array Oper}{st:St}{o p:Oper}{Q:St→Prop}
theorem WD{l l':List Oper}{Q':St→Prop}(hk:∀H N s x,(val p.op=true→H=st.H∧N=st.N)→(st.mem H N).put p.dst x=some s→QC P ops l Q s→QC P ops l' Q' s)(h:QC P ops (p::l) Q st):QC P ops (p::l') Q' st:=by
 rw[YI]at h⊢;rcases hw:wanted st ops p with _|b
 ·rw[hw]at h;exact h
 ·rw[hw]at h;refine⟨fun hb=>qad (h.1 hb) hk,fun hb=>?_⟩;obtain⟨s,hs,hq⟩:=ZG (h.2 hb);unfold Z7;rw[hs];exact hk st.H st.N s _ (fun _=>⟨rfl,rfl⟩) hs hq
def Ys(ops:Array Oper)(p o:Oper):Bool :=
 (match p.dst with|some d=>YJ ops o d&&(o.dst !=some d)|none=>true)&&(match o.dst with|some d=>YJ ops p d&&(p.dst !=some d)|none=>true)
theorem Yd(h:Ys ops p o=true):(∀d,p.dst=some d→YJ ops o d=true∧o.dst≠some d)∧(∀d,o.dst=some d→YJ ops p d=true∧p.dst≠some d):=by
 simp only[Ys,Bool.and_eq_true]at h;refine⟨fun d hd=>?_,fun d hd=>?_⟩
 ·have:=h.1;rw[hd]at this;simpa using this
 ·have:=h.2;rw[hd]at this;simpa using this
theorem qip{d:Nat}{v:AV}(hf:val o.op=true)(hd:o.dst=some d):∀(pre post:List Oper) (st:St),(∀p∈pre,Ys ops p o=true∧YM o.op p.op=true)→fval P ops st o=some v→d<st.n→QC P ops (pre++o::post) Q st→QC P ops (o::(pre++post)) Q st:=by
 intro pre;induction pre with
 | nil=>intro post st _ _ _ h;exact h
 | cons p pre ih =>intro post st ha hv hdn h;obtain⟨a1,a2⟩:=Yd (ha p (by simp)).1;refine qgZ (rest:=pre++post) hf (ha p (by simp)).2 hd hv hdn (a2 d hd).1 (a2 d hd).2 (fun d' h'=>(a1 d' h').1) (WD (fun H N s x hm hs hq=>?_) h);obtain⟨e1,e2⟩:=Vy (P:=P) (ops:=ops) (o:=o) (p:=p) (ha p (by simp)).2 hm (fun d' h'=>(a1 d' h').1) hs;exact ih post s (fun q hq=>ha q (by simp[hq])) (by rw[e1];exact hv) (by rw[e2];exact hdn) hq
theorem qkF:∀(pre post:List Oper) (st:St),(∀p∈pre,Ys ops p o=true∧(val p.op=true∧YM p.op o.op=true)∧p.dst.isSome)→QC P ops (pre++o::post) Q st→QC P ops (o::(pre++post)) Q st:=by
 intro pre;induction pre with
 | nil=>intro post st _ h;exact h
 | cons p pre ih =>intro post st ha h;obtain⟨ap,fp,dp⟩:=ha p (by simp);obtain⟨a1,a2⟩:=Yd ap;obtain⟨d,hd⟩:=Option.isSome_iff_exists.1 dp;exact qjM (rest:=pre++post) fp.1 fp.2 hd (a1 d hd).1 (a1 d hd).2 (fun d' h'=>(a2 d' h').1) (WD (fun H N s x _ hs hq=>ih post s (fun q hq=>ha q (by simp[hq])) hq) h)
theorem qar:∀(l:List Oper) (a:Act) (w:World),¬wpListIn (FW none) 3 P ops (fun _ _ _=>False) l a w:=by
 intro l;induction l with
 | nil=>intro a w h;exact h
 | cons o l ih =>
  intro a w h;unfold wpListIn at h;split at h
  ·unfold Oper.wpIn at h;have h:=h.2;generalize (o.semAt (FW none).round a.eval).run P w=r at h;cases r with
   | ok n w' =>
    cases n<;>simp only[Oper.uponIn]at h<;>(try exact h)
    ·exact ih _ _ h
    ·exact ih _ _ h
    ·obtain⟨e,w2,fr,hR,_⟩:=h.2.2 [] (qaW _ _);cases e with
     | returned v=>exact ih _ _ hR
     | panicked c=>exact hR
     | outgrown=>obtain⟨_,_,h'⟩:=hR;exact h'
    ·obtain⟨e,w2,hR,_⟩:=h.2.2 default [] (qaW _ _);cases e with
     | returned v=>exact ih _ _ hR
     | panicked c=>exact hR
     | outgrown=>obtain⟨_,_,h'⟩:=hR;exact h'
    ·exact ih _ _ h
    ·obtain⟨v,w2,hR,_⟩:=h.2 default [] (qaW _ _);exact ih _ _ hR
   | halt x w'=>cases x<;>simp only[Oper.uponIn]at h
  ·exact ih _ _ h.2
theorem qg7{d:Nat}(hf:val o.op=true)(hd:o.dst=some d)(Q':St→Prop):∀(pre post:List Oper) (st:St),(∀p∈pre,Ys ops p o=true∧YM o.op p.op=true)→(∀v,fval P ops st o=some v→¬d<st.n)→QC P ops (pre++o::post) Q st→QC P ops pre Q' st:=by
 intro pre;induction pre with
 | nil =>
  intro post st _ hn h;simp only[List.nil_append]at h;rw[KJ hf hd]at h;split at h
  ·rename_i u hu;split at h
   ·rename_i hlt;exact absurd hlt (hn u hu)
   ·cases h
  ·cases h
 | cons p pre ih =>intro post st ha hn h;obtain⟨a1,a2⟩:=Yd (ha p (by simp)).1;refine WD (fun H N s x hm hs hq=>?_) h;obtain⟨e1,e2⟩:=Vy (P:=P) (ops:=ops) (o:=o) (p:=p) (ha p (by simp)).2 hm (fun d' h'=>(a1 d' h').1) hs;exact ih post s (fun q hq=>ha q (by simp[hq])) (fun v hv=>by rw[e1]at hv;rw[e2];exact hn v hv) hq
theorem qir{E:Env}{B:Nat}{w0:World}{a:Act}{w:World}{d:Nat}(hr:Rel E B w0 st a w)(hf:val o.op=true)(hd:o.dst=some d){pre post:List Oper}(ha:∀p∈pre,Ys ops p o=true∧YM o.op p.op=true)(h:QC P ops (pre++o::post) Q st):∃v,fval P ops st o=some v∧d<st.n:=by
 rcases Classical.em (∃v,fval P ops st o=some v∧d<st.n)with h'|h'
 ·exact h'
 ·have:=qg7 hf hd (fun _=>False) pre post st ha (fun v hv hlt=>h' ⟨v,hv,hlt⟩) h;exact absurd (Z0 pre st _ this none E B w0 a w hr (fun _ _ _=>False) (fun a' w' ⟨_,_,_,_,_,hq⟩=>hq)) (qar _ _ _)
theorem qpU{ρ:Option Nat}{E:Env}{B:Nat}{w0:World}{a:Act}{w:World}{i:Nat}{l:List Oper}(hr:Rel E B w0 st a w)(hi:ops[i]?=some o)(h:QC P ops (o::l) Q st){R:Exit→Act→World→Prop}{K:Act→World→Prop}
  (hk:∀E' st' a' w',E.le E'→QD E w w'→Rel E' B w0 st' a' w'→QC P ops l Q st'→K a' w'):wpOpIn (FW ρ) 3 P ops R i K a w:=by
 have h1:QC P ops [o] (QC P ops l Q) st:=h;have h2:=Z0 [o] st _ h1 ρ E B w0 a w hr (fun e a' w'=>match e with|.normal=>K a' w'|_=>False) (fun a' w' ⟨E',st',e1,e2,e3,e4⟩=>hk E' st' a' w' e1 e2 e3 e4);unfold wpOpIn;simp only[hi];unfold wpListIn at h2;split at h2
 ·rename_i hw;rw[if_pos hw];refine⟨h2.1,?_⟩;have h2:=h2.2;have hlet:∀{Q:Exit→Act→World→Prop},LetsOut (fun e a' w'=>match e with|.normal=>K a' w'|_=>False)→LetsOut Q:=fun⟨_,_,h'⟩=>h'.elim;generalize (o.semAt (FW ρ).round a.eval).run P w=r at h2;cases r with
  | ok n w' =>
   cases n<;>simp only[Oper.uponIn]at h2⊢<;>(try exact h2)<;>first
    | exact⟨h2.1,CallsIn.mono h2.2 (fun e w'' he=>by cases e with|returned v=>exact he|panicked c=>exact he.elim|outgrown=>exact hlet he)⟩
    | exact⟨h2.1,RoundIn.mono h2.2 (fun e w'' he=>by cases e with|returned v=>exact he|panicked c=>exact he.elim|outgrown=>exact hlet he)⟩
  | halt x w'=>cases x<;>simp only[Oper.uponIn]at h2⊢<;>exact h2.elim
 ·rename_i hw;rw[if_neg hw];exact h2
def befores(ops:Array Oper):List Oper→List (List Nat)→List (List Nat)
 | [],acc=>acc
 | o::l,acc=>befores ops l (acc++[(o.after.toList.filter (Region.binds .any)).flatMap fun e=>e.on::acc.getD e.on []])
def qne(ops:Array Oper)(bs:List (List Nat))(i j:Nat):Bool :=
 match ops[i]?,ops[j]? with
 | some p,some o=>(bs.getD j []).contains i||(Ys ops p o&&((val p.op&&YM p.op o.op)||(val o.op&&YM o.op p.op))&&(!val p.op||p.dst.isSome)&&(!val o.op||o.dst.isSome))
 | _,_=>false
def qaj(ops:Array Oper)(bs:List (List Nat)):Bool :=
 (List.range ops.size).all fun i=>match ops[i]? with
  | some o=>(bs.getD i []).all (fun j=>o.after.any fun e=>Region.binds .any e&&(e.on==j||(bs.getD e.on []).contains j))&&o.after.all (fun e=>!Region.binds .any e||e.on<i)
  | none=>false
def qbR(ops:Array Oper)(bs:List (List Nat)):Bool :=
 qaj ops bs&&(List.range ops.size).all fun j=>(List.range j).all fun i=>qne ops bs i j
def Yy(ops:Array Oper)(listed:Array Bool):List Nat:=(List.range ops.size).filter fun i=>!listed.getD i true
def opsOf(ops:Array Oper)(is:List Nat):List Oper:=is.filterMap fun i=>ops[i]?
def WG(ops:Array Oper)(bs:List (List Nat))(listed:Array Bool):Prop:=∀i,i<ops.size→listed.getD i true=true→∀j∈bs.getD i [],listed.getD j true=true
theorem Q5{listed:Array Bool}{i:Nat}:i∈Yy ops listed↔i<ops.size∧listed.getD i true=false:=by simp[Yy]
theorem Ww{listed:Array Bool}{i:Nat}(hs:listed.size=ops.size)(h:i∈Yy ops listed):∃pre post,Yy ops listed=pre++i::post∧(∀p∈pre,p<i)∧Yy ops (listed.setIfInBounds i true)=pre++post:=by
 obtain⟨pre,post,he⟩:=List.append_of_mem h;have hp:(Yy ops listed).Pairwise (·<·):=List.Pairwise.filter _ List.pairwise_lt_range;rw[he]at hp;have h1:=List.pairwise_append.1 hp;have hlt:∀p∈pre,p<i:=fun p hq=>h1.2.2 p hq i (by simp);have hgt:∀p∈post,i<p:=fun p hq=>(List.pairwise_cons.1 h1.2.1).1 p hq;refine⟨pre,post,he,hlt,?_⟩;have hi:i<listed.size:=by rw[hs];exact(Q5.1 h).1
 have e1:Yy ops (listed.setIfInBounds i true)=(Yy ops listed).filter (fun j=>j !=i):=by
  unfold Yy;rw[List.filter_filter];refine List.filter_congr fun j hj=>?_;by_cases hji:j=i
  ·subst hji;simp[Array.getD_eq_getD_getElem?,hi]
  ·simp[Array.getD_eq_getD_getElem?,Ne.symm hji,hji]
 rw[e1,he,List.filter_append,List.filter_cons];simp only[bne_self_eq_false,Bool.false_eq_true,if_false];rw[List.filter_eq_self.2 (fun p hq=>by have:=hlt p hq;simp;omega),List.filter_eq_self.2 (fun p hq=>by have:=hgt p hq;simp;omega)]
theorem qk6{bs:List (List Nat)}(hser:qbR ops bs=true):∀(fuel:Nat) (listed:Array Bool) (st:St) (E:Env) (B:Nat) (w0:World) (a:Act) (w:World) (ρ:Option Nat),listed.size=ops.size→WG ops bs listed→(Yy ops listed).length≤fuel→Rel E B w0 st a w →
  QC P ops (opsOf ops (Yy ops listed)) Q st→∀R:Exit→Act→World→Prop,(∀a' w',Ym E B w0 w Q a' w'→R .normal a' w')→wpAnyIn (FW ρ) 3 P .any ops R fuel listed a w:=by
 simp only[qbR,Bool.and_eq_true]at hser;obtain⟨hcert,hpair⟩:=hser;intro fuel;induction fuel with
 | zero =>
  intro listed st E B w0 a w ρ hs hcl hlen hr h R hR;have hnil:Yy ops listed=[]:=List.eq_nil_of_length_eq_zero (by omega);refine⟨?_,?_⟩
  ·unfold Region.ready;refine List.filter_eq_nil_iff.2 fun i hi=>?_;have:i ∉ Yy ops listed:=by rw[hnil];simp
   rw[Q5]at this;have hl:listed.getD i true=true:=by have:=fun h'=>this ⟨by simpa using hi,h'⟩;simpa using this
   simp[hl]
  ·rw[hnil]at h;exact hR a w ⟨E,st,Env.le.refl E,QD.refl E w,hr,h⟩
 | succ fuel ih =>
  intro listed st E B w0 a w ρ hs hcl hlen hr h R hR;have hrd:∀i,i∈Region.ready .any ops listed↔i∈Yy ops listed∧∃o,ops[i]?=some o∧∀e∈o.after.toList,Region.binds .any e=true→listed.getD e.on false=true:=fun i=>by
   unfold Region.ready;rw[List.mem_filter,Q5];cases ho:ops[i]? with
   | none=>simp
   | some o =>
    have hi:i<ops.size:=(Array.getElem?_eq_some_iff.1 ho).1;simp only[List.mem_range,Bool.and_eq_true,Bool.not_eq_true',Option.map_some,Option.getD_some,Option.some.injEq,exists_eq_left',Array.all_eq_true',Bool.or_eq_true];constructor
    ·rintro⟨h1,h2,h3⟩;exact⟨⟨h1,h2⟩,fun e he hb=>by
      have:=h3 e (by simpa using he);rcases this with h'|h'
      ·rw[hb]at h';cases h'
      ·exact h'⟩
    ·rintro⟨⟨h1,h2⟩,h3⟩;exact⟨h1,h2,fun e he=>by
      cases hb:Region.binds .any e with
      | false=>exact .inl rfl
      | true=>exact .inr (h3 e (by simpa using he) hb)⟩
  refine⟨fun hnil=>?_,fun i hi=>?_⟩
  ·have:Yy ops listed=[]:=by
    cases hrem:Yy ops listed with
    | nil=>rfl
    | cons i rest =>
     exfalso;have hir:i∈Yy ops listed:=by rw[hrem];simp
     have hisz:=(Q5.1 hir).1;have hsort:(Yy ops listed).Pairwise (·<·):=List.Pairwise.filter _ List.pairwise_lt_range;rw[hrem]at hsort;have hmin:=(List.pairwise_cons.1 hsort).1;have hin:i∈Region.ready .any ops listed:=(hrd i).2 ⟨hir,ops[i],Array.getElem?_eq_getElem hisz,fun e he hb=>by
      have hc:=List.all_eq_true.1 hcert i (by simpa using hisz);simp only[Array.getElem?_eq_getElem hisz,Bool.and_eq_true]at hc;have hlt:=Array.all_eq_true'.1 hc.2 e (by simpa using he);simp only[hb,Bool.not_true,Bool.false_or,decide_eq_true_eq]at hlt;have hnr:e.on ∉ Yy ops listed:=fun hm=>by
       rw[hrem]at hm;rcases List.mem_cons.1 hm with h'|h'
       ·omega
       ·have:=hmin _ h';omega
      rw[Q5]at hnr;have:listed.getD e.on true=true:=by have:=fun h'=>hnr ⟨by omega,h'⟩;simpa using this
      have hlt2:e.on<listed.size:=by omega
      simpa[Array.getD_eq_getD_getElem?,Array.getElem?_eq_getElem hlt2]using this⟩
     rw[hnil]at hin;simp at hin
   rw[this]at h;exact hR a w ⟨E,st,Env.le.refl E,QD.refl E w,hr,h⟩
  ·obtain⟨hir,o,ho,hdeps⟩:=(hrd i).1 hi;obtain⟨pre,post,he,hlt,he'⟩:=Ww hs hir;have hisz:=(Q5.1 hir).1;have hgetD:∀j,(listed.setIfInBounds i true).getD j true=true↔j=i∨listed.getD j true=true:=fun j=>by
    by_cases hji:j=i
    ·subst hji;simp[Array.getD_eq_getD_getElem?,show j<listed.size by omega]
    ·simp[Array.getD_eq_getD_getElem?,Ne.symm hji,hji]
   have hft:∀j,listed.getD j false=true→j<ops.size∧listed.getD j true=true:=fun j hj=>by
    cases hx:listed[j]? with
    | none=>simp[Array.getD_eq_getD_getElem?,hx]at hj
    | some b =>have:=(Array.getElem?_eq_some_iff.1 hx).1;simp only[Array.getD_eq_getD_getElem?,hx,Option.getD_some]at hj⊢;exact⟨by omega,hj⟩
   have hbs:∀j∈bs.getD i [],listed.getD j true=true:=fun j hj=>by
    have hc:=List.all_eq_true.1 hcert i (by simpa using hisz);simp only[ho,Bool.and_eq_true]at hc;have hc1:=List.all_eq_true.1 hc.1 j hj;obtain⟨e,he,hb⟩:=Array.any_eq_true'.1 hc1;simp only[Bool.and_eq_true,Bool.or_eq_true,beq_iff_eq]at hb;obtain⟨hb1,hb2⟩:=hb;have hl:=hdeps e (by simpa using he) hb1;obtain⟨q1,q2⟩:=hft _ hl;rcases hb2 with hb2|hb2
    ·rw[←hb2];exact q2
    ·exact hcl e.on q1 q2 j (by simpa using hb2)
   have hcl':WG ops bs (listed.setIfInBounds i true):=fun j hj hlj k hk=>by
    rw[hgetD];rcases(hgetD j).1 hlj with rfl|hlj
    ·exact .inr (hbs k hk)
    ·exact .inr (hcl j hj hlj k hk)
   have hpre:∀p∈opsOf ops pre,Ys ops p o=true∧((val p.op=true∧YM p.op o.op=true)∨(val o.op=true∧YM o.op p.op=true))∧(val p.op=true→p.dst.isSome)∧(val o.op=true→o.dst.isSome):=fun p hp=>by
    obtain⟨j,hj,hjp⟩:=List.mem_filterMap.1 hp;have hji:=hlt j hj;have hk:=List.all_eq_true.1 (List.all_eq_true.1 hpair i (by simpa using hisz)) j (by simpa using hji);unfold qne at hk;rw[hjp,ho]at hk;simp only[Bool.or_eq_true,Bool.and_eq_true,Bool.not_eq_true']at hk;rcases hk with hk|⟨⟨⟨k1,k2⟩,k3⟩,k4⟩
    ·exfalso;have hl:=hbs j (by simpa using hk);have hjr:j∈Yy ops listed:=by rw[he];simp[hj]
     have:=(Q5.1 hjr).2;rw[hl]at this;cases this
    ·exact⟨k1,k2,fun hf=>k3.resolve_left (by rw[hf];simp),fun hf=>k4.resolve_left (by rw[hf];simp)⟩
   have hsplit:opsOf ops (Yy ops listed)=opsOf ops pre++o::opsOf ops post:=by rw[he];simp[opsOf,ho]
   rw[hsplit]at h;have hmoved:QC P ops (o::(opsOf ops pre++opsOf ops post)) Q st:=by
    cases hf:flo o.op with
    | false=>exact qkF _ _ _ (fun p hp=>by
      obtain⟨q1,q2,q3,_⟩:=hpre p hp;have hA:val p.op=true∧YM p.op o.op=true:=by
       rcases q2 with q2|⟨v1,v2⟩
       ·exact q2
       ·simp only[YM,hf,Bool.false_or,Bool.and_eq_true]at v2;exact⟨v2.2,by simp[YM,v2.1,v2.2]⟩
      exact⟨q1,hA,q3 hA.1⟩) h
    | true =>
     have hv:val o.op=true:=by simp[val,hf]
     have hkk:∀p∈opsOf ops pre,Ys ops p o=true∧YM o.op p.op=true:=fun p hp=>⟨(hpre p hp).1,by simp[YM,hf]⟩;cases hpn:opsOf ops pre with
     | nil=>rw[hpn]at h;exact h
     | cons p0 ps =>obtain⟨_,_,_,q4⟩:=hpre p0 (by rw[hpn];simp);obtain⟨d,hd⟩:=Option.isSome_iff_exists.1 (q4 hv);rw[←hpn];obtain⟨v,hv',hdn⟩:=qir hr hv hd hkk h;exact qip hv hd _ _ _ hkk hv' hdn h
   refine qpU hr ho hmoved fun E' st' a' w' e1 e2 e3 e4=>?_;refine ih (listed.setIfInBounds i true) st' E' B w0 a' w' ρ (by simpa using hs) hcl' (by rw[he'];rw[he]at hlen;simp at hlen⊢;omega) e3 (by rw[he'];simpa[opsOf]using e4) R fun a2 w2 hA=>hR a2 w2 (hA.trans e1 e2)
theorem Zm.drew{E:Env}{B:Nat}{w0 w:World}{H:Qf}(h:Zm E B w0 H w):Zm E B w0 H w.drew :=
 ⟨h.lt,h.gst,fun id b hb hc0=>by obtain⟨cur,z,q1,q2,q3,q4,q5,q6,q7,q8,q9⟩:=h.blk id b hb hc0;exact⟨cur,z,q1,q2,q3,q4,q5,q6,q7,q8,fun i j x hx=>(q9 i j x hx).mono (w:=w) (w':=w.drew) (Env.le.refl E) (show QD E w w.drew from fun _ _=>rfl)⟩,h.inj,h.mu,h.frz,h.slt,h.so,h.bas,h.bel.drew,(h.objs (w':=w.drew) (Env.le.refl E) (fun c hc=>hc) (fun _ _=>rfl) (fun _ _ _ _=>rfl) (fun c hc=>.inl hc) (fun _ _ h=>h)).1,h.dfr,h.dfb,h.zdd,h.oin⟩
theorem Rel.drew{E:Env}{B:Nat}{w0 w:World}{a:Act}(h:Rel E B w0 st a w):Rel E B w0 st a w.drew :=
 ⟨h.d,h.n,fun i=>(h.t i).mono (w:=w) (w':=w.drew) (Env.le.refl E) (show QD E w w.drew from fun _ _=>rfl),h.h.drew,h.N⟩
theorem Qm.text(hm:P.follows .mixedOrders=true){id:Nat}{bs:List (List Nat)}(hs:qbR ops bs=true)(h:QC P ops ops.toList Q st):Qm P id ops st Q:=by
 intro pl R hR ρ hρ E B w0 a w hr R' hR';refine wpIn_region_any hm ?_;have hrem:Yy ops (Array.replicate ops.size false)=List.range ops.size:=by
  unfold Yy;exact List.filter_eq_self.2 fun i hi=>by
   have:i<ops.size:=by simpa using hi
   simp[Array.getD_eq_getD_getElem?,this]
 have hops:opsOf ops (List.range ops.size)=ops.toList:=by
  unfold opsOf;apply List.ext_getElem?;intro k;have:∀n,n≤ops.size→(List.range n).filterMap (fun i=>ops[i]?)=ops.toList.take n:=fun n=>by
   induction n with
   | zero=>intro _;simp
   | succ n ih =>intro hn;rw[List.range_succ,List.filterMap_append,ih (by omega),List.take_add_one];simp[Array.getElem?_eq_getElem (show n<ops.size by omega)]
  rw[this _ (Nat.le_refl _),List.take_of_length_le (by simp)]
 refine qk6 hs ops.size (Array.replicate ops.size false) st E B w0 a w.drew ρ (by simp) (fun i hi hl=>?_) (by rw[hrem];simp) hr.drew (by rw[hrem,hops];exact h) R' (fun a' w' hA=>hR' _ a' w' ?_)
 ·simp[Array.getD_eq_getD_getElem?,hi]at hl
 ·exact(Ym.trans (Env.le.refl E) (fun _ _=>rfl) hA).mono hR
end
def Wi:Nat→AV→Bool
 | 0,_=>false
 | k+1,x=>match x with
  | .v _=>true
  | .ro []=>true
  | .agg cs=>cs.all (Wi k)
  | .tup cs=>cs.all (Wi k)
  | .fn _ fs cs=>fs.all (Wi k)&&cs.all (Wi k)
  | _=>false
theorem Den.flat{E E':Env}{w w':World}:∀(k:Nat) {x:AV} {y:Value},Wi k x=true→Den E w x y→Den E' w' x y:=by
 intro k;induction k with
 | zero=>intro x y h;cases h
 | succ k ih =>
  intro x y h hd;cases hd with
  | v=>exact .v _
  | ro es A c sz z hc hm hs hA hh =>
   cases es with
   | nil=>exact .ro [] A c sz z hc hm hs (fun hp=>by simp at hp) (fun i j x hx=>by simp[QZ]at hx)
   | cons e es=>cases h
  | agg cs zs hl hh =>
   have h:∀x∈cs,Wi k x=true:=by simpa[Wi,List.all_eq_true]using h
   exact .agg cs zs hl fun j x hx=>ih (h x (List.mem_of_getElem? hx)) (hh j x hx)
  | tup cs zs hl hh =>
   have h:∀x∈cs,Wi k x=true:=by simpa[Wi,List.all_eq_true]using h
   exact .tup cs zs hl fun j x hx=>ih (h x (List.mem_of_getElem? hx)) (hh j x hx)
  | ref=>cases h
  | ptr=>cases h
  | rop cs a z hS' hA hh=>cases h
  | fn f fs cs fs' cs' h1 h2 h3 h4 =>
   have h:(∀x∈fs,Wi k x=true)∧∀x∈cs,Wi k x=true:=by simpa[Wi,List.all_eq_true]using h
   exact .fn f fs cs fs' cs' h1 h2 (fun j x hx=>ih (h.1 x (List.mem_of_getElem? hx)) (h3 j x hx)) fun j x hx=>ih (h.2 x (List.mem_of_getElem? hx)) (h4 j x hx)
  | yl=>cases h
  | mp=>cases h
  | rc es A hh=>cases h
def QQ:Qf:=⟨fun _=>none,fun _=>none⟩
def Env.bs(E:Env)(S:Nat→Prop):Env:=⟨E.η,E.κ,S,0,S,fun _=>False,fun _=>False⟩
def Env.wS(E:Env)(S:Nat→Prop):Env:=⟨E.η,E.κ,S,E.N,E.Z,E.D,E.ZD⟩
def Qg(P:Program)(f:FuncId)(args:List AV)(r:AV):Prop:=Qc P f args QQ 0 fun r' _ _=>r'=r
section
variable{P:Program}{E:Env}{B:Nat}{w0 w:World}{H:Qf}{f:FuncId}{args:List AV}{r:AV}{N:Nat}
theorem Zm.base(h:Zm E B w0 H w)(S:Nat→Prop)(hS:∀c,S c→c<w.heap.size):Zm (E.bs S) w.heap.size w QQ w :=
 ⟨fun id b hb=>(nomatch hb),fun id b hb=>(nomatch hb),fun id b hb=>(nomatch hb),fun i j p q h1=>(nomatch h1),fun id b hb=>(nomatch hb),fun id b hb=>(nomatch hb),hS,fun c hc=>.inl hc,Nat.le_refl _,h.bel.base h.bas,fun id b hb=>(nomatch hb),fun c hc=>hc.elim,fun c hc=>hc.elim,fun c hc=>hc.elim,fun i j p q h1=>(nomatch h1)⟩
theorem Zm.back{E':Env}{w':World}{H':Qf}(h:Zm E B w0 H w)(S:Nat→Prop)(hES:∀c,E.S c→S c)(g4:Zm E' w.heap.size w H' w')(hle:(E.bs S).le E')(S2:Nat→Prop)(hS2:∀c,S2 c→E.S c∨(E'.S c∧¬c<w.heap.size))
  (hS3:∀c,E.S c→S2 c) (hk:∀c,S c→w'.heap[c]?=w.heap[c]?):E.le (E.wS S2)∧QD E w w'∧Zm (E.wS S2) B w0 H w':=by
 have hle2:E.le (E.wS S2):=⟨Nat.le_refl _,fun _ _=>rfl,fun _ _=>rfl,hS3,rfl,fun _ h=>h,rfl⟩;have hkp:QD E w w':=fun c hc=>hk c (hES c hc);refine⟨hle2,hkp,h.lt,h.gst,fun id b hb hc0=>?_,h.inj,fun id b hb hc0 hfz hS=>?_,fun id b hb hc0 hfz=>hS3 _ (h.frz id b hb hc0 hfz),fun c hc=>?_,fun c hc=>?_,Nat.le_trans h.bas g4.bel.size,h.bel.trans (g4.bel.mono h.bas),fun id r hr=>?_,fun c hc=>?_,h.dfb,h.zdd,h.oin⟩
 ·obtain⟨cur,z,q1,q2,q3,q4,q5,q6,q7,q8,q9⟩:=h.blk id b hb hc0;have hlt:=h.le_size hb hc0;refine⟨cur,z,?_,q2,q3,q4,q5,q6,q7,q8,fun i j x hx=>(q9 i j x hx).mono hle2 hkp⟩;rw[←q1];exact g4.bel.block _ hlt
 ·rcases hS2 _ hS with h1|⟨_,h1⟩
  ·exact h.mu id b hb hc0 hfz h1
  ·exact h1 (h.le_size hb hc0)
 ·rcases hS2 c hc with h1|⟨h1,_⟩
  ·exact Nat.lt_of_lt_of_le (h.slt c h1) g4.bel.size
  ·exact g4.slt c h1
 ·rcases hS2 c hc with h1|⟨h1,h2⟩
  ·exact h.so c h1
  ·have:=h.bas;exact .inr (by omega)
 ·obtain⟨q1,q2,q3,q4⟩:=h.obj id r hr;obtain⟨q,hq,hqc⟩:=q4.KV;have hlt:=(Array.getElem?_eq_some_iff.1 hq).1;exact⟨q1,q2,fun hs=>(hS2 _ hs).elim q3 (fun h'=>h'.2 hlt),q4.mono hle2 hkp (g4.bel.block _ hlt)⟩
 ·obtain⟨q1,q2⟩:=h.dfr c hc;have hlt:=(Array.getElem?_eq_some_iff.1 q1).1;exact⟨(g4.bel.block _ hlt).trans q1,fun hs=>(hS2 _ hs).elim q2 (fun h'=>h'.2 hlt)⟩
theorem Qg.frame(h:Qg P f args r){k:Nat}(ha:args.all (Qu k)=true)(hr:Qu k r=true):Qc P f args H N fun r' H' N'=>r'=r∧H'=H∧N'=N:=by
 refine⟨h.1,fun E B w0 w args' hH hN hl hd=>?_⟩;have ha':∀x∈args,Qu k x=true:=by simpa[List.all_eq_true]using ha
 refine(h.2 (E.bs E.S) w.heap.size w w args' (hH.base E.S hH.slt) rfl hl (fun j u hu=>Den.data (E:=E) (E':=(E.bs E.S)) (fun c hc=>hc) k (ha' u (List.mem_of_getElem? hu)) (hd j u hu))).mono ?_;rintro e w' ⟨v,E',r',H',N',g1,g2,g3,g4,g5,g6,rfl⟩;have hZ:E'.Z=E.S:=g2.Z;obtain⟨q1,q2,q3⟩:=hH.back E.S (fun c hc=>hc) g4 g2 E'.S (fun c hc=>by
  rcases g4.so c hc with h1|h1
  ·rw[hZ]at h1;exact .inl h1
  ·exact .inr ⟨hc,by omega⟩) (fun c hc=>g2.S c hc) (fun c hc=>g3 c hc)
 exact⟨v,_,r',H,N,g1,q1,q2,q3,hN,Den.data (E:=E') (E':=(E.wS E'.S)) (fun c hc=>hc) k hr g6,rfl,rfl,rfl⟩
def Q3:Nat→Qf→AV→Option AV
 | 0,_,_=>none
 | k+1,H,x=>match x with
  | .v y=>some (.v y)
  | .ro es=>match es.mapM fun e=>e.mapM (Q3 k H)with|some es=>some (.ro es)|none=>none
  | .agg cs=>match cs.mapM (Q3 k H)with|some cs=>some (.agg cs)|none=>none
  | .tup cs=>match cs.mapM (Q3 k H)with|some cs=>some (.tup cs)|none=>none
  | .rc es=>match es.mapM fun e=>e.mapM (Q3 k H)with|some es=>some (.rc es)|none=>none
  | .rop cs=>if cs.all (Qu k)then some (.rop cs)else none
  | .mp ks vs=>if vs.all (Qu k)then some (.mp ks vs)else none
  | .fn f fs cs=>match fs.mapM (Q3 k H),cs.mapM (Q3 k H)with|some fs',some cs'=>some (.fn f fs' cs')|_,_=>none
  | .ptr id sz i off=>match H id with
   | some b=>if b.sz=sz then(match b.es[i]? with|some e=>(match (e.drop off).mapM (Q3 k H)with|some cs'=>some (.rop cs')|none=>none)|none=>none)else none
   | none=>none
  | .ref id sz off len _=>match H id with
   | some b=>if b.sz=sz∧off+len≤b.es.length then(match ((b.es.drop off).take len).mapM fun e=>e.mapM (Q3 k H)with|some es=>some (.ro es)|none=>none)else none
   | none=>none
  | _=>none
theorem mapM_some{α β:Type}{f:α→Option β}:∀{l:List α} {l':List β},l.mapM f=some l'→l'.length=l.length∧∀(i:Nat) (y:β),l'[i]?=some y→∃x,l[i]?=some x∧f x=some y:=by
 intro l;induction l with
 | nil=>intro l' h;simp at h;subst h;exact⟨rfl,fun i y hy=>by simp at hy⟩
 | cons a l ih =>
  intro l' h;simp only[List.mapM_cons,Option.pure_def,Option.bind_eq_bind,Option.bind_eq_some_iff,Option.some.injEq]at h;obtain⟨b,hb,l2,hl2,rfl⟩:=h;obtain⟨h1,h2⟩:=ih hl2;refine⟨by simp[h1],fun i y hy=>?_⟩;cases i with
  | zero=>simp at hy;subst hy;exact⟨a,rfl,hb⟩
  | succ i=>simp at hy;simpa using h2 i y hy
theorem XG{k:Nat}{F G:Nat→Prop}(ih:∀{x x':AV},Q3 k H x=some x'→Frz H F G x x'∧Qu k x'=true){es es':List (List AV)}(h:(es.mapM fun e=>e.mapM (Q3 k H))=some es') :
  shp es es'∧∃p:Nat→Nat→AV,(∀i j x',QZ es' i j=some x'→QZ es i j=some (p i j))∧(∀i j x',QZ es' i j=some x'→Frz H F G (p i j) x')∧(es'.all fun e=>e.all (Qu k))=true:=by
 obtain⟨h1,h2⟩:=mapM_some h;have hg:∀i j x',QZ es' i j=some x'→∃x,QZ es i j=some x∧Q3 k H x=some x':=fun i j x' hx=>by
  unfold QZ at hx;split at hx
  ·rename_i e he;obtain⟨e0,he0,hm⟩:=h2 i e he;obtain⟨x,hx0,hf⟩:=(mapM_some hm).2 j x' hx;exact⟨x,by simp[QZ,he0,hx0],hf⟩
  ·cases hx
 refine⟨⟨h1,fun i e e' he he'=>?_⟩,fun i j=>(QZ es i j).getD (.v undef),fun i j x' hx=>?_,fun i j x' hx=>?_,?_⟩
 ·obtain⟨e0,he0,hm⟩:=h2 i e' he';rw[he]at he0;injection he0 with he0;subst he0;exact(mapM_some hm).1
 ·obtain⟨x,hx0,_⟩:=hg i j x' hx;simp[hx0]
 ·obtain⟨x,hx0,hf⟩:=hg i j x' hx;simp only[hx0,Option.getD_some];exact(ih hf).1
 ·rw[List.all_eq_true];intro e he;rw[List.all_eq_true];intro x hx;obtain⟨i,hi⟩:=List.mem_iff_getElem?.1 he;obtain⟨j,hj⟩:=List.mem_iff_getElem?.1 hx;obtain⟨x0,_,hf⟩:=hg i j x (by simp[QZ,hi,hj]);exact(ih hf).2
theorem Kt{k:Nat}{F G:Nat→Prop}(ih:∀{x x':AV},Q3 k H x=some x'→Frz H F G x x'∧Qu k x'=true){cs cs':List AV}(h:cs.mapM (Q3 k H)=some cs') :
  cs'.length=cs.length∧∃p:Nat→AV,(∀(j:Nat) (x':AV),cs'[j]?=some x'→cs[j]?=some (p j))∧(∀(j:Nat) (x':AV),cs'[j]?=some x'→Frz H F G (p j) x')∧cs'.all (Qu k)=true:=by
 obtain⟨h1,h2⟩:=mapM_some h;refine⟨h1,fun j=>(cs[j]?).getD (.v undef),fun j x' hx=>?_,fun j x' hx=>?_,?_⟩
 ·obtain⟨x,hx0,_⟩:=h2 j x' hx;simp[hx0]
 ·obtain⟨x,hx0,hf⟩:=h2 j x' hx;simp only[hx0,Option.getD_some];exact(ih hf).1
 ·rw[List.all_eq_true];intro x hx;obtain⟨j,hj⟩:=List.mem_iff_getElem?.1 hx;obtain⟨x0,_,hf⟩:=h2 j x hj;exact(ih hf).2
theorem Ku{F G:Nat→Prop}(hF:∀id b,H id=some b→F id):∀(k:Nat) {x x':AV},Q3 k H x=some x'→Frz H F G x x'∧Qu k x'=true:=by
 intro k;induction k with
 | zero=>intro x x' h;cases h
 | succ k ih =>
  intro x x' h;cases x<;>simp only[Q3]at h<;>(try cases h)
  ·exact⟨.v _,rfl⟩
  ·split at h
   ·rename_i es' hm;injection h with h;subst h;obtain⟨q1,p,q2,q3,q4⟩:=XG ih hm;exact⟨.ro _ _ p q1 q2 q3,q4⟩
   ·cases h
  ·split at h
   ·rename_i cs' hm;injection h with h;subst h;obtain⟨q1,p,q2,q3,q4⟩:=Kt ih hm;exact⟨.agg _ _ p q1 q2 q3,q4⟩
   ·cases h
  ·split at h
   ·rename_i cs' hm;injection h with h;subst h;obtain⟨q1,p,q2,q3,q4⟩:=Kt ih hm;exact⟨.tup _ _ p q1 q2 q3,q4⟩
   ·cases h
  ·split at h
   ·rename_i b hb;split at h
    ·rename_i hc;split at h
     ·rename_i es' hm;injection h with h;subst h;obtain⟨q1,p,q2,q3,q4⟩:=XG ih hm;exact⟨.new _ _ _ _ _ b (hF _ b hb) hb hc.1 hc.2 _ p q1 q2 q3,q4⟩
     ·cases h
    ·cases h
   ·cases h
  ·split at h
   ·rename_i b hb;split at h
    ·rename_i hc;split at h
     ·rename_i e he;split at h
      ·rename_i cs' hm;injection h with h;subst h;obtain⟨q1,p,q2,q3,q4⟩:=Kt ih hm;exact⟨.cell _ _ _ _ b e _ (hF _ b hb) hb hc he q1 p q2 q3,q4⟩
      ·cases h
     ·cases h
    ·cases h
   ·cases h
  ·split at h
   ·rename_i hd;injection h with h;subst h;exact⟨.dat _ (k+1) hd,hd⟩
   ·cases h
  ·split at h
   ·rename_i fs' cs' hm1 hm2;injection h with h;subst h;obtain⟨q1,p,q2,q3,q4⟩:=Kt ih hm1;obtain⟨r1,q,r2,r3,r4⟩:=Kt ih hm2;exact⟨.fn _ _ _ _ _ p q q1 r1 q2 q3 r2 r3,by simp only[Qu,q4,r4,Bool.and_self]⟩
   ·cases h
  ·split at h
   ·rename_i es' hm;injection h with h;subst h;obtain⟨q1,p,q2,q3,q4⟩:=XG ih hm;exact⟨.rc _ _ (.ro _ _ p q1 q2 q3) q1.1,q4⟩
   ·cases h
  ·split at h
   ·rename_i hd;injection h with h;subst h;exact⟨.dat _ (k+1) hd,hd⟩
   ·cases h
theorem Qg.flat{args':List AV}(h:Qg P f args' r){k:Nat}(ha:args.mapM (Q3 k H)=some args')(hr:Wi k r=true):Qc P f args H N fun r' H' N'=>r'=r∧H'=H∧N'=N:=by
 refine⟨h.1,fun E B w0 w vs hH hN hl hd=>?_⟩;obtain⟨hl1,hm⟩:=mapM_some ha;have hfr:=hH.fr (fun _=>True);have hS:∀c,(E.fr H (fun _=>True) E.N).S c→c<w.heap.size:=hfr.2.2.slt;refine(h.2 (E.bs (E.fr H (fun _=>True) E.N).S) w.heap.size w w vs (hH.base _ hS) rfl (by omega) (fun j u hu=>?_)).mono ?_
 ·obtain⟨x,hx,hf⟩:=hm j u hu;obtain⟨g1,g2⟩:=Ku (F:=fun _=>True) (G:=fun _=>False) (fun _ _ _=>trivial) k hf;exact Den.data (E:=E.fr H (fun _=>True) E.N) (E':=(E.bs (E.fr H (fun _=>True) E.N).S)) (fun c hc=>hc) k g2 (g1.den hH (N:=E.N) (fun _ h' _=>h'.elim) (hd j x hx))
 rintro e w' ⟨v,E',r',H',N',g1,g2,g3,g4,g5,g6,rfl⟩;obtain⟨q1,q2,q3⟩:=hH.back _ (fun c hc=>hfr.1.S c hc) g4 g2 E.S (fun c hc=>.inl hc) (fun c hc=>hc) (fun c hc=>g3 c hc);exact⟨v,_,r',H,N,g1,q1,q2,q3,hN,Den.flat k hr g6,rfl,rfl,rfl⟩
theorem Qg.of{r0:AV}{H':Qf}{N' k:Nat}(h:Qc P f args QQ 0 fun a b c=>a=r0∧b=H'∧c=N')(hr:Q3 k H' r0=some r):Qg P f args r:=by
 refine⟨h.1,?_⟩;have:=Qv.data (N:=0) (H:=QQ) (Q:=fun x=>x=r) (h.2.mono fun a b c ⟨h1,h2,h3⟩=>⟨Nat.zero_le _,fun id hid=>absurd hid (Nat.not_lt_zero _),r,by subst h1 h2;exact(Ku (F:=fun id=>0≤id) (G:=fun id=>id<0) (fun _ _ _=>Nat.zero_le _) k hr).1,rfl⟩)
 exact this.mono fun a b c ⟨_,_,h3⟩=>h3
end
theorem Qc.bd{P:Program}{f:FuncId}{args:List AV}{H:Qf}{N n:Nat}{Q:AV→Qf→Nat→Prop}{fn:Func}{c:Code}(hf:P.funcs[f]?=some fn)(hn:fn.ntmps=n)
  (h:Qe P true c (enter n args H N) fun e st=>(e=.normal∨e=.ret)∧∃xs,aresults P st fn.results.toList=some xs∧Q (packed xs) st.H st.N)
  (hm:(fn.name=="runtime.NumGoroutine")=false:=by kernel_rfl) (hb:fn.body=some c:=by rfl) (ha:args.length≤n:=by simp):Qc P f args H N Q:=by
 subst hn;exact⟨⟨_,_,hf,hm,hb⟩,Qv.QM hf hb ha h⟩
theorem Qc.body{P:Program}{f:FuncId}{args:List AV}{H:Qf}{N n:Nat}{Q:AV→Qf→Nat→Prop}{fn:Func}{c:Code}(hf:P.funcs[f]?=some fn)(hn:fn.ntmps=n)
  (h:Zv P true c (fun e st=>(e=.normal∨e=.ret)∧∃xs,aresults P st fn.results.toList=some xs∧Q (packed xs) st.H st.N) (enter n args H N))
  (hm:(fn.name=="runtime.NumGoroutine")=false:=by kernel_rfl) (hb:fn.body=some c:=by rfl) (ha:args.length≤n:=by simp):Qc P f args H N Q :=
 Qc.bd hf hn (Qd _ _ _ h) hm hb ha
theorem Qg.body{P:Program}{f:FuncId}{args:List AV}{r:AV}{n:Nat}{fn:Func}{c:Code}(hf:P.funcs[f]?=some fn)(hn:fn.ntmps=n)
  (h:Zv P true c (fun e st=>(e=.normal∨e=.ret)∧∃xs,aresults P st fn.results.toList=some xs∧0≤st.N∧(∀id,id<0→st.H id=QQ id∧st.H.L id=QQ.L id)∧∃r',Frz st.H (fun id=>0≤id) (fun id=>id<0) (packed xs) r'∧r'=r) (enter n args QQ 0))
  (hm:(fn.name=="runtime.NumGoroutine")=false:=by kernel_rfl) (hb:fn.body=some c:=by rfl) (ha:args.length≤n:=by simp):Qg P f args r:=by
 subst hn;exact⟨⟨_,_,hf,hm,hb⟩,(Qv.data (Q:=fun x=>x=r) (Qv.QM hf hb ha (Qd _ _ _ h))).mono fun r H N h=>h.2.2⟩
inductive Cls where
 | flo
 | lod (rs:List Nat)
 | hvy (ws:Option (List Nat))
 deriving DecidableEq
def Agr(ops:Array Oper)(o:Oper)(st st2:St):Prop:=st2.n=st.n∧(∀x∈o.op.operands.toList,ev st2 x=ev st x)∧wanted st2 ops o=wanted st ops o
theorem Agr.refl(ops:Array Oper)(o:Oper)(st:St):Agr ops o st st:=⟨rfl,fun _ _=>rfl,rfl⟩
theorem Agr.symm{ops:Array Oper}{o:Oper}{a b:St}(h:Agr ops o a b):Agr ops o b a:=⟨h.1.symm,fun x hx=>(h.2.1 x hx).symm,h.2.2.symm⟩
theorem Agr.trans{ops:Array Oper}{o:Oper}{a b c:St}(h:Agr ops o a b)(k:Agr ops o b c):Agr ops o a c:=⟨k.1.trans h.1,fun x hx=>(k.2.1 x hx).trans (h.2.1 x hx),k.2.2.trans h.2.2⟩
theorem Agr.mem{ops:Array Oper}{o:Oper}(st:St)(H:Qf)(N:Nat):Agr ops o st (st.mem H N):=⟨rfl,fun x hx=>by cases x<;>rfl,rfl⟩
theorem Agr.up{ops:Array Oper}{o:Oper}{st:St}{d:Nat}{u:AV}(h:YJ ops o d=true):Agr ops o st (st.up d u):=by simp only[YJ,Bool.and_eq_true,bne_iff_ne,ne_eq]at h;obtain⟨h1,h2⟩:=h;exact⟨rfl,fun x hx=>ZV (Vq h1 x hx),V2 h2⟩
def St.eff(st:St)(dst:Option Tmp)(u:AV)(H:Qf)(N:Nat):St:=match dst with|none=>st.mem H N|some d=>(st.mem H N).up d u
theorem St.qcx(st:St)(dst:Option Tmp)(u:AV)(H:Qf)(N:Nat):(st.eff dst u H N).n=st.n:=by cases dst<;>rfl
theorem St.qbk(st:St)(dst:Option Tmp)(u:AV)(H:Qf)(N:Nat):(st.eff dst u H N).H=H:=by cases dst<;>rfl
theorem St.qbl(st:St)(dst:Option Tmp)(u:AV)(H:Qf)(N:Nat):(st.eff dst u H N).N=N:=by cases dst<;>rfl
theorem St.X1{st:St}{dst:Option Tmp}{u:AV}{H:Qf}{N:Nat}(h:∀d,dst=some d→d<st.n):(st.mem H N).put dst u=some (st.eff dst u H N):=by
 cases dst with
 | none=>rfl
 | some d=>have:=h d rfl;simp[St.put,St.eff,St.up,St.mem,this]
section
variable{P:Program}{ops:Array Oper}{st st1 st2:St}{o p:Oper}{u:AV}{H H':Qf}{N N':Nat}{c:Cls}
def Eff(P:Program)(ops:Array Oper)(o:Oper)(st:St)(u:AV)(H':Qf)(N':Nat):Prop :=
 ∀st2,Agr ops o st st2→st2.H=st.H→st2.N=st.N→(∀d,o.dst=some d→d<st.n)→Qx P ops [o] st2 fun s=>s=st2.eff o.dst u H' N'
theorem Eff.agr(h:Eff P ops o st u H' N')(ha:Agr ops o st st1)(hH:st1.H=st.H)(hN:st1.N=st.N):Eff P ops o st1 u H' N' :=
 fun st2 h1 h2 h3 h4=>h st2 (ha.trans h1) (h2.trans hH) (h3.trans hN) (fun d hd=>by rw[←ha.1];exact h4 d hd)
def Evd(P:Program)(ops:Array Oper)(o:Oper):Cls→St→AV→Qf→Nat→Prop
 | .flo,st,u,H',N'=>H'=st.H∧N'=st.N∧∀H N,Eff P ops o (st.mem H N) u H N
 | .lod rs,st,u,H',N'=>H'=st.H∧N'=st.N∧(∀id∈rs,id<st.N)∧∀H N,(∀id∈rs,id<N→H id=st.H id)→Eff P ops o (st.mem H N) u H N
 | .hvy (some ws),st,u,H',N'=>Eff P ops o st u H' N'∧st.N≤N'∧∀id,id<st.N→id ∉ ws→H' id=st.H id
 | .hvy none,st,u,H',N'=>Eff P ops o st u H' N'
theorem Evd.agr(h:Evd P ops o c st u H' N')(ha:Agr ops o st st1)(hH:st1.H=st.H)(hN:st1.N=st.N):Evd P ops o c st1 u H' N':=by
 rcases c with _|rs|⟨_|ws⟩
 ·exact⟨h.1.trans hH.symm,h.2.1.trans hN.symm,fun H N=>(h.2.2 H N).agr (((Agr.mem st H N).symm.trans ha).trans (Agr.mem st1 H N)) rfl rfl⟩
 ·exact⟨h.1.trans hH.symm,h.2.1.trans hN.symm,by rw[hN];exact h.2.2.1,fun H N hs=>(h.2.2.2 H N (by rw[←hH];exact hs)).agr (((Agr.mem st H N).symm.trans ha).trans (Agr.mem st1 H N)) rfl rfl⟩
 ·exact Eff.agr h ha hH hN
 ·exact⟨Eff.agr h.1 ha hH hN,by rw[hN];exact h.2.1,by rw[hN,hH];exact h.2.2⟩
def qeK(P:Program)(ops:Array Oper)(o:Oper):Cls→St→AV→Qf→Nat→Prop
 | .lod rs,st,u,H',N'=>H'=st.H∧N'=st.N∧∃K:Qf,(∀H N,(∀id∈rs,id<N→H id=K id)→Eff P ops o (st.mem H N) u H N)∧∀id∈rs,id<st.N→st.H id=K id
 | c,st,u,H',N'=>Evd P ops o c st u H' N'
theorem qeK.agr(h:qeK P ops o c st u H' N')(ha:Agr ops o st st1)(hH:st1.H=st.H)(hN:st1.N=st.N):qeK P ops o c st1 u H' N':=by
 rcases c with _|rs|ws
 ·exact Evd.agr (c:=.flo) h ha hH hN
 ·obtain⟨h1,h2,K,h3,h4⟩:=h;exact⟨h1.trans hH.symm,h2.trans hN.symm,K,fun H N hs=>(h3 H N hs).agr (((Agr.mem st H N).symm.trans ha).trans (Agr.mem st1 H N)) rfl rfl,by rw[hH,hN];exact h4⟩
 ·exact Evd.agr (c:=.hvy ws) h ha hH hN
theorem Evd.first(h:Evd P ops o c st u H' N'):qeK P ops o c st u H' N':=by
 rcases c with _|rs|ws
 ·exact h
 ·exact⟨h.1,h.2.1,st.H,fun H N hs=>h.2.2.2 H N hs,fun _ _ _=>rfl⟩
 ·exact h
theorem qeK.eff(h:qeK P ops o c st u H' N'):Eff P ops o st u H' N':=by
 rcases c with _|rs|⟨_|ws⟩
 ·obtain⟨rfl,rfl,h3⟩:=h;exact h3 st.H st.N
 ·obtain⟨rfl,rfl,K,h3,h4⟩:=h;exact h3 st.H st.N h4
 ·exact h
 ·exact h.1
theorem Evd.eff(h:Evd P ops o c st u H' N'):Eff P ops o st u H' N':=h.first.eff
inductive K5(P:Program)(ops:Array Oper):List (Oper×Cls)→St→St→Prop
 | nil (st:St):K5 P ops [] st st
 | cons (o:Oper) (c:Cls) (l:List (Oper×Cls)) (st e:St) (u:AV) (H':Qf) (N':Nat) (h:Evd P ops o c st u H' N') (hd:∀d,o.dst=some d→d<st.n) (hr:K5 P ops l (st.eff o.dst u H' N') e):K5 P ops ((o,c)::l) st e
def Kj:Cls→Cls→Bool
 | .flo,_=>true
 | _,.flo=>true
 | .lod _,.lod _=>true
 | .lod rs,.hvy (some ws)=>rs.all fun i=>!(ws.contains i)
 | .hvy (some ws),.lod rs=>rs.all fun i=>!(ws.contains i)
 | _,_=>false
theorem Y7{rs ws:List Nat}(h:(rs.all fun i=>!(ws.contains i))=true):∀id∈rs,id ∉ ws:=fun id hid hm=>by have:=List.all_eq_true.1 h id hid;simp[hm]at this
theorem W6{dp d_o:Option Tmp}{a b:AV}{H1 H2:Qf}{N1 N2:Nat}(h:∀d,dp=some d→d_o≠some d)(hH:H1=H2)(hN:N1=N2){Ha Hb:Qf}{Na Nb:Nat}:(st.eff d_o a Ha Na).eff dp b H1 N1=(st.eff dp b Hb Nb).eff d_o a H2 N2:=by subst hH;subst hN;cases dp<;>cases d_o<;>simp only[St.eff,St.mem,St.up];rename_i d d';rw[qbW (fun e=>h d rfl (by rw[e]))]
theorem front{co:Cls}:∀(pre post:List (Oper×Cls)) (st e:St),(∀q∈pre,Ys ops q.1 o=true∧Kj q.2 co=true)→K5 P ops (pre++(o,co)::post) st e →
  ∃u H' N',qeK P ops o co st u H' N'∧(∀d,o.dst=some d→d<st.n)∧K5 P ops (pre++post) (st.eff o.dst u H' N') e:=by
 intro pre;induction pre with
 | nil =>
  intro post st e _ h;cases h with
  | cons _ _ _ _ _ u H' N' h hd hr=>exact⟨u,H',N',h.first,hd,hr⟩
 | cons q pre ih =>
  intro post st e ha h;obtain⟨p,cp⟩:=q;cases h with
  | cons _ _ _ _ _ up Hp Np hp hdp hr =>
  obtain⟨hap,hpk⟩:=ha (p,cp) (by simp);obtain⟨a1,a2⟩:=Yd hap;obtain⟨uo,Ho,No,ho,hdo,hrest⟩:=ih post _ e (fun q hq=>ha q (by simp[hq])) hr;have hdo':∀d,o.dst=some d→d<st.n:=fun d hd=>by rw[←St.qcx st p.dst up Hp Np];exact hdo d hd
  have agP:∀{H:Qf} {N:Nat},Agr ops p st (st.eff o.dst uo H N):=fun {H N}=>by
   cases hd:o.dst with
   | none=>exact Agr.mem st H N
   | some d=>exact(Agr.mem st H N).trans (Agr.up (a2 d hd).1)
  have agO:Agr ops o (st.eff p.dst up Hp Np) (st.mem Hp Np):=by
   cases hd:p.dst with
   | none=>exact Agr.refl _ _ _
   | some d=>exact(Agr.up (st:=st.mem Hp Np) (a1 d hd).1).symm
  have ho':qeK P ops o co (st.mem Hp Np) uo Ho No:=ho.agr agO (St.qbk st p.dst up Hp Np).symm (St.qbl st p.dst up Hp Np).symm;have hne:∀d,p.dst=some d→o.dst≠some d:=fun d hd=>(a1 d hd).2;have fin:∀(Ho':Qf) (No':Nat),qeK P ops o co st uo Ho' No'→Evd P ops p cp (st.mem Ho' No') up Ho No →
    ∃u H' N',qeK P ops o co st u H' N'∧(∀d,o.dst=some d→d<st.n)∧K5 P ops ((p,cp)::pre++post) (st.eff o.dst u H' N') e:=fun Ho' No' e1 e2=>by
   refine⟨uo,Ho',No',e1,hdo',.cons p cp _ _ _ up Ho No (e2.agr ((Agr.mem st Ho' No').symm.trans agP) (St.qbk _ _ _ _ _) (St.qbl _ _ _ _ _)) (fun d hd=>by rw[St.qcx];exact hdp d hd) ?_⟩;rw[W6 hne rfl rfl (Hb:=Hp) (Nb:=Np)];exact hrest
  have hst:st.mem st.H st.N=st:=rfl;rcases co with _|rs|ws
  ·obtain⟨e1,e2,e3⟩:=ho';have e1:Ho=Hp:=e1;have e2:No=Np:=e2;subst e1 e2;exact fin st.H st.N ⟨rfl,rfl,fun H N=>e3 H N⟩ hp
  ·obtain⟨e1,e2,K,e3,e4⟩:=ho';have e1:Ho=Hp:=e1;have e2:No=Np:=e2;subst e1 e2;rcases cp with _|rs'|⟨_|ws⟩
   ·obtain⟨q1,q2,q3⟩:=hp;subst q1 q2;exact fin st.H st.N ⟨rfl,rfl,K,e3,e4⟩ ⟨rfl,rfl,q3⟩
   ·obtain⟨q1,q2,q3⟩:=hp;subst q1 q2;exact fin st.H st.N ⟨rfl,rfl,K,e3,e4⟩ ⟨rfl,rfl,q3⟩
   ·cases hpk
   ·obtain⟨q1,q2,q3⟩:=hp;have hdis:=Y7 hpk;exact fin st.H st.N ⟨rfl,rfl,K,e3,fun id h1 h2=>(q3 id h2 (hdis id h1)).symm.trans (e4 id h1 (Nat.lt_of_lt_of_le h2 q2))⟩ ⟨q1,q2,q3⟩
  ·rcases cp with _|rs'|ws'
   ·obtain⟨q1,q2,q3⟩:=hp;subst q1 q2;exact fin Ho No ho' ⟨rfl,rfl,q3⟩
   ·rcases ws with _|ws
    ·cases hpk
    ·obtain⟨q1,q2,q3,q4⟩:=hp;subst q1 q2;obtain⟨e1,e2,e3⟩:=ho';have hdis:=Y7 hpk;exact fin Ho No ⟨e1,e2,e3⟩ ⟨rfl,rfl,fun id hid=>Nat.lt_of_lt_of_le (q3 id hid) e2,fun H N hs=>q4 H N fun id h1 h2=>(hs id h1 h2).trans (e3 id (q3 id h1) (hdis id h1))⟩
   ·rcases ws with _|ws<;>rcases ws' with _|ws'<;>cases hpk
theorem VL{ρ:Option Nat}{a:Act}{w:World}{K K':Act→World→Prop}{R R':Exit→Act→World→Prop}(h:o.wpIn (FW ρ) 3 P a w K R)(hk:∀a' w',K a' w'→K' a' w')(hR:∀e a' w',e≠.normal→R e a' w'→False):o.wpIn (FW ρ) 3 P a w K' R':=by
 refine⟨h.1,?_⟩;have h2:=h.2;have hlet:∀{Q:Exit→Act→World→Prop},LetsOut R→LetsOut Q:=fun⟨a,w,h'⟩=>(hR .outgrown a w (by simp) h').elim;generalize (o.semAt (FW ρ).round a.eval).run P w=r at h2;cases r with
 | ok n w' =>
  cases n<;>simp only[Oper.uponIn]at h2⊢<;>(try exact hk _ _ h2)<;>first
   | exact⟨h2.1,CallsIn.mono h2.2 (fun e w'' he=>by cases e with|returned v=>exact hk _ _ he|panicked c=>exact(hR _ _ _ (by simp) he).elim|outgrown=>exact hlet he)⟩
   | exact⟨h2.1,RoundIn.mono h2.2 (fun e w'' he=>by cases e with|returned v=>exact hk _ _ he|panicked c=>exact(hR _ _ _ (by simp) he).elim|outgrown=>exact hlet he)⟩
   | exact⟨h2.1,RowsIn.mono h2.2 (fun v w'' he=>hk _ _ he)⟩
 | halt x w'=>cases x<;>simp only[Oper.uponIn]at h2⊢<;>first|exact(hR _ _ _ (by simp) h2).elim|exact h2.elim
theorem Qx.then{l:List Oper}{Q Q1:St→Prop}(h:Qx P ops [o] st Q1)(hk:∀st1,Q1 st1→Qx P ops l st1 Q):Qx P ops (o::l) st Q:=fun ρ E B w0 a w hr R hR=>by
 have h2:=h ρ E B w0 a w hr (fun e a' w'=>e=.normal∧Ym E B w0 w Q1 a' w') (fun a' w' hA=>⟨rfl,hA⟩);have key:∀a' w',Ym E B w0 w Q1 a' w'→wpListIn (FW ρ) 3 P ops R l a' w':=fun a' w' ⟨E',st',e1,e2,e3,e4⟩=>hk st' e4 ρ E' B w0 a' w' e3 R fun a2 w2 hA=>hR a2 w2 (hA.trans e1 e2);unfold wpListIn at h2⊢;split at h2
 ·rename_i hw;rw[if_pos hw];exact VL h2 (fun a' w' hq=>key a' w' hq.2) (fun e a' w' hne hq=>hne hq.1)
 ·rename_i hw;rw[if_neg hw];exact⟨h2.1,key _ _ h2.2.2⟩
theorem K5.ok:∀{l:List (Oper×Cls)} {st e:St},K5 P ops l st e→Qx P ops (l.map (·.1)) st fun s=>s=e:=by
 intro l st e h;induction h with
 | nil st=>exact Qx.nil rfl
 | cons o c l st e u H' N' h hd hr ih=>exact Qx.then (h.eff st (Agr.refl _ _ _) rfl rfl hd) fun st1 e1=>by subst e1;exact ih
def Ye(ops:Array Oper)(cs:List Cls)(bs:List (List Nat))(i j:Nat):Bool :=
 match ops[i]?,ops[j]? with
 | some p,some o=>(bs.getD j []).contains i||(Ys ops p o&&Kj (cs.getD i (.hvy none)) (cs.getD j (.hvy none)))
 | _,_=>false
def J9(ops:Array Oper)(cs:List Cls)(bs:List (List Nat)):Bool :=
 qaj ops bs&&(List.range ops.size).all fun j=>(List.range j).all fun i=>Ye ops cs bs i j
def Jq(ops:Array Oper)(cs:List Cls)(is:List Nat):List (Oper×Cls):=is.filterMap fun i=>(ops[i]?).map fun o=>(o,cs.getD i (.hvy none))
theorem qgg{cs:List Cls}{bs:List (List Nat)}(hser:J9 ops cs bs=true){e:St}:∀(fuel:Nat) (listed:Array Bool) (st:St) (E:Env) (B:Nat) (w0:World) (a:Act) (w:World) (ρ:Option Nat),listed.size=ops.size→WG ops bs listed→(Yy ops listed).length≤fuel→Rel E B w0 st a w →
  K5 P ops (Jq ops cs (Yy ops listed)) st e→∀R:Exit→Act→World→Prop,(∀a' w',Ym E B w0 w (fun s=>s=e) a' w'→R .normal a' w')→wpAnyIn (FW ρ) 3 P .any ops R fuel listed a w:=by
 simp only[J9,Bool.and_eq_true]at hser;obtain⟨hcert,hpair⟩:=hser;intro fuel;induction fuel with
 | zero =>
  intro listed st E B w0 a w ρ hs hcl hlen hr h R hR;have hnil:Yy ops listed=[]:=List.eq_nil_of_length_eq_zero (by omega);refine⟨?_,?_⟩
  ·unfold Region.ready;refine List.filter_eq_nil_iff.2 fun i hi=>?_;have:i ∉ Yy ops listed:=by rw[hnil];simp
   rw[Q5]at this;have hl:listed.getD i true=true:=by have:=fun h'=>this ⟨by simpa using hi,h'⟩;simpa using this
   simp[hl]
  ·rw[hnil]at h;simp only[Jq,List.filterMap_nil]at h;cases h;exact hR a w ⟨E,e,Env.le.refl E,QD.refl E w,hr,rfl⟩
 | succ fuel ih =>
  intro listed st E B w0 a w ρ hs hcl hlen hr h R hR;have hrd:∀i,i∈Region.ready .any ops listed↔i∈Yy ops listed∧∃o,ops[i]?=some o∧∀e∈o.after.toList,Region.binds .any e=true→listed.getD e.on false=true:=fun i=>by
   unfold Region.ready;rw[List.mem_filter,Q5];cases ho:ops[i]? with
   | none=>simp
   | some o =>
    have hi:i<ops.size:=(Array.getElem?_eq_some_iff.1 ho).1;simp only[List.mem_range,Bool.and_eq_true,Bool.not_eq_true',Option.map_some,Option.getD_some,Option.some.injEq,exists_eq_left',Array.all_eq_true',Bool.or_eq_true];constructor
    ·rintro⟨h1,h2,h3⟩;exact⟨⟨h1,h2⟩,fun e he hb=>by
      have:=h3 e (by simpa using he);rcases this with h'|h'
      ·rw[hb]at h';cases h'
      ·exact h'⟩
    ·rintro⟨⟨h1,h2⟩,h3⟩;exact⟨h1,h2,fun e he=>by
      cases hb:Region.binds .any e with
      | false=>exact .inl rfl
      | true=>exact .inr (h3 e (by simpa using he) hb)⟩
  refine⟨fun hnil=>?_,fun i hi=>?_⟩
  ·have:Yy ops listed=[]:=by
    cases hrem:Yy ops listed with
    | nil=>rfl
    | cons i rest =>
     exfalso;have hir:i∈Yy ops listed:=by rw[hrem];simp
     have hisz:=(Q5.1 hir).1;have hsort:(Yy ops listed).Pairwise (·<·):=List.Pairwise.filter _ List.pairwise_lt_range;rw[hrem]at hsort;have hmin:=(List.pairwise_cons.1 hsort).1;have hin:i∈Region.ready .any ops listed:=(hrd i).2 ⟨hir,ops[i],Array.getElem?_eq_getElem hisz,fun e he hb=>by
      have hc:=List.all_eq_true.1 hcert i (by simpa using hisz);simp only[Array.getElem?_eq_getElem hisz,Bool.and_eq_true]at hc;have hlt:=Array.all_eq_true'.1 hc.2 e (by simpa using he);simp only[hb,Bool.not_true,Bool.false_or,decide_eq_true_eq]at hlt;have hnr:e.on ∉ Yy ops listed:=fun hm=>by
       rw[hrem]at hm;rcases List.mem_cons.1 hm with h'|h'
       ·omega
       ·have:=hmin _ h';omega
      rw[Q5]at hnr;have:listed.getD e.on true=true:=by have:=fun h'=>hnr ⟨by omega,h'⟩;simpa using this
      have hlt2:e.on<listed.size:=by omega
      simpa[Array.getD_eq_getD_getElem?,Array.getElem?_eq_getElem hlt2]using this⟩
     rw[hnil]at hin;simp at hin
   rw[this]at h;simp only[Jq,List.filterMap_nil]at h;cases h;exact hR a w ⟨E,e,Env.le.refl E,QD.refl E w,hr,rfl⟩
  ·obtain⟨hir,o,ho,hdeps⟩:=(hrd i).1 hi;obtain⟨pre,post,he,hlt,he'⟩:=Ww hs hir;have hisz:=(Q5.1 hir).1;have hgetD:∀j,(listed.setIfInBounds i true).getD j true=true↔j=i∨listed.getD j true=true:=fun j=>by
    by_cases hji:j=i
    ·subst hji;simp[Array.getD_eq_getD_getElem?,show j<listed.size by omega]
    ·simp[Array.getD_eq_getD_getElem?,Ne.symm hji,hji]
   have hft:∀j,listed.getD j false=true→j<ops.size∧listed.getD j true=true:=fun j hj=>by
    cases hx:listed[j]? with
    | none=>simp[Array.getD_eq_getD_getElem?,hx]at hj
    | some b =>have:=(Array.getElem?_eq_some_iff.1 hx).1;simp only[Array.getD_eq_getD_getElem?,hx,Option.getD_some]at hj⊢;exact⟨by omega,hj⟩
   have hbs:∀j∈bs.getD i [],listed.getD j true=true:=fun j hj=>by
    have hc:=List.all_eq_true.1 hcert i (by simpa using hisz);simp only[ho,Bool.and_eq_true]at hc;have hc1:=List.all_eq_true.1 hc.1 j hj;obtain⟨e,he,hb⟩:=Array.any_eq_true'.1 hc1;simp only[Bool.and_eq_true,Bool.or_eq_true,beq_iff_eq]at hb;obtain⟨hb1,hb2⟩:=hb;have hl:=hdeps e (by simpa using he) hb1;obtain⟨q1,q2⟩:=hft _ hl;rcases hb2 with hb2|hb2
    ·rw[←hb2];exact q2
    ·exact hcl e.on q1 q2 j (by simpa using hb2)
   have hcl':WG ops bs (listed.setIfInBounds i true):=fun j hj hlj k hk=>by
    rw[hgetD];rcases(hgetD j).1 hlj with rfl|hlj
    ·exact .inr (hbs k hk)
    ·exact .inr (hcl j hj hlj k hk)
   have hpre:∀q∈Jq ops cs pre,Ys ops q.1 o=true∧Kj q.2 (cs.getD i (.hvy none))=true:=fun q hq=>by
    obtain⟨j,hj,hjq⟩:=List.mem_filterMap.1 hq;have hji:=hlt j hj;have hk:=List.all_eq_true.1 (List.all_eq_true.1 hpair i (by simpa using hisz)) j (by simpa using hji);unfold Ye at hk;simp only[Option.map_eq_some_iff]at hjq;obtain⟨p,hjp,rfl⟩:=hjq;rw[hjp,ho]at hk;simp only[Bool.or_eq_true,Bool.and_eq_true]at hk;rcases hk with hk|hk
    ·exfalso;have hl:=hbs j (by simpa using hk);have hjr:j∈Yy ops listed:=by rw[he];simp[hj]
     have:=(Q5.1 hjr).2;rw[hl]at this;cases this
    ·exact hk
   have hsplit:Jq ops cs (Yy ops listed)=Jq ops cs pre++(o,cs.getD i (.hvy none))::Jq ops cs post:=by rw[he];simp[Jq,ho]
   rw[hsplit]at h;obtain⟨u,H',N',e1,e2,e3⟩:=front _ _ _ _ hpre h;have h2:=e1.eff st (Agr.refl _ _ _) rfl rfl e2 ρ E B w0 a w hr (fun e' a' w'=>e'=.normal∧Ym E B w0 w (fun s=>s=st.eff o.dst u H' N') a' w') (fun a' w' hA=>⟨rfl,hA⟩);have key:∀a' w',Ym E B w0 w (fun s=>s=st.eff o.dst u H' N') a' w'→wpAnyIn (FW ρ) 3 P .any ops R fuel (listed.setIfInBounds i true) a' w':=fun a' w' ⟨E',st',f1,f2,f3,f4⟩=>by subst f4;exact ih (listed.setIfInBounds i true) _ E' B w0 a' w' ρ (by simpa using hs) hcl' (by rw[he'];rw[he]at hlen;simp at hlen⊢;omega) f3 (by rw[he'];simpa[Jq]using e3) R fun a2 w2 hA=>hR a2 w2 (hA.trans f1 f2)
   unfold wpOpIn;simp only[ho];unfold wpListIn at h2;split at h2
   ·rename_i hw;rw[if_pos hw];exact VL h2 (fun a' w' hq=>key a' w' hq.2) (fun e a' w' hne hq=>hne hq.1)
   ·rename_i hw;rw[if_neg hw];exact⟨h2.1,key _ _ h2.2.2⟩
theorem Qm.steps(hm:P.follows .mixedOrders=true){id:Nat}{cs:List Cls}{bs:List (List Nat)}(hs:J9 ops cs bs=true){e:St}(h:K5 P ops (Jq ops cs (List.range ops.size)) st e):Qm P id ops st fun s=>s=e:=by
 intro pl R hR ρ hρ E B w0 a w hr R' hR';refine wpIn_region_any hm ?_;have hrem:Yy ops (Array.replicate ops.size false)=List.range ops.size:=by
  unfold Yy;exact List.filter_eq_self.2 fun i hi=>by
   have:i<ops.size:=by simpa using hi
   simp[Array.getD_eq_getD_getElem?,this]
 refine qgg hs ops.size (Array.replicate ops.size false) st E B w0 a w.drew ρ (by simp) (fun i hi hl=>?_) (by rw[hrem];simp) hr.drew (by rw[hrem];exact h) R' (fun a' w' hA=>hR' _ a' w' ?_)
 ·simp[Array.getD_eq_getD_getElem?,hi]at hl
 ·exact(Ym.trans (Env.le.refl E) (fun _ _=>rfl) hA).mono hR
end
def Qf.Je(H:Qf)(id:Nat)(x:Option Zw):Qf:={ H with L:=fun i=>if i=id then x else H.L i }
def XC(env:Nat→AV):List Tmp→List AV→Nat→AV
 | p::ps,x::xs=>XC (upd env p x) ps xs
 | _,_=>env
section
variable{P:Program}{E:Env}{B:Nat}{w0 w:World}{H:Qf}{st:St}{a:Act}
theorem qij{n:Nat}:∀(ps:List Tmp) (xs:List AV) (vs:List Value) (env:Nat→AV) (tmps:Array Value),xs.length=ps.length→vs.length=ps.length→tmps.size=n→(∀p∈ps,p<n)→(∀i,Den E w (env i) (tmps.getD i undef))→(∀(j:Nat) (u:AV),xs[j]?=some u→Den E w u (vs.getD j undef)) →
  ((ps.zip vs).foldl (fun t (p,v)=>t.setIfInBounds p v) tmps).size=n∧∀i,Den E w (XC env ps xs i) (((ps.zip vs).foldl (fun t (p,v)=>t.setIfInBounds p v) tmps).getD i undef):=by
 intro ps;induction ps with
 | nil=>intro xs vs env tmps h1 h2 h3 _ h4 h5;cases xs with|nil=>exact⟨h3,h4⟩|cons=>cases h1
 | cons p ps ih =>
  intro xs vs env tmps h1 h2 h3 hp h4 h5;cases xs with
  | nil=>cases h1
  | cons x xs =>
   cases vs with
   | nil=>cases h2
   | cons v vs =>
    simp only[List.zip_cons_cons,List.foldl_cons,XC];refine ih xs vs (upd env p x) (tmps.setIfInBounds p v) (by simpa using h1) (by simpa using h2) (by simpa using h3) (fun q hq=>hp q (by simp[hq])) (fun i=>?_) (fun j u hu=>by have:=h5 (j+1) u (by simpa using hu);simpa using this);have hpn:=hp p (by simp);simp only[upd];by_cases hi:i=p
    ·subst hi;rw[if_pos rfl];have:=h5 0 x (by simp);simpa[Array.getD_eq_getD_getElem?,Array.getElem?_setIfInBounds,h3,hpn]using this
    ·rw[if_neg hi];have:=h4 i;simpa[Array.getD_eq_getD_getElem?,Array.getElem?_setIfInBounds,Ne.symm hi]using this
theorem JC.put{w:World}{k:Nat}(o:Obj):JC [k] w (w.putObj k o) :=
 ⟨rfl,rfl,rfl,by simp,fun j hj=>World.putObj_heap_other (by simpa using hj)⟩
theorem Zm.loop(h:Zm E B w0 H w){id:Nat}{r:Zw}(hr:H.L id=some r){o:Obj}(x:Option Zw)(hx:∀r',x=some r'→r'.n=r.n∧r'.env=r.env∧∀fn tmps D,w.heap[E.η id]?=some (.loop (r.ZB fn tmps D))→o=.loop (r'.ZB fn tmps D)) :
  QD E w (w.putObj (E.η id) o)∧Zm E B w0 (H.Je id x) (w.putObj (E.η id) o):=by
 obtain⟨q1,q2,q3,q4⟩:=h.obj id r hr;have hds:∀c∈[E.η id],(∃q,w.heap[c]?=some q∧q.isCells=false)∧B≤c∧¬E.S c:=fun c hc=>by
  have:c=E.η id:=by simpa using hc
  subst this;exact⟨q4.KV,q2,q3⟩
 have hk:QD E w (w.putObj (E.η id) o):=(JC.put o).keeps fun c hc=>(hds c hc).2.2;refine⟨hk,h.turn (JC.put o) hds E.D E.ZD (fun c hc=>⟨hc,fun hm=>?_,h.dfb c hc⟩) h.zdd (H.Je id x).L (fun i r' hr'=>?_)⟩
 ·have:c=E.η id:=by simpa using hm
  subst this;obtain⟨fn,tmps,D,q5,_⟩:=q4;rw[(h.dfr _ hc).1]at q5;cases q5
 ·simp only[Qf.Je]at hr';split at hr'
  ·rename_i hi;subst hi;obtain⟨e1,e2,e3⟩:=hx r' hr';obtain⟨fn,tmps,D,q5,q6,q7⟩:=q4;refine⟨r,hr,.inr ⟨fn,tmps,D,?_,by rw[e1];exact q6,fun j=>?_⟩⟩
   ·rw[e3 fn tmps D q5];exact World.putObj_heap_same (Array.getElem?_eq_some_iff.1 q5).1
   ·rw[e2];exact(q7 j).mono (Env.le.refl E) hk
  ·rename_i hi;exact⟨r',hr',.inl ⟨rfl,fun hm=>hi (h.oin i id r' r hr' hr (by simpa using hm))⟩⟩
def Ky:Exit→Option (Option Code)
 | .normal=>some none
 | .ret=>some (some .ret)
 | .exit id=>some (some (.exit id))
 | _=>none
variable{ops:Array Oper}{l:List Oper}{o:Oper}{Q:St→Prop}
theorem Qx.yield(hg:wanted st ops o=some true){c:Call}(ho:o.op=.call c){x:Operand}(hc:c.callee=.value x){id:Nat}(hx:ev st x=.yl id){r:Zw}(hL:st.H.L id=some r)(hp:r.pend=none)(hb:r.busy=false)
  (hlen:c.args.size=r.ps.size) (hps:∀p∈r.ps.toList,p<r.n)
  (h:Qe P false r.assign { n:=r.n,env:=XC r.env r.ps.toList (c.args.toList.map (ev st)),H:=st.H,N:=st.N } fun e s1=>e=.normal∧s1.H.L id=some r ∧
   Qe P false r.body { s1 with H:=s1.H.Je id (some { r with busy:=true }) } fun e s2=>s2.H.L id=some { r with busy:=true }∧∃j,Ky e=some j ∧
    ∃st',({ st with H:=s2.H.Je id (some { r with pend:=j }),N:=s2.N }:St).put o.dst (.v (.bool j.isNone))=some st'∧Qx P ops l st' Q):Qx P ops (o::l) st Q:=fun ρ E B w0 a w hr R hR=>by
 unfold wpListIn;rw[if_pos (Y5 hr hg)];have hxx:=hr.ev x;rw[hx]at hxx;generalize hq:a.eval x=q at hxx;cases hxx with
 | yl _ hid =>
 obtain⟨q1,q2,q3,fn,tmps,D,q4,q5,q6⟩:=hr.h.obj id r hL;obtain⟨ha1,ha2⟩:=qbg hr c.args;have hsz:(c.args.map a.eval).size=(r.ZB fn tmps D).params.size:=by simp[Zw.ZB,hlen]
 have hrun:(execOp a.eval o).run P w=.ok (.round (E.η id) fn ((r.ps.zip (c.args.map a.eval)).foldl (fun t (p,v)=>t.setIfInBounds p v) tmps) r.assign r.body) w:=by unfold execOp;simp only[ho,resolve,hc,hq,Deferred.ofValue,Sem.run_bind,Sem.run_pure,Result.andThen_ok,invoke];have:=run_yield (P:=P) (args:=#[]++c.args.map a.eval++#[]) q4 (by simpa using hsz);simpa[Zw.ZB]using this
 obtain⟨t1,t2⟩:=qij (E:=E) (w:=w) (n:=r.n) r.ps.toList (c.args.toList.map (ev st)) (c.args.map a.eval).toList r.env tmps (by simp[hlen]) (by simp[hlen]) q5 hps q6 (fun j u hu=>by have:=ha2 j u hu;simpa[Array.getD_eq_getD_getElem?,List.getD_eq_getElem?_getD]using this);have hfold:(r.ps.zip (c.args.map a.eval)).foldl (fun t (p,v)=>t.setIfInBounds p v) tmps=(r.ps.toList.zip (c.args.map a.eval).toList).foldl (fun t (p,v)=>t.setIfInBounds p v) tmps:=by rw[←Array.foldl_toList,Array.toList_zip]
 rw[hfold]at hrun;refine YP hrun (fun d=>by simp) ⟨fun h=>(by cases h),roundIn_of_wpIn trivial ?_⟩;have hr0:Rel E B w0 { n:=r.n,env:=XC r.env r.ps.toList (c.args.toList.map (ev st)),H:=st.H,N:=st.N } { tmps:=(r.ps.toList.zip (c.args.map a.eval).toList).foldl (fun t (p,v)=>t.setIfInBounds p v) tmps,defers:=[] } w :=
  ⟨⟨[],rfl,List.nodup_nil,fun c hc=>by cases hc⟩,t1,t2,hr.h,hr.N⟩
 refine qds (ρ:=some (E.η id)) (h (some (E.η id)) (fun h=>by cases h) E B w0 _ w hr0 _ fun e a1 w1 hA=>?_);obtain⟨E1,s1,f1,f2,f3,rfl,f4,f5⟩:=hA;have e1:E1.η id=E.η id:=f1.η id hid;obtain⟨p1,p2,p3,fn1,tmps1,D1,p4,p5,p6⟩:=f3.h.obj id r f4;rw[e1]at p4;have hst:(r.ZB fn1 tmps1 D1).state=.ready:=by simp[Zw.ZB,hp,hb]
 refine⟨_,run_beginRound p4 hst,?_⟩;have hbusy:({ r.ZB fn1 tmps1 D1 with state:=.busy }:Loop)=({ r with busy:=true }:Zw).ZB fn1 tmps1 D1:=by simp[Zw.ZB]
 rw[hbusy,←e1];obtain⟨k1,k2⟩:=f3.h.loop f4 (o:=.loop (({ r with busy:=true }:Zw).ZB fn1 tmps1 D1)) (some { r with busy:=true }) (fun r' hr'=>by injection hr' with hr';subst hr';exact⟨rfl,rfl,fun fn tmps D hh=>by rw[←e1]at p4;rw[p4]at hh;simp only[Zw.ZB,Option.some.injEq,Obj.loop.injEq,Loop.mk.injEq,true_and]at hh;obtain⟨rfl,rfl,rfl⟩:=hh;rfl⟩)
 have hr1:Rel E1 B w0 { s1 with H:=s1.H.Je id (some { r with busy:=true }) } a1 (w1.putObj (E1.η id) (.loop (({ r with busy:=true }:Zw).ZB fn1 tmps1 D1))):=by have:=f3.le (Env.le.refl E1) k1 k2 (N':=s1.N) f3.N;exact this
 refine qds (ρ:=some (E1.η id)) (f5 (some (E1.η id)) (fun h=>by cases h) E1 B w0 _ _ hr1 _ fun e a2 w2 hA=>?_);obtain⟨E2,s2,g1,g2,g3,g4,j,hj,st',hput,hrest⟩:=hA;have e2:E2.η id=E1.η id:=g1.η id p1;obtain⟨m1,m2,m3,fn2,tmps2,D2,m4,m5,m6⟩:=g3.h.obj id _ g4;have hend:=run_endRound (P:=P) j m4;have hrec:({ ({ r with busy:=true }:Zw).ZB fn2 tmps2 D2 with state:=if j.isNone then .ready else .done,pending:=j }:Loop)=({ r with pend:=j }:Zw).ZB fn2 tmps2 D2:=by simp[Zw.ZB,hb]
 rw[hrec]at hend;obtain⟨n1,n2⟩:=g3.h.loop g4 (o:=.loop (({ r with pend:=j }:Zw).ZB fn2 tmps2 D2)) (some { r with pend:=j }) (fun r' hr'=>by injection hr' with hr';subst hr';exact⟨rfl,rfl,fun fn tmps D hh=>by rw[m4]at hh;simp only[Zw.ZB,Option.some.injEq,Obj.loop.injEq,Loop.mk.injEq,true_and]at hh;obtain⟨rfl,rfl,rfl⟩:=hh;rfl⟩)
 have hk1:QD E w (w1.putObj (E1.η id) (.loop (({ r with busy:=true }:Zw).ZB fn1 tmps1 D1))):=f2.trans f1 k1;have hk2:QD E w w2:=hk1.trans f1 g2;have hk3:=hk2.trans (f1.trans g1) n1;have hr3:=hr.le (f1.trans g1) hk3 n2 (N':=s2.N) g3.N;have hfin:=hrest ρ E2 B w0 _ _ (hr3.put (.v (.bool j.isNone)) hput) R fun a' w' hA=>hR a' w' (hA.trans (f1.trans g1) hk3);have hres:∃v w',(Instr.endRound (E1.η id) j).run P w2=.ok v w'∧(fun e w''=>match e with|Ending.returned v=>wpListIn (FW ρ) 3 P ops R l (a.put o.dst v) w''|.panicked chain=>R (.panic chain) a w''|.outgrown=>LetsOut R) (.returned v) w':=⟨_,_,by rw[←e2];exact hend,hfin⟩;cases e with
 | normal=>cases hj;exact hres
 | ret=>cases hj;exact hres
 | exit i=>cases hj;exact hres
 | goto t=>cases hj
 | panic c=>cases hj
 | outgrown=>cases hj
theorem Zm.enter(h:Zm E B w0 H w)(r:Zw)(hp:r.pend=none)(hb:r.busy=false)(fn:FuncId)(tmps:Array Value)(hn:tmps.size=r.n)(ht:∀i,Den E w (r.env i) (tmps.getD i undef)) :
  let W1:=(w.alloc (.deferred (some []))).alloc (.loop { state:=.ready,pending:=none,fn,tmps,params:=r.ps,assign:=r.assign,body:=r.body,defers:=w.heap.size })
  ∃E1,E.le E1∧QD E w W1∧E1.N=E.N+1∧E1.η E.N=w.heap.size+1∧E1.D w.heap.size∧Zm E1 B w0 (H.Je E.N (some r)) W1:=by
 intro W1;let E1:Env:={ η:=fun i=>if i=E.N then w.heap.size+1 else E.η i,κ:=E.κ,S:=E.S,N:=E.N+1,Z:=E.Z,D:=fun c=>E.D c∨c=w.heap.size,ZD:=E.ZD };have hsz:W1.heap.size=w.heap.size+2:=by simp[W1]
 have hold:∀k,k<w.heap.size→W1.heap[k]?=w.heap[k]?:=fun k hk=>(Below.heap_alloc _ _ _ (by simp;omega)).trans (Below.heap_alloc w _ _ hk);have hnew0:W1.heap[w.heap.size]?=some (.deferred (some [])):=(Below.heap_alloc _ _ _ (by simp)).trans (World.alloc_heap_new w _);have hnew1:W1.heap[w.heap.size+1]?=some (.loop (r.ZB fn tmps w.heap.size)):=by have:=World.alloc_heap_new (w.alloc (.deferred (some []))) (.loop { state:=.ready,pending:=none,fn,tmps,params:=r.ps,assign:=r.assign,body:=r.body,defers:=w.heap.size });rw[World.size_alloc]at this;rw[show W1=_ from rfl,this];simp[Zw.ZB,hp,hb]
 have hle:E.le E1:=⟨Nat.le_succ _,fun i hi=>by simp[E1,Nat.ne_of_lt hi],fun i hi=>rfl,fun c hc=>hc,rfl,fun c hc=>.inl hc,rfl⟩;have hkp:QD E w W1:=fun c hc=>hold c (h.slt c hc);have hη:∀id,id<E.N→E1.η id=E.η id:=hle.η;refine⟨E1,hle,hkp,rfl,by simp[E1],.inr rfl,?_⟩;have hlt:∀id b,(H.Je E.N (some r)) id=some b→H id=some b∧id<E.N:=fun id b hb=>⟨hb,h.lt id b hb⟩;have hobj:∀id r',(H.Je E.N (some r)).L id=some r'→(id=E.N∧r'=r)∨(id<E.N∧H.L id=some r'):=fun id r' hr'=>by
  simp only[Qf.Je]at hr';split at hr'
  ·rename_i hi;injection hr' with hr';exact .inl ⟨hi,hr'.symm⟩
  ·exact .inr ⟨(h.obj id r' hr').1,hr'⟩
 have hos:∀id r',H.L id=some r'→E.η id<w.heap.size:=fun id r' hr'=>by obtain⟨q,hq,_⟩:=(h.obj id r' hr').2.2.2.KV;exact(Array.getElem?_eq_some_iff.1 hq).1
 refine⟨fun id b hb=>?_,fun id b hb hc0=>?_,fun id b hb hc0=>?_,fun i j p q h1 h2 hz1 hz2 he=>?_,fun id b hb hc0 hfz=>?_,fun id b hb hc0 hfz=>?_,fun c hc=>?_,h.so,?_,?_,fun id r' hr'=>?_,fun c hc=>?_,fun c hc=>?_,fun c hc=>.inl (h.zdd c hc),fun i j p q h1 h2 he=>?_⟩
 ·have:=(hlt id b hb).2;exact Nat.lt_succ_of_lt this
 ·obtain⟨hb1,hid⟩:=hlt id b hb;have:=h.gst id b hb1 hc0;simpa[E1,Nat.ne_of_lt hid]using this
 ·obtain⟨hb1,hid⟩:=hlt id b hb;obtain⟨cur,z,q1,q2,q3,q4,q5,q6,q7,q8,q9⟩:=h.blk id b hb1 hc0;rw[hη id hid];exact⟨cur,z,(hold _ (h.le_size hb1 hc0)).trans q1,q2,q3,q4,q5,q6,q7,q8,fun i j x hx=>(q9 i j x hx).mono hle hkp⟩
 ·obtain⟨h1',hi⟩:=hlt i p h1;obtain⟨h2',hj⟩:=hlt j q h2;rw[hη i hi,hη j hj]at he;exact h.inj i j p q h1' h2' hz1 hz2 he
 ·obtain⟨hb1,hid⟩:=hlt id b hb;rw[hη id hid];exact h.mu id b hb1 hc0 hfz
 ·obtain⟨hb1,hid⟩:=hlt id b hb;rw[hη id hid];exact h.frz id b hb1 hc0 hfz
 ·have:=h.slt c hc;omega
 ·have:=h.bas;omega
 ·exact(h.bel.alloc h.bas _).alloc (by have:=h.bas;simp;omega) _
 ·rcases hobj id r' hr' with⟨rfl,rfl⟩|⟨hid,hr0⟩
  ·refine⟨Nat.lt_succ_self _,?_,fun hs=>?_,fn,tmps,w.heap.size,by simpa[E1]using hnew1,hn,fun i=>(ht i).mono hle hkp⟩
   ·have:=h.bas;simp only[E1,if_true];omega
   ·have hs:E.S (E1.η E.N):=hs;have:=h.slt _ hs;simp[E1]at this;omega
  ·obtain⟨q1,q2,q3,q4⟩:=h.obj id r' hr0;rw[hη id hid];exact⟨Nat.lt_succ_of_lt q1,q2,q3,q4.mono hle hkp (hold _ (hos id r' hr0))⟩
 ·rcases hc with hc|rfl
  ·obtain⟨q1,q2⟩:=h.dfr c hc;exact⟨(hold _ (Array.getElem?_eq_some_iff.1 q1).1).trans q1,q2⟩
  ·exact⟨hnew0,fun hs=>by have:=h.slt _ hs;omega⟩
 ·rcases hc with hc|rfl
  ·exact h.dfb c hc
  ·exact .inr h.bas
 ·rcases hobj i p h1 with⟨rfl,rfl⟩|⟨hi,h1'⟩<;>rcases hobj j q h2 with⟨rfl,rfl⟩|⟨hj,h2'⟩
  ·rfl
  ·exfalso;have:=hos j q h2';rw[hη j hj]at he;simp[E1]at he;omega
  ·exfalso;have:=hos i p h1';rw[hη i hi]at he;simp[E1]at he;omega
  ·rw[hη i hi,hη j hj]at he;exact h.oin i j p q h1' h2' he
theorem Qe.rangeFunc{f:Operand}{ps:Array Tmp}{assign body:Code}{Q:Exit→St→Prop}{g:FuncId}{fs cs:List AV}(hf:ev st f=.fn (.func g) fs cs)
  (h:Qc P g (fs++[.yl st.N]++cs) (st.H.Je st.N (some ⟨st.n,st.env,ps,assign,body,none,false⟩)) (st.N+1) fun r H' N'=>∃lr,H'.L st.N=some lr∧lr.busy=false∧∃e,Ky e=some lr.pend∧Q e { st with H:=H'.Je st.N none,N:=N' }) :
  Qe P true (.rangeFunc f ps assign body) st Q:=by
 intro ρ hρ E B w0 a w hr R hR;have:=hρ rfl;subst this;obtain⟨⟨gn,gb,h1,h2,h3⟩,hcall⟩:=h;have hN:=hr.N;refine wpIn_rangeFunc fun fn _=>?_;have hxx:=hr.ev f;rw[hf]at hxx;generalize hq:a.eval f=q at hxx;cases hxx with
 | fn _ _ _ fs' cs' hlf hlc hdf hdc =>
 obtain⟨E1,f1,f2,f3,f4,f5,f6⟩:=hr.h.enter ⟨st.n,st.env,ps,assign,body,none,false⟩ rfl rfl fn a.tmps hr.n hr.t;rw[hN]at f3 f4 f6;refine⟨w.heap.size+1,[{ target:=.collected w.heap.size,args:=#[] }],((w.alloc (.deferred (some []))).alloc (.loop { state:=.ready,pending:=none,fn,tmps:=a.tmps,params:=ps,assign,body,defers:=w.heap.size })),{ target:=.fn (.func g) cs',args:=fs'++#[.func (.yield (w.heap.size+1)) #[] #[]] },((w.alloc (.deferred (some []))).alloc (.loop { state:=.ready,pending:=none,fn,tmps:=a.tmps,params:=ps,assign,body,defers:=w.heap.size })),g,fs'++#[.func (.yield (w.heap.size+1)) #[] #[]]++cs',((w.alloc (.deferred (some []))).alloc (.loop { state:=.ready,pending:=none,fn,tmps:=a.tmps,params:=ps,assign,body,defers:=w.heap.size })),run_enterLoop_outer fn a.tmps ps assign body,?_,fun _ _=>trivial,?_,fun h=>(by cases h),KO.2 ?_⟩
 ·simp only[resolve,hq,Deferred.ofValue];simp[Sem.run_pure,Act.eval]
 ·have hname':¬gn.name="runtime.NumGoroutine":=by simpa using h2
  simp[invoke,callFunc,h1,hname',h3]
 ·refine(hcall E1 B w0 _ _ f6 f3 (by simp[hlf,hlc];omega) (fun j u hu=>?_)).mono fun e w3 hh=>?_
  ·simp only[Array.getD_eq_getD_getElem?,Array.getElem?_append,List.getElem?_append,List.length_append,Array.size_append]at hu⊢;simp only[hlf,List.length_cons,List.length_nil,List.size_toArray]at hu⊢;split at hu
   ·rename_i g1;rw[if_pos g1];split at hu
    ·rename_i g2;rw[if_pos g2];have:=(hdf j u hu).mono f1 f2;simpa[Array.getD_eq_getD_getElem?]using this
    ·rename_i g2;rw[if_neg g2];have hj:j-fs.length=0:=by omega
     rw[hj]at hu⊢;simp only[List.getElem?_cons_zero,Option.some.injEq]at hu;subst hu;have:=Den.yl (E:=E1) (w:=(w.alloc (.deferred (some []))).alloc (.loop { state:=.ready,pending:=none,fn,tmps:=a.tmps,params:=ps,assign,body,defers:=w.heap.size })) st.N (by omega);rw[f4]at this;simpa using this
   ·rename_i g1;rw[if_neg g1];have:=(hdc _ u hu).mono f1 f2;simpa[Array.getD_eq_getD_getElem?]using this
  ·obtain⟨v,E2,r,H',N',rfl,g1,g2,g3,g4,g5,lr,m1,m2,ex,m3,m4⟩:=hh;obtain⟨q1,q2,q3,fn',tmps',D',q4,q5,q6⟩:=g3.obj st.N lr m1;have eη:E2.η st.N=w.heap.size+1:=by rw[g1.η st.N (by omega),f4]
   have hst:(lr.ZB fn' tmps' D').state≠.busy:=by simp only[Zw.ZB,m2,Bool.false_eq_true,if_false];split<;>simp
   have hend:=run_endLoop (P:=P) q4 hst;rw[eη]at hend;obtain⟨k1,k2⟩:=g3.loop m1 (o:=.loop { lr.ZB fn' tmps' D' with state:=.exhausted }) none (fun r' hr'=>by cases hr');rw[eη]at k1 k2;have hk:QD E w (w3.putObj (w.heap.size+1) (.loop { lr.ZB fn' tmps' D' with state:=.exhausted })):=(f2.trans f1 g2).trans (f1.trans g1) k1;have hle:=f1.trans g1;have hr4:Rel E2 B w0 { st with H:=H'.Je st.N none,N:=N' } { a with defers:=[{ target:=.collected w.heap.size,args:=#[] }]++a.defers } (w3.putObj (w.heap.size+1) (.loop { lr.ZB fn' tmps' D' with state:=.exhausted })):=by
    obtain⟨ds,d1,d2,d3⟩:=hr.d;have hlt:∀c,E.D c→c<w.heap.size:=fun c hc=>(Array.getElem?_eq_some_iff.1 (hr.h.dfr c hc).1).1;refine⟨⟨w.heap.size::ds,by simp[d1],List.nodup_cons.2 ⟨fun hm=>by have:=hlt _ (d3 _ hm).1;omega,d2⟩,fun c hc=>?_⟩,hr.n,fun i=>(hr.t i).mono hle hk,k2,g4⟩;rcases List.mem_cons.1 hc with rfl|hc
    ·exact⟨g1.D _ f5,fun hz=>by rw[hle.ZD]at hz;have:=hlt _ (hr.h.zdd _ hz);omega⟩
    ·exact⟨hle.D c (d3 c hc).1,by rw[hle.ZD];exact(d3 c hc).2⟩
   refine⟨lr.pend,_,hend,?_⟩;have hA:=hR ex _ _ ⟨E2,_,hle,hk,hr4,m4⟩;cases ex with
   | normal=>simp only[Ky,Option.some.injEq]at m3;rw[←m3];exact hA
   | ret=>simp only[Ky,Option.some.injEq]at m3;rw[←m3];exact wpIn_ret hA
   | exit i=>simp only[Ky,Option.some.injEq]at m3;rw[←m3];exact wpIn_exit hA
   | goto t=>cases m3
   | panic c=>cases m3
   | outgrown=>cases m3
end
def K6(P:Program)(pl:Bool)(c:Code)(st:St)(e:Exit)(st':St):Prop:=Qe P pl c st fun e' s=>e'=e∧s=st'
def qki(P:Program)(f:FuncId)(args:List AV)(H:Qf)(N:Nat)(r:AV)(H':Qf)(N':Nat):Prop:=Qc P f args H N fun a b c=>a=r∧b=H'∧c=N'
section
variable{P:Program}{pl:Bool}{c d:Code}{st s1 s2 st':St}{e:Exit}{ops:Array Oper}{o:Oper}{u:AV}{H':Qf}{N':Nat}
theorem K6.skip:K6 P pl .skip st .normal st:=Qe.skip ⟨rfl,rfl⟩
theorem K6.ret:K6 P pl .ret st .ret st:=Qe.ret ⟨rfl,rfl⟩
theorem K6.exit{id:Nat}:K6 P pl (.exit id) st (.exit id) st:=Qe.exit ⟨rfl,rfl⟩
theorem K6.label{l:Nat}:K6 P pl (.label l) st .normal st:=Qe.label ⟨rfl,rfl⟩
theorem K6.seq(h:K6 P pl c st .normal s1)(k:K6 P pl d s1 e s2):K6 P pl (.seq c d) st e s2:=Qe.seq (h.mono fun e' s ⟨h1,h2⟩=>by subst h1 h2;exact k)
theorem K6.cond{x:Operand}{b:Bool}(hx:ev st x=.v (.bool b))(h:K6 P pl (if b then c else d) st e s1):K6 P pl (.cond x c d) st e s1:=Qe.cond hx h
theorem K6.block{id:Nat}(h:K6 P pl c st e s1)(he:e≠.exit id):K6 P pl (.block id c) st e s1:=Qe.block (h.mono fun e' s ⟨h1,h2⟩=>by
 subst h1 h2;cases e' with
 | exit i=>simp only;rw[if_neg (fun h=>he (by rw[h]))];exact⟨trivial,trivial⟩
 | _=>exact⟨rfl,rfl⟩)
theorem K6.region{id:Nat}{cs:List (Oper×Cls)}(hl:cs.map (·.1)=ops.toList)(h:K5 P ops cs st s1):K6 P pl (.region id ops false) st .normal s1:=Qe.J7 (by rw[←hl];exact h.ok.mono fun s hs=>⟨rfl,hs⟩)
theorem K6.draw(hm:P.follows .mixedOrders=true){id:Nat}{cs:List Cls}{bs:List (List Nat)}(hs:J9 ops cs bs=true)(h:K5 P ops (Jq ops cs (List.range ops.size)) st s1):K6 P pl (.region id ops true) st .normal s1 :=
 Qm.steps hm hs h pl _ fun s hs=>⟨rfl,hs⟩
inductive Xj(P:Program)(pl:Bool)(c:Code):Nat→St→Exit→St→Prop
 | out (st s1:St) (e:Exit) (h:K6 P pl c st e s1) (he:e≠.normal):Xj P pl c 0 st e s1
 | round (n:Nat) (st s1 s2:St) (e:Exit) (h:K6 P pl c st .normal s1) (k:Xj P pl c n s1 e s2):Xj P pl c (n+1) st e s2
theorem K6.loop{n:Nat}(h:Xj P pl c n st e s2):K6 P pl (.loop c) st e s2:=by
 refine Qe.loop (α:=Nat) (fun k s=>Xj P pl c k s e s2) id n h fun k s hk=>?_;cases hk with
 | out _ s1 _ h he =>
  refine h.mono fun e' s ⟨h1,h2⟩=>?_;subst h1 h2;cases e' with
  | normal=>exact absurd rfl he
  | _=>exact⟨rfl,rfl⟩
 | round n _ s1 _ _ h hk=>exact h.mono fun e' s ⟨h1,h2⟩=>by subst h1 h2;exact⟨n,hk,Nat.lt_succ_self n⟩
theorem K6.rangeFunc{f:Operand}{ps:Array Tmp}{assign body:Code}{g:FuncId}{fs cs:List AV}(hf:ev st f=.fn (.func g) fs cs){r:AV}{H2:Qf}{N2:Nat}{lr:Zw}
  (h:qki P g (fs++[.yl st.N]++cs) (st.H.Je st.N (some ⟨st.n,st.env,ps,assign,body,none,false⟩)) (st.N+1) r H2 N2) (hl:H2.L st.N=some lr) (hb:lr.busy=false) (hj:Ky e=some lr.pend) :
  K6 P true (.rangeFunc f ps assign body) st e { st with H:=H2.Je st.N none,N:=N2 } :=
 Qe.rangeFunc hf ⟨h.1,h.2.mono fun a b c ⟨h1,h2,h3⟩=>by subst h1 h2 h3;exact⟨lr,hl,hb,e,hj,rfl,rfl⟩⟩
theorem qki.QM{f:FuncId}{fn:Func}{args:List AV}{H:Qf}{N:Nat}(hf:P.funcs[f]?=some fn)(hb:fn.body=some c)(hname:(fn.name=="runtime.NumGoroutine")=false)(hn:args.length≤fn.ntmps)
  (h:K6 P true c (enter fn.ntmps args H N) e s1) (he:e=.normal∨e=.ret) {xs:List AV} (hx:aresults P s1 fn.results.toList=some xs):qki P f args H N (packed xs) s1.H s1.N :=
 ⟨⟨fn,c,hf,hname,hb⟩,Qv.QM hf hb hn (h.mono fun e' s ⟨h1,h2⟩=>by subst h1 h2;exact⟨he,xs,hx,rfl,rfl,rfl⟩)⟩
theorem Eff.J4(hg:wanted st ops o=some true)(h:∀st2,Agr ops o st st2→st2.H=st.H→st2.N=st.N→Qw P st2 o u (st2.mem H' N')):Eff P ops o st u H' N':=fun st2 ha hH hN hd =>Qx.step (ha.2.2.trans hg) (h st2 ha hH hN) (St.X1 (fun d hd'=>by rw[ha.1];exact hd d hd')) (Qx.nil rfl)
theorem Eff.qoQ(hg:wanted st ops o=some true)(h:∀st2,Agr ops o st st2→st2.H=st.H→st2.N=st.N→JO P st2 o (st2.mem H' N')):Eff P ops o st (.v undef) H' N':=fun st2 ha hH hN hd =>Qx.skip (ha.2.2.trans hg) (h st2 ha hH hN) (St.X1 (fun d hd'=>by rw[ha.1];exact hd d hd')) (Qx.nil rfl)
theorem Evd.pass(hg:wanted st ops o=some false):Evd P ops o .flo st (.v undef) st.H st.N :=
 ⟨rfl,rfl,fun H N st2 ha hH hN hd=>Qx.pass (ha.2.2.trans hg) (by have:=St.X1 (st:=st2) (dst:=o.dst) (u:=.v undef) (H:=H) (N:=N) (fun d hd'=>by rw[ha.1];exact hd d hd');rw[show st2.mem H N=st2 by cases st2;simp only[St.mem]at hH hN⊢;subst hH hN;rfl]at this;exact this) (Qx.nil rfl)⟩
theorem VG{st2:St}{H:Qf}{N:Nat}(hH:st2.H=H)(hN:st2.N=N):st2.mem H N=st2:=by cases st2;simp only[St.mem]at hH hN⊢;subst hH hN;rfl
theorem Evd.qnd(hg:wanted st ops o=some true)(h:∀st2,Agr ops o st st2→avalue P st2 o=some u):Evd P ops o .flo st u st.H st.N :=
 ⟨rfl,rfl,fun H N=>Eff.J4 (st:=st.mem H N) hg fun st2 ha hH hN=>by rw[VG (H:=H) (N:=N) hH hN];exact Qw.value (h st2 ((Agr.mem st H N).trans ha))⟩
def Q0(x:AV):List Nat:=match x with|.ptr id _ _ _=>[id]|_=>[]
theorem Evd.load{t:TypeId}{x:Operand}(ho:o.op=.load t x)(hg:wanted st ops o=some true)(hid:∀id sz i off,ev st x=.ptr id sz i off→id<st.N)(h:aload P st t (ev st x)=some u):Evd P ops o (.lod (Q0 (ev st x))) st u st.H st.N:=by
 refine⟨rfl,rfl,fun id hm=>?_,fun H N hs=>Eff.J4 (st:=st.mem H N) hg fun st2 ha hH hN=>?_⟩
 ·cases hq:ev st x<;>rw[hq]at hm<;>simp only[Q0,List.mem_cons,List.not_mem_nil,or_false]at hm;subst hm;exact hid _ _ _ _ hq
 ·rw[VG (H:=H) (N:=N) hH hN];intro E B w0 a w hr;have hx:ev st2 x=ev st x:=((Agr.mem st H N).trans ha).2.1 x (by rw[ho];simp[Op.operands]);have hH:st2.H=H:=hH;have hN:st2.N=N:=hN;refine Qw.value (P:=P) (st:=st2) ?_ E B w0 a w hr;have hl:avalue P st2 o=aload P st2 t (ev st2 x):=by unfold avalue;rw[ho]
  rw[hl,←h,hx];unfold aload;have:at_ st2.H (ev st x)=at_ st.H (ev st x):=by
   cases hq:ev st x<;>try (first|rfl|exact qtQ _ _ _)
   rename_i id sz i off;have hd:=hr.ev x;rw[hx,hq]at hd;generalize a.eval x=y at hd;cases hd with
   | ptr _ _ _ _ h2 =>
   have h3:id<N:=by rw[←hN,←hr.N];exact h2
   simp only[at_];rw[hH,hs id (by rw[hq];simp[Q0]) h3]
  rw[this]
theorem Evd.qrl{t:TypeId}{es:List (List AV)}{cap:Option Nat}(hg:wanted st ops o=some true)(h:∀st2,Agr ops o st st2→st2.H=st.H→st2.N=st.N→astep P st2 o=some (u,Qs P st2 t es cap)) :
  Evd P ops o (.hvy (some [])) st u (Qs P st t es cap).H (st.N+1) :=
 ⟨Eff.J4 hg fun st2 ha hH hN=>by
  have:=W5 (h st2 ha hH hN);have e:Qs P st2 t es cap=st2.mem (Qs P st t es cap).H (st.N+1):=by simp[Qs,St.mem,hH,hN]
  rw[e]at this;exact this,Nat.le_succ _,fun id hid _=>by simp[Qs,Qf.set,Nat.ne_of_lt hid]⟩
theorem Eff.qfq(hg:wanted st ops o=some true)(h:∀st2,Agr ops o st st2→st2.H=st.H→st2.N=st.N→astep P st2 o=some (u,st2.mem H' N')):Eff P ops o st u H' N' :=
 Eff.J4 hg fun st2 ha hH hN=>W5 (h st2 ha hH hN)
theorem Eff.store{t:TypeId}{p x:Operand}(ho:o.op=.store t p x)(hg:wanted st ops o=some true)(h:∀st2:St,st2.H=st.H→astore P st2 t (ev st p) (ev st x)=some (st2.mem H' st2.N)):Eff P ops o st (.v undef) H' st.N :=
 Eff.qoQ hg fun st2 ha hH hN=>by have hp:ev st2 p=ev st p:=ha.2.1 p (by rw[ho];simp[Op.operands]);have hx:ev st2 x=ev st x:=ha.2.1 x (by rw[ho];simp[Op.operands]);refine JO.store ho ?_;rw[hp,hx,h st2 hH,hN]
theorem Eff.X0(hg:wanted st ops o=some true){cl:Call}(ho:o.op=.call cl){x:Operand}(hc:cl.callee=.value x){f:FuncId}{fs cs:List AV}(hf:ev st x=.fn (.func f) fs cs)
  (h:qki P f (fs++cl.args.toList.map (ev st)++cs) st.H st.N u H' N'):Eff P ops o st u H' N':=fun st2 ha hH hN hd=>by
 have hm:∀y∈o.op.operands.toList,ev st2 y=ev st y:=ha.2.1;rw[ho]at hm;simp only[Op.operands,Call.operands,hc]at hm;have hx:ev st2 x=ev st x:=hm x (by simp);have hargs:cl.args.toList.map (ev st2)=cl.args.toList.map (ev st):=List.map_congr_left fun y hy=>hm y (by simp at hy⊢;exact .inr hy);obtain⟨⟨fn,body,h1,h2,h3⟩,hk⟩:=h;refine Qx.call (ha.2.2.trans hg) ho hc (by rw[hx];exact hf) h1 h2 h3 ?_;rw[hargs,hH,hN];exact hk.mono fun r H2 N2 ⟨e1,e2,e3⟩=>by subst e1 e2 e3;exact⟨_,St.X1 (fun d hd'=>by rw[ha.1];exact hd d hd'),Qx.nil rfl⟩
theorem Evd.pure(hg:wanted st ops o=some true){cl:Call}(ho:o.op=.call cl){x:Operand}(hc:cl.callee=.value x){f:FuncId}{fs cs:List AV}(hf:ev st x=.fn (.func f) fs cs){k:Nat}(ha:(fs++cl.args.toList.map (ev st)++cs).all (Qu k)=true)
  (h:Qg P f (fs++cl.args.toList.map (ev st)++cs) u) (hu:Qu k u=true):Evd P ops o (.lod []) st u st.H st.N :=
 ⟨rfl,rfl,fun id hm=>(by cases hm),fun H N hs=>by
  have e:∀y,ev (st.mem H N) y=ev st y:=fun y=>by cases y<;>rfl
  refine Eff.X0 (st:=st.mem H N) hg ho hc ((e x).trans hf) ?_;have e2:cl.args.toList.map (ev (st.mem H N))=cl.args.toList.map (ev st):=List.map_congr_left fun y _=>e y;rw[e2];exact h.frame ha hu⟩
end
end Go.AX
