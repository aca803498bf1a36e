/- surveyortop.TopDuality returns true for every linear expression and every list of constraints, and leaves both as they were. Conditions: those of the given row. -/
import Derived.Test.YtphliffdmedfbaaGreatDoorPe
import Derived.SliceStrings
import Derived.OpenShut
import Derived.LaidMore
import Derived.Test.YtphliffdmedfbaaGreatDoorTie
import Derived.Test.YtphliffdmedfbaaGreatDoorCards
import Derived.ProofKit
import Derived.Lay
import Derived.SevenTiedAt
import Derived.Below
import Derived.Carry
import Derived.Stop.Joined
set_option maxRecDepth 100000
set_option maxHeartbeats 8000000
set_option linter.all false
set_option exponentiation.threshold 5000
namespace Go.AX.Run
open Go.RowKit Go.Proofs Go.AX Go.Num Tryz
section
attribute [local simp] Qq Qh Qk Qr QR alen QK Zd QU QO Q4 QX Ji QP
theorem _root_.Go.AX.Qp.ofW{P:Program}{pl:Bool}{st:St}{α:Type}{c:Code}{Q:Exit→St→Prop}(I:α→St→Prop)(m:α→Nat)(x0:α)(h0:I x0 st)(round:∀x st,I x st→∃st2,YQ st st2∧Zv P pl c (qpn (fun st'=>∃y,I y st'∧m y<m x) Q) st2):Qp P pl c st Q :=
 Qe.loop I m x0 h0 fun x st hi=>by obtain⟨st2,hw,hv⟩:=round x st hi;exact Qe.weak hw ((Qd c st2 _ hv).mono fun e st' h=>by cases e<;>exact h)
theorem _root_.Go.AX.YQ.refl(st:St):YQ st st:=fun E B w0 a w hr=>⟨E,Env.le.refl E,hr⟩
def unL(k i:Nat):List Int:=(List.range k).map fun j=>if j=i then 1 else 0
def WC(m i:Nat):Fct:=⟨0,unL m i,0⟩
def coL(F:List Fct)(k:Nat)(d:Nat):List Int:=F.map fun f=>f.coef.getD k 0*(d:Int)
def We(co:List Rat)(F:List Fct)(k:Nat):Fct:=⟨1,coL F k (co.getD k 0).den,(co.getD k 0).num⟩
def du1(F:List Fct):Nat→List Fct
 | 0=>[]
 | i+1=>du1 F i++(match F[i]? with|some f=>if f.op=0 then[WC F.length i]else[]|none=>[])
def du2(co:List Rat)(F:List Fct):Nat→List Fct
 | 0=>du1 F F.length
 | k+1=>du2 co F k++[We co F k]
def qcv(co:List Rat)(F:List Fct):List Fct:=du2 co F co.length
def YK(F:List Fct):List Rat:=F.map fun f=>(f.const:Rat)
theorem qlo(z:Int)(hz:nd z.natAbs≤1000):Qg prog 15 [zs z,zs 1] (zs z):=by
 refine Qg.body func15 ntmps15 ?_;have n1:nd (1:Int).natAbs≤1000:=by rw[show(1:Int).natAbs=1 from rfl,Zo (by omega)];omega
 have hc:=Xx z 1 (by omega) (by omega);rw[Int.gcd_one]at hc;simp only[Int.natCast_one]at hc;have f1:=Wj z 1 (by omega) (by omega) (by decide);rw[Int.fdiv_one]at f1;have f2:=Wj 1 1 (by omega) (by omega) (by decide);rw[Int.fdiv_one]at f2;have hs:(1:Int).sign=1:=rfl;have hs1:=X8 1;rw[hs]at hs1;simp;refine Qc.pu hs1 ?_;simp;refine Qc.pu hc ?_;simp;refine Qc.pu f1 ?_;simp;refine Qc.pu f2 ?_;simp[zs1,str,bs];exact .dat _ 9 rfl
structure DB(co:List Rat)(c0:Rat)(xs:List Rat)(out:List Fct)(H:Qf)(N:Nat)(x y:AV):Prop where
 N3:3≤N
 b0:H.b 0=some ⟨25,2,[[.ro (ql co),rs c0]],false,some 1⟩
 b1:H.b 1=some ⟨25,2,[[.v (.slice none 0 0),.v (.string ByteArray.empty)]],false,some 1⟩
 b2:H.b 2=some ⟨25,2,[[x,rs c0]],false,some 1⟩
 ox:Yc prog 23 H 3 N x (ql xs)
 oy:Yc prog 40 H 3 N y (fl out)
theorem DB.ext{co:List Rat}{c0:Rat}{xs:List Rat}{out:List Fct}{H H':Qf}{N N':Nat}{x y:AV}(h:DB co c0 xs out H N x y)(hN:N≤N')(hH:∀id,id<N→H'.b id=H.b id):DB co c0 xs out H' N' x y :=
 ⟨Nat.le_trans h.N3 hN,(hH 0 (by have:=h.N3;omega)).trans h.b0,(hH 1 (by have:=h.N3;omega)).trans h.b1,(hH 2 (by have:=h.N3;omega)).trans h.b2,h.ox.same hN fun id b _ h2 _ _=>hH id h2,h.oy.same hN fun id b _ h2 _ _=>hH id h2⟩
structure DE(F:List Fct)(env:Nat→AV)(y:AV):Prop where
 e1:env 1=.ro (fl F)
 e2:env 2=.ptr 0 2 0 0
 e4:env 4=.ptr 1 2 0 0
 e6:env 6=.v (.int .i64 (F.length:Nat))
 e7:env 7=.ptr 2 2 0 0
 e8:env 8=y
theorem qt1:ZQ prog 40=true:=by kernel_rfl
theorem qtl:prog.cellsOf 40=4:=by kernel_rfl
theorem qt2:prog.underlying 26=some (.slice 40):=by kernel_rfl
theorem qt3:zlen prog 40=true:=by kernel_rfl
theorem qt0:prog.bytesOf 40≤1000:=by decide +kernel
theorem qq6:ZQ prog 38=true:=by kernel_rfl
theorem qfe:prog.cellsOf 38=1:=by kernel_rfl
theorem qsz:prog.underlying 37=some (.slice 38):=by kernel_rfl
theorem qsA:zlen prog 38=true:=by kernel_rfl
theorem qsy:prog.bytesOf 38≤1000:=by decide +kernel
theorem qrt{H:Qf}{N:Nat}{y:AV}{out:List Fct}(h:Yc prog 40 H 3 N y (fl out))(hN:3≤N)(g:Fct)(hl:out.length≤1000000) :
  ∃r H2 N2,(∀n env,aappend prog ⟨n,env,Qf.set H N ⟨40,4,[fcL g],false,some 1⟩,N+1⟩ 26 y (.ref N 4 0 1 none)=some (r,⟨n,env,H2,N2⟩))∧Yc prog 40 H2 3 N2 r (fl (out++[g]))∧N<N2∧∀id,id<N→(id<3∨∀b,H.b id=some b→b.ty≠40)→H2.b id=H.b id:=by
 obtain⟨r,H2,N2,h1,h2,_,h3,h4⟩:=Yc.qfu (t:=26) (c:=fcL g) h hN qt2 qt1 qt3 qtl (by omega) rfl (by simp[fcL,QR]) qt0 (by rw[Ji];exact hl);exact⟨r,H2,N2,h1,by simpa[fl]using h2,h3,h4⟩
theorem qsN{H:Qf}{N:Nat}{x:AV}{l:List Rat}(h:Yc prog 23 H 3 N x (ql l))(hN:3≤N)(v:Rat)(hl:l.length≤1000000) :
  ∃r H2,(∀n env,aappend prog ⟨n,env,H,N⟩ 22 x (.ro [[rs v]])=some (r,⟨n,env,H2,N+1⟩))∧Yc prog 23 H2 3 (N+1) r (ql (l++[v]))∧∀id,id<N→(id<3∨∀b,H.b id=some b→b.ty≠23)→H2.b id=H.b id:=by
 obtain⟨r,H2,h1,h2,_,h3⟩:=Yc.qrw (t:=22) (c:=[rs v]) h hN qtu qtt qtv qsd (by omega) rfl rfl (by rw[qts];omega) (by rw[QU];exact hl);exact⟨r,H2,h1,by simpa[ql]using h2,h3⟩
theorem qru{H:Qf}{lo N:Nat}{x:AV}{l:List Int}(h:Yc prog 38 H lo N x (zl l))(hN:lo≤N)(v:Int)(hl:l.length≤1000000) :
  ∃r H2,(∀n env,aappend prog ⟨n,env,H,N⟩ 37 x (.ro [[zs v]])=some (r,⟨n,env,H2,N+1⟩))∧Yc prog 38 H2 lo (N+1) r (zl (l++[v]))∧∀id,id<lo→H2.b id=H.b id:=by
 obtain⟨r,H2,h1,h2,_,h3⟩:=Yc.qrw (t:=37) (c:=[zs v]) h hN qsz qq6 qsA qfe (by omega) rfl rfl qsy (by rw[QO];exact hl);exact⟨r,H2,h1,by simpa[zl]using h2,fun id hid=>h3 id (by omega) (.inl hid)⟩
def RD3(co:List Rat)(c0:Rat)(F:List Fct)(k:Nat)(st:St):Prop:=k≤co.length∧∃env H N x y,st=⟨103,env,H,N⟩∧DB co c0 (YK F) (du2 co F k) H N x y∧DE F env y∧env 66=.ro (ql co)∧env 67=.v (.int .i64 (co.length:Nat))∧env 68=.v (.int .i64 (k:Nat))
def ctB(cs:List AV):Blk:=⟨40,4,[cs],false,some 1⟩
def RD1(co:List Rat)(c0:Rat)(F:List Fct)(i:Nat)(st:St):Prop:=i≤F.length∧∃env H N x y,st=⟨103,env,H,N⟩∧DB co c0 (YK (F.take i)) (du1 F i) H N x y∧DE F env y∧env 23=.ro (fl F)∧env 24=.v (.int .i64 (F.length:Nat))∧env 25=.v (.int .i64 (i:Nat))
def RD2(co:List Rat)(c0:Rat)(F:List Fct)(i N0 p:Nat)(x y:AV)(k:Nat)(st:St):Prop:=k≤F.length∧∃env H N z,st=⟨103,env,H,N⟩∧DB co c0 (YK (F.take (i+1))) (du1 F i) H N0 x y∧DE F env y∧env 23=.ro (fl F)∧env 24=.v (.int .i64 (F.length:Nat))∧env 25=.v (.int .i64 (i:Nat)) ∧
 env 9=.v (.int .i64 (i:Nat))∧env 11=.ptr p 4 0 0∧env 42=.v (.int .i64 (F.length:Nat))∧env 43=.v (.int .i64 (k:Nat))∧N0≤p∧p<N∧H.b p=some (ctB [.v (.int .i64 0),z,zs 0,zs 0])∧Yc prog 38 H (p+1) N z (zl (unL k i))
def RD4(co:List Rat)(c0:Rat)(F:List Fct)(k N0 p:Nat)(q:Rat)(x y:AV)(j:Nat)(st:St):Prop:=j≤F.length∧∃env H N z,st=⟨103,env,H,N⟩∧DB co c0 (YK F) (du2 co F k) H N0 x y∧DE F env y∧env 66=.ro (ql co)∧env 67=.v (.int .i64 (co.length:Nat))∧env 68=.v (.int .i64 (k:Nat)) ∧
 env 13=.v (.int .i64 (k:Nat))∧env 14=rs q∧env 15=.ptr p 4 0 0∧env 76=.ro (fl F)∧env 77=.v (.int .i64 (F.length:Nat))∧env 78=.v (.int .i64 (j:Nat))∧N0≤p∧p<N∧H.b p=some (ctB [.v (.int .i64 1),z,zs q.num,zs 0])∧Yc prog 38 H (p+1) N z (zl (coL (F.take j) k q.den))
theorem qqs(v:Int):abuild prog 40 [(0,.v (.int .i64 1)),(2,zs v),(3,.v (.string { data:=#[48] }))]=some (.agg [.v (.int .i64 1),.v (.slice none 0 0),zs v,zs 0]):=by rw[zs0];unfold zs str;kernel_rfl
theorem qid(F:List Fct):∀i,(du1 F i).length≤i:=fun i=>by
 induction i with
 | zero=>simp[du1]
 | succ i ih =>
  simp only[du1];split
  ·split<;>simp<;>omega
  ·simp;omega
theorem qie(co:List Rat)(F:List Fct):∀k,(du2 co F k).length≤F.length+k:=fun k=>by
 induction k with
 | zero=>exact qid F _
 | succ k ih=>simp only[du2];simp;omega
theorem qqr:abuild prog 40 [(2,.v (.string { data:=#[48] })),(3,.v (.string { data:=#[48] }))]=some (.agg [.v (.int .i64 0),.v (.slice none 0 0),zs 0,zs 0]):=by rw[zs0];kernel_rfl
theorem qnW(a:Int)(es:List (List AV))(s1 s2:ByteArray):Qz prog 26 1 [(0,.agg [.v (.int .i64 a),.ro es,.v (.string s1),.v (.string s2)])]=some (40,[[.v (.int .i64 a),.ro es,.v (.string s1),.v (.string s2)]]):=by kernel_rfl
theorem qmT(a:Int)(es:List (List AV))(b c:Int):Qz prog 26 1 [(0,.agg [.v (.int .i64 a),.ro es,zs b,zs c])]=some (40,[[.v (.int .i64 a),.ro es,zs b,zs c]]):=by unfold zs str;exact qnW a es _ _
theorem qfH{n:Nat}{env:Nat→AV}{H:Qf}{N id i:Nat}{v:Int}{ty:TypeId}{l:List Int}{cap:Option Nat}(hH:H.b id=some ⟨ty,1,zl l,false,cap⟩)(hi:i<l.length) :
  astore prog ⟨n,env,H,N⟩ 38 (.ptr id 1 i 0) (zs v)=some ⟨n,env,H.set id ⟨ty,1,zl (l.set i v),false,cap⟩,N⟩:=by
 have hg:(zl l)[i]?=some [zs l[i]]:=qaf l i hi;have hs:zl (l.set i v)=(zl l).set i [zs v]:=by simp[zl,List.map_set]
 simp only[astore,hH,qq6,qfe,hg,Qr];rw[if_pos ⟨trivial,trivial,trivial,rfl,by simp,by simp[QR]⟩];simp[WA,hs]
theorem qgo{H:Qf}{q id:Nat}(h:id≠q):(H.fr fun i=>i=q).b id=H.b id:=by
 rw[qhh];cases H.b id with
 | none=>rfl
 | some b=>simp[h]
theorem qkT{H:Qf}{q p:Nat}{l:List Int}{a b c:AV}{x:AV}{cap:Option Nat}(hx:x=.ref q 1 0 l.length none)(hq:H.b q=some ⟨38,1,zl l,false,cap⟩)(ha:Qu 9 a=true)(hb:Qu 9 b=true)(hc:Qu 9 c=true) :
  ∀i j x',QZ [[a,.ro (zl l),b,c]] i j=some x'→∃y,QZ [[a,x,b,c]] i j=some y∧Frz H (fun id=>id=q) (fun _=>True) y x':=fun i j x' h=>by
 have hf:Frz H (fun id=>id=q) (fun _=>True) (.ref q 1 0 l.length none) (.ro (zl l)):=by
  have:=Frz.KB (H:=H) (F:=fun id=>id=q) (G:=fun _=>True) (id:=q) (sz:=1) (off:=0) (len:=l.length) (mx:=none) rfl hq rfl (by simp[QO]) (fun e he c hc=>by rw[List.drop_zero]at he;have he':e∈zl l:=List.mem_of_mem_take he;obtain⟨z,_,rfl⟩:=List.mem_map.1 he';simp at hc;subst hc;exact .dat _ 9 (by simp[Qj]))
  rw[List.drop_zero,List.take_of_length_le (by rw[QO];exact Nat.le_refl _)]at this;exact this
 subst hx;cases i with
 | succ i=>simp[QZ]at h
 | zero =>
  match j,h with
  | 0,h=>cases h;exact⟨_,rfl,.dat _ 9 ha⟩
  | 1,h=>cases h;exact⟨_,rfl,hf⟩
  | 2,h=>cases h;exact⟨_,rfl,.dat _ 9 hb⟩
  | 3,h=>cases h;exact⟨_,rfl,.dat _ 9 hc⟩
  | j+4,h=>simp[QZ]at h
theorem qkU{H:Qf}{q:Nat}{l:List Int}{a b c:AV}(hl:zl l=[])(ha:Qu 9 a=true)(hb:Qu 9 b=true)(hc:Qu 9 c=true) :
  ∀i j x',QZ [[a,.ro (zl l),b,c]] i j=some x'→∃y,QZ [[a,.v (.slice none 0 0),b,c]] i j=some y∧Frz H (fun id=>id=q) (fun _=>True) y x':=fun i j x' h=>by
 rw[hl]at h;cases i with
 | succ i=>simp[QZ]at h
 | zero =>
  match j,h with
  | 0,h=>cases h;exact⟨_,rfl,.dat _ 9 ha⟩
  | 1,h=>cases h;exact⟨_,rfl,.nil⟩
  | 2,h=>cases h;exact⟨_,rfl,.dat _ 9 hb⟩
  | 3,h=>cases h;exact⟨_,rfl,.dat _ 9 hc⟩
  | j+4,h=>simp[QZ]at h
theorem qe5{n:Nat}{env:Nat→AV}{H:Qf}{N p:Nat}{z:AV}{l:List Int}{a b c:AV}(hpN:p<N)(hp:H.b p=some ⟨40,4,[[a,z,b,c]],false,some 1⟩)(hz:Yc prog 38 H (p+1) N z (zl l))(ha:Qu 9 a=true)(hb:Qu 9 b=true)(hc:Qu 9 c=true) :
  ∃G,YQ ⟨n,env,H,N⟩ ⟨n,env,G,N⟩∧G.b p=some ⟨40,4,[[a,.ro (zl l),b,c]],false,some 1⟩∧∀id,id<p→G.b id=H.b id:=by
 rcases hz with⟨rfl,hl⟩|⟨q,cap,hq1,hq2,rfl,hq⟩
 ·refine⟨_,YQ.frzc (st:=⟨n,env,H,N⟩) (fun id=>id=N) hp (by omega) (es':=[[a,.ro (zl l),b,c]]) rfl rfl (qkU hl ha hb hc),by simp,fun id hid=>?_⟩;rw[Qf.Yg,if_neg (by omega),qgo (by omega)]
 ·rw[qfe]at hp hq;rw[QO]at hp;refine⟨_,YQ.frzc (st:=⟨n,env,H,N⟩) (fun id=>id=q) hp (by omega) (es':=[[a,.ro (zl l),b,c]]) rfl rfl (qkT (p:=p) rfl hq ha hb hc),by simp,fun id hid=>?_⟩;rw[Qf.Yg,if_neg (by omega),qgo (by omega)]
theorem qfL(k i:Nat):unL (k+1) i=unL k i++[if k=i then 1 else 0]:=by simp[unL,List.range_succ]
theorem Ke(k i:Nat):(unL k i).length=k:=by simp[unL]
theorem qm7(z:Int):qdx prog 22 1 [(0,zs z)]=some (.ro [[zs z]]):=by unfold zs str;kernel_rfl
theorem qgJ(co:List Rat)(c0:Rat)(F:List Fct)(hL:Ln co c0)(hF:∀f∈F,FOk f co.length)(hm:F.length≤64):Qg prog 6 [ln co c0,.ro (fl F)] (.tup [ln (YK F) c0,.ro (fl (qcv co F))]):=by
 refine Qg.body func6 ntmps6 ?_;have hn:=hL.1;simp[qeT];refine Qp.of (RD1 co c0 F) (fun i=>F.length-i) 0 ⟨by omega,_,_,_,_,_,rfl,⟨by omega,by simp,by simp,by simp,.inl ⟨rfl,rfl⟩,.inl ⟨rfl,rfl⟩⟩,⟨by simp,by simp,by simp,by simp,by simp,by simp⟩,by simp,by simp,by simp⟩ ?_;rintro i _ ⟨hi,env,H,N,x,y,rfl,hD,⟨e1,e2,e4,e6,e7,e8⟩,e23,e24,e25⟩;have w1:IntKind.i64.wrap ((i:Int)+1)=((i+1:Nat):Int):=by rw[Ql (by omega) (by omega)];omega
 by_cases hiN:i<F.length
 ·have hok:=hF F[i] (List.getElem_mem hiN);have hFi:F[i]?=some F[i]:=List.getElem?_eq_getElem hiN;have hdc:YK (F.take (i+1))=YK (F.take i)++[(F[i].const:Rat)]:=by unfold YK;rw[List.take_succ_eq_append_getElem hiN,List.map_append];rfl
  have hd1:du1 F (i+1)=du1 F i++(if F[i].op=0 then[WC F.length i]else[]):=by simp only[du1,hFi]
  have hg:=qaF F i hiN;obtain⟨hzl,hge⟩:=List.getElem?_eq_some_iff.1 hg;generalize F[i]=f at hok hdc hd1 hge;unfold fcL at hge;have hN3:=hD.N3;simp[e2,e23,e24,e25,hiN,hge,aload];have hfr:=qlo f.const (by have:=hok.k;omega);rw[zs1]at hfr;generalize hG:((H.set N _).set N _)=G;have hGb:∀id,G.b id=if id=N then some (ctB [.v (.int .i64 f.op),.ro (zl f.coef),zs f.const,zs 0])else H.b id:=fun id=>by rw[←hG];simp only[Qf.Yg,ctB];split<;>rfl
  clear hG;have hD1:DB co c0 (YK (F.take i)) (du1 F i) G (N+1) x y:=hD.ext (Nat.le_succ _) fun id h=>by rw[hGb,if_neg (by omega)]
  have hGN:G.b N=some (ctB [.v (.int .i64 f.op),.ro (zl f.coef),zs f.const,zs 0]):=by rw[hGb,if_pos rfl]
  clear hGb hD;obtain⟨r,H2,hr,ho2,hH2⟩:=qsN hD1.ox (by omega) (f.const:Rat) (by simp[YK];omega);rw[qeq]at hr;have hGN':=hGN;unfold ctB at hGN';have q2:=(hH2 2 (by omega) (.inl (by omega))).trans hD1.b2;have qN:=(hH2 N (by omega) (.inr fun b hb=>by rw[hGN]at hb;injection hb with hb;rw[←hb];simp[ctB])).trans hGN';have q0:=(hH2 0 (by omega) (.inl (by omega))).trans hD1.b0;have q1:=(hH2 1 (by omega) (.inl (by omega))).trans hD1.b1;refine Qm.walk (fun _=>true) mixed ?_;simp[Q0,e7,hD1.b2,hGN',show 2<N+1 by omega];refine QF.pure (k:=9) hfr ?_ ?_ ?_
  ·rfl
  ·rfl
  obtain⟨hr1,hr2,hr3⟩:=ho2.one;have hD2:DB co c0 (YK (F.take (i+1))) (du1 F i) (H2.set 2 ⟨25,2,[[r,rs c0]],false,some 1⟩) (N+2) r y:=⟨by omega,by simp[q0],by simp[q1],by simp,by
    rw[hdc];exact ho2.same (Nat.le_refl _) fun id b h1 _ _ _=>by simp[show id≠2 by omega],hD1.oy.same (Nat.le_succ _) fun id b h1 h2 h3 h4=>by
    simp[show id≠2 by omega];exact hH2 id h2 (.inr fun b' hb'=>by rw[h3]at hb';injection hb' with hb';rw[←hb',h4];decide)⟩
  have qN2:(H2.set 2 ⟨25,2,[[r,rs c0]],false,some 1⟩).b N=some (ctB [.v (.int .i64 f.op),.ro (zl f.coef),zs f.const,zs 0]):=by simp[show N≠2 by omega,qN,ctB]
  by_cases hop:f.op=0
  ·rw[if_pos hop]at hd1;simp[Q0,qm7,hr,q2,qN,hr1,hr2,e6,e7,e25,show ¬N=2 by omega,hop,qqr];refine⟨Zg.ofM (by kernel_rfl),?_⟩;refine Qp.ofW (RD2 co c0 F i (N+2) (N+2) r y) (fun k=>F.length-k) 0 ⟨by omega,_,_,_,_,rfl,hD2.ext (Nat.le_refl _) (fun id hid=>by simp[show id≠N+2 by omega]),⟨by simp[e1],by simp[e2],by simp[e4],by simp[e6],by simp[e7],by simp[e8]⟩,by simp[e23],by simp[e24],by simp[e25],by simp,by simp,by simp,by simp,Nat.le_refl _,Nat.lt_succ_self _,by simp[ctB],.inl ⟨rfl,rfl⟩⟩ ?_;clear hD2 hD1 e1 e2 e4 e6 e7 e8 e23 e24 e25 ho2 hr1 hr2 hr3 hH2 hGN hGN' q2 qN q0 q1 qN2 hr;generalize N+2=p;rintro k _ ⟨hk,env,H,N,z,rfl,hD,⟨e1,e2,e4,e6,e7,e8⟩,e23,e24,e25,e9,e11,e42,e43,hNp,hpN,hp,hz⟩;have hp':=hp;unfold ctB at hp';by_cases hkN:k<F.length
   ·refine⟨_,YQ.refl _,?_⟩;have w2:IntKind.i64.wrap ((k:Int)+1)=((k+1:Nat):Int):=by rw[Ql (by omega) (by omega)];omega
    obtain⟨r2,H2,hr,ho2,hH2⟩:=qru hz (by omega) 0 (by rw[Ke];omega);obtain⟨hr1,hr2,hr3⟩:=ho2.one;have qp:=(hH2 p (by omega)).trans hp';have hwh:=K4 0 (by omega) (by omega);simp[e8,e11,e42,e43,hkN];refine Qm.walk (fun _=>true) mixed ?_;simp[Q0,e11,hp',hpN];refine QF.pure (k:=9) hwh ?_ ?_ ?_
    ·rfl
    ·rfl
    by_cases hki:k=i
    ·subst hki;rcases ho2 with⟨_,hz2⟩|⟨q,cap,hq1,hq2,rfl,hq⟩
     ·have:=congrArg List.length hz2;rw[QO,List.length_append,List.length_singleton,List.length_nil]at this;omega
     rw[QO,List.length_append,List.length_singleton,Ke,qfe]at hr1 hr2 hr3 hr;rw[qfe]at hq;have hqp:¬q=p:=by omega
     have hpq:¬p=q:=by omega
     have hul:(unL k k++[0]).set k 1=unL (k+1) k:=by rw[qfL,if_pos rfl,List.set_append,Ke,if_neg (Nat.lt_irrefl _),Nat.sub_self];rfl
     have hst:∀n env N,astore prog ⟨n,env,H2.set p (ctB [.v (.int .i64 0),.ref q 1 0 (k+1) none,zs 0,zs 0]),N⟩ 38 (.ptr q 1 k 0) (.v (.string { data:=#[49] }))=some ⟨n,env,(H2.set p (ctB [.v (.int .i64 0),.ref q 1 0 (k+1) none,zs 0,zs 0])).set q ⟨38,1,zl (unL (k+1) k),false,cap⟩,N⟩:=fun n env N=>by have:=qfH (v:=1) (n:=n) (env:=env) (N:=N) (H:=H2.set p (ctB [.v (.int .i64 0),.ref q 1 0 (k+1) none,zs 0,zs 0])) (id:=q) (i:=k) (l:=unL k k++[0]) (cap:=cap) (ty:=38) (by simp[hqp,hq]) (by simp[Ke]);rw[zs1,hul]at this;exact this
     unfold ctB at hst;simp[-Int.natCast_add,Q0,qlC,hr,qp,e9,e11,e43,hst,show k<k+1 by omega,w2];refine⟨Zg.ofM (by kernel_rfl),k+1,⟨by omega,_,_,_,.ref q 1 0 (k+1) none,rfl,hD.ext (Nat.le_refl _) (fun id hid=>by simp[show ¬id=q by omega,show ¬id=p by omega];exact hH2 id (by omega)),⟨by simp[e1],by simp[e2],by simp[e4],by simp[e6],by simp[e7],by simp[e8]⟩,by simp[e23],by simp[e24],by simp[e25],by simp[e9],by simp[e11],by simp[e42],by simp,Nat.le_refl _,by omega,by simp[ctB,hpq],.inr ⟨q,cap,hq1,hq2,by rw[QO,Ke,qfe],by simp⟩⟩,by omega⟩
    ·have hul:unL (k+1) i=unL k i++[0]:=by rw[qfL,if_neg hki]
     have hki':¬(k:Int)=(i:Int):=by omega
     simp[-Int.natCast_add,Q0,qlC,hr,qp,hr1,hr2,e9,e11,e43,hki',w2];refine⟨Zg.ofM (by kernel_rfl),k+1,⟨by omega,_,_,_,r2,rfl,hD.ext (Nat.le_refl _) (fun id hid=>by simp[show ¬id=p by omega];exact hH2 id (by omega)),⟨by simp[e1],by simp[e2],by simp[e4],by simp[e6],by simp[e7],by simp[e8]⟩,by simp[e23],by simp[e24],by simp[e25],by simp[e9],by simp[e11],by simp[e42],by simp,hNp,by omega,by simp[ctB],by rw[hul];exact ho2.same (Nat.le_refl _) fun id b h1 h2 _ _=>by simp[show ¬id=p by omega]⟩,by omega⟩
   ·have hkE:k=F.length:=by omega
    subst hkE;obtain⟨G,hW,hGp,hGb⟩:=qe5 (n:=103) (env:=env) hpN hp' hz (by simp) (by simp[Qj]) (by simp[Qj]);refine⟨_,hW,?_⟩;have hDG:=hD.ext (Nat.le_refl _) hGb;have h3p:=hD.N3;obtain⟨r3,H3,N3,hr3,ho3,hN3',hH3⟩:=qrt (hDG.oy.same (Nat.le_of_lt hpN) fun _ _ _ _ _ _=>rfl) (by omega) (WC F.length i) (by have:=qid F i;omega);simp only[fcL,WC]at hr3;simp[-Int.natCast_add,e8,e11,e25,e42,e43,hGp,qmT,Qs,hr3,w1];refine⟨i+1,⟨by omega,_,H3,N3,r,r3,rfl,⟨by omega,(hH3 0 (by omega) (.inl (by omega))).trans hDG.b0,(hH3 1 (by omega) (.inl (by omega))).trans hDG.b1,(hH3 2 (by omega) (.inl (by omega))).trans hDG.b2,hDG.ox.same (by omega) fun id b h1 h2 h4 h5=>hH3 id (by omega) (.inr fun b' hb'=>by rw[h4]at hb';injection hb' with hb';rw[←hb',h5];decide),by rw[hd1];exact ho3⟩,⟨by simp[e1],by simp[e2],by simp[e4],by simp[e6],by simp[e7],by simp⟩,by simp[e23],by simp[e24],by simp⟩,by omega⟩
  ·rw[if_neg hop,List.append_nil]at hd1;simp[-Int.natCast_add,Q0,qm7,hr,q2,qN,hr1,hr2,e7,e25,show ¬N=2 by omega,hop,w1];refine⟨Zg.ofM (by kernel_rfl),i+1,⟨by omega,_,_,_,r,y,rfl,by rw[hd1];exact hD2,⟨by simp[e1],by simp[e2],by simp[e4],by simp[e6],by simp[e7],by simp[e8]⟩,by simp[e23],by simp[e24],by simp⟩,by omega⟩
 ·have hiE:i=F.length:=by omega
  subst hiE;rw[List.take_length]at hD;simp[e2,e23,e24,e25,hD.b0];refine Qp.of (RD3 co c0 F) (fun k=>co.length-k) 0 ⟨by omega,_,_,_,x,y,rfl,hD,⟨by simp[e1],by simp[e2],by simp[e4],by simp[e6],by simp[e7],by simp[e8]⟩,by simp,by simp,by simp⟩ ?_;clear hD e1 e2 e4 e6 e7 e8 e23 e24 e25 w1 hiN hi;rintro k _ ⟨hk,env,H,N,x,y,rfl,hD,⟨e1,e2,e4,e6,e7,e8⟩,e66,e67,e68⟩;have w1:IntKind.i64.wrap ((k:Int)+1)=((k+1:Nat):Int):=by rw[Ql (by omega) (by omega)];omega
  by_cases hkN:k<co.length
  ·have hq:=hL.2.1 co[k] (List.getElem_mem hkN);have hge:=Q4 co k (by rw[QU];exact hkN);have hd2:du2 co F (k+1)=du2 co F k++[⟨1,coL F k co[k].den,co[k].num⟩]:=by simp[du2,We,List.getD_eq_getElem?_getD,hkN]
   generalize co[k]=q at hq hge hd2;have hlq:(rt q).length≤1000000:=by have:=qfA q;omega
   simp[-Q4,e7,e66,e67,e68,hkN,hge,aload];refine Qc.pv (V0 q hlq) (by simp[Qn]) rfl ?_;simp[qqs,e1];refine Qp.ofW (RD4 co c0 F k N N q x y) (fun j=>F.length-j) 0 ⟨by omega,_,_,_,_,rfl,hD.ext (Nat.le_refl _) (fun id hid=>by simp[show id≠N by omega]),⟨by simp[e1],by simp[e2],by simp[e4],by simp[e6],by simp[e7],by simp[e8]⟩,by simp[e66],by simp[e67],by simp[e68],by simp,by simp,by simp,by simp,by simp,by simp,Nat.le_refl _,Nat.lt_succ_self _,by simp[ctB],.inl ⟨rfl,rfl⟩⟩ ?_;clear hD e1 e2 e4 e6 e7 e8 e66 e67 e68;generalize hNp:N=p;rintro j _ ⟨hj,env,H,N,z,rfl,hD,⟨e1,e2,e4,e6,e7,e8⟩,e66,e67,e68,e13,e14,e15,e76,e77,e78,_,hpN,hp,hz⟩;have hp':=hp;unfold ctB at hp';by_cases hjN:j<F.length
   ·refine⟨_,YQ.refl _,?_⟩;have w2:IntKind.i64.wrap ((j:Int)+1)=((j+1:Nat):Int):=by rw[Ql (by omega) (by omega)];omega
    have hok:=hF F[j] (List.getElem_mem hjN);have hcl:coL (F.take (j+1)) k q.den=coL (F.take j) k q.den++[F[j].coef.getD k 0*(q.den:Nat)]:=by unfold coL;rw[List.take_succ_eq_append_getElem hjN,List.map_append];rfl
    have hgf:=qaF F j hjN;obtain⟨hzl,hgef⟩:=List.getElem?_eq_some_iff.1 hgf;generalize F[j]=f at hok hcl hgef;unfold fcL at hgef;have hkf:k<f.coef.length:=by rw[hok.l];exact hkN
    have hgz:=qaf f.coef k hkf;have hnz:=hok.c _ (List.getElem_mem hkf);have hgd:f.coef.getD k 0=f.coef[k]:=by simp[List.getD_eq_getElem?_getD,hkf]
    rw[hgd]at hcl;generalize f.coef[k]=v at hgz hnz hcl;have hpr:=WW v (q.den:Nat) (by omega) (by rw[Int.natAbs_natCast];unfold szq at hq;omega);simp[e8,e15,e76,e77,e78,hjN,hgef,aload];generalize hG:((H.set N _).set N _)=G;have hGb:∀id,G.b id=if id=N then some (ctB [.v (.int .i64 f.op),.ro (zl f.coef),zs f.const,zs 0])else H.b id:=fun id=>by rw[←hG];simp only[Qf.Yg,ctB];split<;>rfl
    clear hG;have hz1:=hz.same (H':=G) (Nat.le_succ N) fun id b _ h2 _ _=>by rw[hGb,if_neg (by omega)]
    have hD1:=hD.ext (H':=G) (Nat.le_refl _) fun id h=>by rw[hGb,if_neg (by omega)]
    have hGN:G.b N=some ⟨40,4,[[.v (.int .i64 f.op),.ro (zl f.coef),zs f.const,zs 0]],false,some 1⟩:=by rw[hGb,if_pos rfl];rfl
    have hGp:G.b p=some ⟨40,4,[[.v (.int .i64 1),z,zs q.num,zs 0]],false,some 1⟩:=by rw[hGb,if_neg (by omega)];exact hp'
    clear hGb hD hz;obtain⟨r2,H2,hr,ho2,hH2⟩:=qru hz1 (by omega) (v*(q.den:Nat)) (by unfold coL;simp;omega);obtain⟨hr1,hr2,hr3⟩:=ho2.one;have qp:=(hH2 p (by omega)).trans hGp;refine Qm.walk (fun _=>true) mixed ?_;simp[Q0,e13,e14,e15,hGp,hGN,hgz,show N<N+1 by omega,show p<N+1 by omega];refine QF.pure (k:=9) (Vr q hlq) ?_ ?_ ?_
    ·simp[Qn]
    ·rfl
    simp;refine QF.pure (k:=9) hpr ?_ ?_ ?_
    ·simp[Qj]
    ·rfl
    simp[-Int.natCast_add,Q0,qlC,hr,qp,hr1,hr2,e15,e78,w2];refine⟨Zg.ofM (by kernel_rfl),j+1,⟨by omega,_,_,_,r2,rfl,hD1.ext (Nat.le_refl _) (fun id hid=>by simp[show ¬id=p by omega];exact hH2 id (by omega)),⟨by simp[e1],by simp[e2],by simp[e4],by simp[e6],by simp[e7],by simp[e8]⟩,by simp[e66],by simp[e67],by simp[e68],by simp[e13],by simp[e14],by simp[e15],by simp[e76],by simp[e77],by simp,Nat.le_refl _,by omega,by simp[ctB],by rw[hcl];exact ho2.same (Nat.le_refl _) fun id b h1 h2 _ _=>by simp[show ¬id=p by omega]⟩,by omega⟩
   ·have hjE:j=F.length:=by omega
    subst hjE;rw[List.take_length]at hz;obtain⟨G,hW,hGp,hGb⟩:=qe5 (n:=103) (env:=env) hpN hp' hz (by simp) (by simp[Qj]) (by simp[Qj]);refine⟨_,hW,?_⟩;have hDG:=hD.ext (Nat.le_refl _) hGb;have h3p:=hD.N3;obtain⟨r3,H3,N3,hr3,ho3,hN3',hH3⟩:=qrt (hDG.oy.same (Nat.le_of_lt hpN) fun _ _ _ _ _ _=>rfl) (by omega) ⟨1,coL F k q.den,q.num⟩ (by have:=qie co F k;omega);simp only[fcL]at hr3;simp[-Int.natCast_add,e8,e15,e68,e76,e77,e78,hGp,qmT,Qs,hr3,w1];refine⟨k+1,⟨by omega,_,H3,N3,x,r3,rfl,⟨by omega,(hH3 0 (by omega) (.inl (by omega))).trans hDG.b0,(hH3 1 (by omega) (.inl (by omega))).trans hDG.b1,(hH3 2 (by omega) (.inl (by omega))).trans hDG.b2,hDG.ox.same (by omega) fun id b h1 h2 h4 h5=>hH3 id (by omega) (.inr fun b' hb'=>by rw[h4]at hb';injection hb' with hb';rw[←hb',h5];decide),by rw[hd2];exact ho3⟩,⟨by simp[e1],by simp[e2],by simp[e4],by simp[e6],by simp[e7],by simp⟩,by simp[e66],by simp[e67],by simp⟩,by omega⟩
  ·have hkE:k=co.length:=by omega
   subst hkE;obtain⟨hr1,hr2,hr3⟩:=hD.ox.one;simp[e4,e7,e8,e66,e67,e68,hD.b2,hD.b1,hr2];have ox1:=hD.ox.same (H':=H.set 1 ⟨25,2,[[x,rs c0]],false,some 1⟩) (Nat.le_refl _) fun id b h1 _ _ _=>by simp[show id≠1 by omega]
   have oy1:=hD.oy.same (H':=H.set 1 ⟨25,2,[[x,rs c0]],false,some 1⟩) (Nat.le_refl _) fun id b h1 _ _ _=>by simp[show id≠1 by omega]
   refine Wl (.cons (qiO (ox1.frz (fun _ _ _=>trivial) fun e he c hc=>?_)) (.cons (oy1.frz (fun _ _ _=>trivial) fun e he c hc=>?_) .nil))
   ·obtain⟨v,_,rfl⟩:=List.mem_map.1 he;simp at hc;subst hc;exact .v _
   ·obtain⟨g,_,rfl⟩:=List.mem_map.1 he;exact .dat _ 9 (by simp[fcL]at hc;rcases hc with rfl|rfl|rfl|rfl<;>simp[zl,Qj])
end
end Go.AX.Run
namespace Go.AX.Run
open Go.RowKit Go.Proofs Go.AX Go.Num
def qkk(n:Nat)(f:Fct)(x:Nat→Rat):Rat:=LP.sm n fun j=>((f.coef.getD j 0:Int):Rat)*x j
def qr4(n:Nat)(x:Nat→Rat)(f:Fct):Prop:=0≤qkk n f x+(f.const:Rat)∧(f.op=1→qkk n f x+(f.const:Rat)=0)
def qta(n:Nat)(x:Nat→Rat)(f:Fct):Prop:=0≤qkk n f x∧(f.op=1→qkk n f x=0)
theorem qbJ(co:List Rat)(c0:Rat)(F:List Fct)(x:Nat→Rat):(QS co c0 F).Vn x↔∀f∈F,qr4 co.length x f:=by
 unfold LP.Prg.Vn;constructor
 ·intro h f hf;obtain⟨i,hi,rfl⟩:=List.mem_iff_getElem.1 hf;have:=h i hi;simp only[QS,LP.Prg.lin,List.getElem?_eq_getElem hi,decide_eq_true_eq]at this;exact this
 ·intro h i hi;have hi:i<F.length:=hi;have:=h F[i] (List.getElem_mem hi);simp only[QS,LP.Prg.lin,List.getElem?_eq_getElem hi,decide_eq_true_eq];exact this
theorem qje(co:List Rat)(c0:Rat)(F:List Fct)(x:Nat→Rat):(QS co c0 F).Rec x↔∀f∈F,qta co.length x f:=by
 unfold LP.Prg.Rec;constructor
 ·intro h f hf;obtain⟨i,hi,rfl⟩:=List.mem_iff_getElem.1 hf;have:=h i hi;simp only[QS,LP.Prg.lin,List.getElem?_eq_getElem hi,decide_eq_true_eq]at this;exact this
 ·intro h i hi;have hi:i<F.length:=hi;have:=h F[i] (List.getElem_mem hi);simp only[QS,LP.Prg.lin,List.getElem?_eq_getElem hi,decide_eq_true_eq];exact this
theorem qd0(F:List Fct)(R:Fct→Prop):∀i,i≤F.length→((∀g∈du1 F i,R g)↔∀(j:Nat) (h:j<F.length),j<i→F[j].op=0→R (WC F.length j)):=fun i=>by
 induction i with
 | zero=>intro _;simp[du1]
 | succ i ih =>
  intro hi;have ih:=ih (by omega);have hF:F[i]?=some F[i]:=List.getElem?_eq_getElem (by omega);simp only[du1,hF,List.mem_append];constructor
  ·intro h j hj hji ho;by_cases hq:j=i
   ·subst hq;exact h _ (.inr (by simp[ho]))
   ·exact ih.1 (fun g hg=>h g (.inl hg)) j hj (by omega) ho
  ·rintro h g (hg|hg)
   ·exact ih.2 (fun j hj hji ho=>h j hj (by omega) ho) g hg
   ·by_cases ho:F[i].op=0
    ·simp[ho]at hg;subst hg;exact h i (by omega) (by omega) ho
    ·simp[ho]at hg
theorem qd1(co:List Rat)(F:List Fct)(R:Fct→Prop):∀k,((∀g∈du2 co F k,R g)↔(∀g∈du1 F F.length,R g)∧∀j,j<k→R (We co F j)):=fun k=>by
 induction k with
 | zero=>simp[du2]
 | succ k ih =>
  simp only[du2,List.mem_append,List.mem_singleton];constructor
  ·intro h;obtain⟨h1,h2⟩:=ih.1 fun g hg=>h g (.inl hg);refine⟨h1,fun j hj=>?_⟩;by_cases hq:j=k
   ·subst hq;exact h _ (.inr rfl)
   ·exact h2 j (by omega)
  ·rintro⟨h1,h2⟩ g (hg|rfl)
   ·exact ih.2 ⟨h1,fun j hj=>h2 j (by omega)⟩ g hg
   ·exact h2 k (by omega)
theorem qmw(m i j:Nat)(hj:j<m):(unL m i).getD j 0=if j=i then 1 else 0:=by simp[unL,List.getD_eq_getElem?_getD,hj]
theorem Jb(n i:Nat)(f:Nat→Rat)(hi:i<n):LP.sm n (fun j=>(if j=i then 1 else 0)*f j)=f i:=by
 induction n with
 | zero=>omega
 | succ n ih =>
  simp only[LP.sm];by_cases hq:i=n
  ·subst hq;rw[LP.Jc fun j hj=>by rw[if_neg (by omega)];grind];simp;grind
  ·rw[ih (by omega),if_neg (fun h=>hq h.symm)];grind
theorem XB(m i:Nat)(y:Nat→Rat)(hi:i<m):qkk m (WC m i) y=y i:=by rw[←Jb m i y hi];refine LP.Qy fun j hj=>?_;simp only[WC];rw[qmw m i j hj];by_cases hq:j=i<;>simp[hq]
theorem qe2(co:List Rat)(c0:Rat)(F:List Fct)(k:Nat)(y:Nat→Rat):qkk F.length (We co F k) y=((co.getD k 0).den:Rat)*(QS co c0 F).comb y k:=by unfold LP.Prg.comb qkk;rw[←LP.Ja];refine LP.Qy fun j hj=>?_;have hj:j<F.length:=hj;simp only[We,coL,QS,List.getElem?_eq_getElem hj,List.getD_eq_getElem?_getD,List.getElem?_map,Option.map_some,Option.getD_some];rw[Rat.intCast_mul];show _*((co.getD k 0).den:Rat)*y j=_;simp only[List.getD_eq_getElem?_getD];grind
theorem qjd(co:List Rat)(c0:Rat)(F:List Fct)(hF:∀f∈F,f.op=0∨f.op=1)(y:Nat→Rat):(QS co c0 F).Pos y↔∀(j:Nat) (h:j<F.length),F[j].op=0→0≤y j:=by
 unfold LP.Prg.Pos;constructor
 ·intro h j hj ho;refine h j hj ?_;simp[QS,List.getElem?_eq_getElem hj,ho]
 ·intro h j hj he;have hj:j<F.length:=hj;simp only[QS,List.getElem?_eq_getElem hj,decide_eq_false_iff_not]at he;exact h j hj ((hF F[j] (List.getElem_mem hj)).resolve_right he)
theorem Xy(q:Rat):(0:Rat)<(q.den:Rat):=by have:=q.den_pos;exact_mod_cast this
theorem qoh(co:List Rat)(c0:Rat)(F:List Fct)(hF:∀f∈F,f.op=0∨f.op=1):LP.qs9 (QS co c0 F) (QS ((YK F).map fun q=>-q) (-c0) (qcv co F)):=by
 have hn:((YK F).map fun q=>-q).length=F.length:=by simp[YK]
 have hcst:∀y,LP.sm F.length (fun j=>(((YK F).map fun q=>-q).getD j 0)*y j) =-(QS co c0 F).cst y:=fun y=>by unfold LP.Prg.cst;rw[←LP.qaT];refine LP.Qy fun j hj=>?_;have hj:j<F.length:=hj;simp only[QS,YK,List.getD_eq_getElem?_getD,List.getElem?_map,List.getElem?_eq_getElem hj,Option.map_some,Option.getD_some];grind
 refine⟨fun y=>?_,fun y=>?_,fun y=>?_,fun y=>?_⟩
 ·rw[qbJ,hn,qjd co c0 F hF];show(∀f∈du2 co F co.length,_)↔_;rw[qd1,qd0 F _ _ (Nat.le_refl _)];refine and_congr ⟨fun h j hj ho=>?_,fun h j hj _ ho=>?_⟩ (forall_congr' fun j=>forall_congr' fun hj=>?_)
  ·have:=(h j hj hj ho).1;rw[XB _ _ _ hj]at this;simpa[WC,Rat.add_zero]using this
  ·refine⟨?_,fun h=>by simp[WC]at h⟩;rw[XB _ _ _ hj];simpa[WC,Rat.add_zero]using h j hj ho
  ·unfold qr4;rw[qe2 co c0];have hnum:(((We co F j).const:Int):Rat)=((co.getD j 0).den:Rat)*co.getD j 0:=by simp only[We];rw[←qjj];grind
   have hop:(We co F j).op=1:=rfl;have hc:(QS co c0 F).c j=co.getD j 0:=rfl;rw[hnum,hop,hc];have hd:=Xy (co.getD j 0);generalize (QS co c0 F).comb y j=a;generalize ((co.getD j 0).den:Rat)=d at hd;generalize co.getD j 0=c;constructor
   ·intro h;have h:=h.2 rfl;have h1:d*(c+a)=0:=by grind
    rcases Rat.mul_eq_zero.1 h1 with h2|h2
    ·grind
    ·exact h2
   ·intro h;have h1:d*a+d*c=0:=by
     have:d*a+d*c=d*(c+a):=by grind
     rw[this,h];grind
    exact⟨by rw[h1];exact Rat.le_refl,fun _=>h1⟩
 ·show LP.sm ((YK F).map fun q=>-q).length _+-c0=_;rw[hn];have:=hcst y;show LP.sm F.length (fun j=>(((YK F).map fun q=>-q).getD j 0)*y j)+-c0 = -(c0+(QS co c0 F).cst y);rw[this];grind
 ·rw[qje,hn,qjd co c0 F hF];show(∀f∈du2 co F co.length,_)→_;rw[qd1,qd0 F _ _ (Nat.le_refl _)];rintro⟨h1,h2⟩;refine⟨fun j hj ho=>?_,fun j hj=>?_⟩
  ·have:=(h1 j hj hj ho).1;rwa[XB _ _ _ hj]at this
  ·have:=(h2 j hj).2 rfl;rw[qe2 co c0]at this;have hd:=Xy (co.getD j 0);rcases Rat.mul_eq_zero.1 this with h3|h3
   ·grind
   ·exact h3
 ·show LP.sm ((YK F).map fun q=>-q).length _=_;rw[hn];exact hcst y
end Go.AX.Run
namespace Go.AX.Run
open Go.RowKit Go.Proofs Go.AX Go.Num Tryz
section
attribute [local simp] Qq Qh Qk Qr QR alen QK Zd QU QO Q4 QX Ji QP
def qsg(f:Fct):RF:=⟨f.op,f.coef.map il,il f.const,il 0⟩
theorem qlX(f:Fct):rfL (qsg f)=fcL f:=by simp[rfL,qsg,fcL,qrL];exact⟨rfl,rfl⟩
theorem qfz(F:List Fct):rfs (F.map qsg)=fl F:=by simp[rfs,fl,qlX]
theorem qnx{a b:Int}(h:zs a=zs b):a=b:=by unfold zs str at h;injection h with h;injection h with h;exact K7 (Z8.1 h)
theorem qnv:∀{a b:List Int},zl a=zl b→a=b
 | [],[],_=>rfl
 | [],_::_,h=>by simp[zl]at h
 | _::_,[],h=>by simp[zl]at h
 | x::a,y::b,h=>by simp only[zl,List.map_cons,List.cons.injEq]at h;obtain⟨⟨h1,_⟩,h2⟩:=h;rw[qnx h1,qnv h2]
theorem qoo{f g:Fct}(h:fcL f=fcL g):f=g:=by obtain⟨a,b,c⟩:=f;obtain⟨a',b',c'⟩:=g;simp only[fcL,List.cons.injEq,AV.v.injEq,AV.ro.injEq,Value.int.injEq]at h;obtain⟨⟨_,rfl⟩,h2,h3,_⟩:=h;rw[qnv h2,qnx h3]
theorem qm0:∀{F G:List Fct},fl F=fl G→F=G
 | [],[],_=>rfl
 | [],_::_,h=>by simp[fl]at h
 | _::_,[],h=>by simp[fl]at h
 | x::a,y::b,h=>by simp only[fl,List.map_cons,List.cons.injEq]at h;rw[qoo h.1,qm0 h.2]
def CkF(co:List Rat)(F:List Fct)(r:AV):Prop:=∃e:Int,r=.v (.int .i64 e)∧(e=0→∀f∈F,FOk f co.length)
theorem CkF.data{co:List Rat}{F:List Fct}{r:AV}(h:CkF co F r):Qu 9 r=true:=by obtain⟨b,rfl,_⟩:=h;rfl
theorem qga(co:List Rat)(c0:Rat)(F:List Fct)(hc:∀q∈c0::co,szq q≤1000)(hl:co.length≤1000000)(hF:∀f∈F,nd f.const.natAbs≤4000∧∀z∈f.coef,nd z.natAbs≤4000)(hm:F.length≤1000000) :
  Y6 prog 7 [ln co c0,.ro (fl F)] (CkF co F):=by
 have h:=qax (co.map rt) (rt c0) (F.map qsg) (fun s hs=>by
  obtain⟨q,hq,rfl⟩:=List.mem_map.1 hs;have h1:=hc q (List.mem_cons_of_mem _ hq);have h2:=qfA q;omega) (by
  have h1:=hc c0 (List.mem_cons_self ..);have h2:=qfA c0;omega) (by simpa using hl) (fun f hf s hs=>by
  obtain⟨g,hg,rfl⟩:=List.mem_map.1 hf;obtain⟨h1,h2⟩:=hF g hg;have h3:∃z,s=il z∧nd z.natAbs≤4000:=by
   rcases List.mem_append.1 hs with h|h
   ·obtain⟨z,hz,rfl⟩:=List.mem_map.1 h;exact⟨z,rfl,h2 z hz⟩
   ·rw[List.mem_singleton.1 h];exact⟨_,rfl,h1⟩
  obtain⟨z,rfl,hz⟩:=h3;rw[Z3];split<;>omega) (by simp;omega)
 rw[qfz,qpu]at h;refine Qc.mono h fun r H N h=>?_;obtain⟨e,rfl,he⟩:=h;refine⟨e,rfl,fun h0=>?_⟩;obtain⟨co',c',F',q1,q2,q3,q4,q5,q6,q7⟩:=he h0;rw[qfz]at q3;have hF:=qm0 q3;have hl:co.length=co'.length:=by have:=congrArg List.length q1;simpa using this
 rw[hF,hl];exact q6
structure qtx(n:Nat)(g:Fct):Prop where
 l:g.coef.length=n
 c:∀z∈g.coef,nd z.natAbs≤210
 k:nd g.const.natAbs≤100
theorem qla{co:List Rat}{c0:Rat}{F:List Fct}(hL:Ln co c0)(hF:∀f∈F,FOk f co.length):∀g∈qcv co F,qtx F.length g:=by
 unfold qcv;rw[qd1,qd0 F _ _ (Nat.le_refl _)];refine⟨fun j hj _ _=>⟨by simp[WC,Ke],fun z hz=>?_,?_⟩,fun k hk=>?_⟩
 ·simp only[WC,unL,List.mem_map]at hz;obtain⟨i,_,rfl⟩:=hz;split
  ·rw[show(1:Int).natAbs=1 from rfl,Zo (by omega)];omega
  ·rw[show(0:Int).natAbs=0 from rfl,Zo (by omega)];omega
 ·rw[show(WC F.length j).const.natAbs=0 from rfl,Zo (by omega)];omega
 ·have hq:szq (co.getD k 0)≤100:=by rw[List.getD_eq_getElem?_getD,List.getElem?_eq_getElem hk];exact hL.2.1 _ (List.getElem_mem hk)
  have hq1:nd (co.getD k 0).num.natAbs≤100:=by unfold szq at hq;omega
  have hq2:nd (co.getD k 0).den≤100:=by unfold szq at hq;omega
  refine⟨by simp[We,coL],fun z hz=>?_,hq1⟩;simp only[We,coL,List.mem_map]at hz;obtain⟨f,hf,rfl⟩:=hz;rw[Int.natAbs_mul,Int.natAbs_natCast];have h1:=VH (f.coef.getD k 0).natAbs (co.getD k 0).den;have h2:nd (f.coef.getD k 0).natAbs≤100:=by
   have hkf:k<f.coef.length:=by rw[(hF f hf).l];exact hk
   rw[List.getD_eq_getElem?_getD,List.getElem?_eq_getElem hkf];exact(hF f hf).c _ (List.getElem_mem hkf)
  omega
theorem qe1{n:Nat}{F:List Fct}(hF:∀f∈F,FOk f n):∀q∈YK F,q.den=1∧nd q.num.natAbs≤100:=fun q hq=>by obtain⟨f,hf,rfl⟩:=List.mem_map.1 hq;exact⟨rfl,(hF f hf).k⟩
theorem qcw(co:List Rat)(F:List Fct):(qcv co F).length≤F.length+co.length:=qie co F _
theorem WB{co:List Rat}{c0:Rat}{F:List Fct}(hL:Ln co c0)(hF:∀f∈F,FOk f co.length)(hn:co.length≤3)(hm:F.length≤7):∃δ,Szp co c0 F δ:=by
 have hs:∀q∈c0::co,q.num.natAbs<10^100∧q.den<10^100:=fun q hq=>by
  have h:szq q≤100:=by
   rcases List.mem_cons.1 hq with h|h
   ·rw[h];exact hL.2.2
   ·exact hL.2.1 q h
  unfold szq at h;exact⟨(YF (by omega)).1 (by omega),(YF (by omega)).1 (by omega)⟩
 have key:∀l:List Rat,(∀q∈l,q.den<10^100)→∃δ:Nat,0<δ∧δ≤10^(100*l.length)∧(∀q∈l,q.den∣δ)∧(l≠[]→δ<10^(100*l.length)):=fun l=>by
  induction l with
  | nil=>intro _;exact⟨1,by omega,Nat.le_refl _,fun q hq=>by simp at hq,fun h=>(h rfl).elim⟩
  | cons a l ih =>
   intro h;obtain⟨δ,h1,h2,h3,h4⟩:=ih fun q hq=>h q (List.mem_cons_of_mem _ hq);have ha:=h a (List.mem_cons_self ..);have hlt:a.den*δ<10^(100*(a::l).length):=by rw[List.length_cons,show 100*(l.length+1)=100+100*l.length by omega,Nat.pow_add];exact Nat.lt_of_le_of_lt (Nat.mul_le_mul_left _ h2) (Nat.mul_lt_mul_of_pos_right ha (Nat.pow_pos (by omega)))
   refine⟨a.den*δ,Nat.mul_pos a.den_pos h1,Nat.le_of_lt hlt,fun q hq=>?_,fun _=>hlt⟩;rcases List.mem_cons.1 hq with h|h
   ·rw[h];exact Nat.dvd_mul_right ..
   ·exact Nat.dvd_trans (h3 q h) (Nat.dvd_mul_left ..)
 obtain⟨δ,h1,h2,h3,h4⟩:=key (c0::co) fun q hq=>(hs q hq).2;refine⟨δ,by omega,by omega,fun f hf=>(hF f hf).l,fun f hf=>⟨fun z hz=>(YF (by omega)).1 ((hF f hf).c z hz),(YF (by omega)).1 (hF f hf).k⟩,h1,Nat.lt_of_lt_of_le (h4 (by simp)) (Nat.pow_le_pow_right (by omega) (by simp;omega)),fun q hq=>⟨(hs q hq).1,h3 q hq⟩⟩
theorem qmn{co:List Rat}{c0:Rat}{F:List Fct}(hL:Ln co c0)(hF:∀f∈F,FOk f co.length)(hn:co.length≤3)(hm:F.length≤7)(hD:∀g∈qcv co F,FOk g F.length) :
  Szp ((YK F).map fun q=>-q) (-c0) (qcv co F) c0.den:=by
 have hk:szq c0≤100:=hL.2.2;unfold szq at hk;have hlen:((YK F).map fun q=>-q).length=F.length:=by simp[YK]
 have hdl:=qcw co F;refine⟨by omega,by omega,fun f hf=>by rw[hlen];exact(hD f hf).l,fun f hf=>⟨fun z hz=>(YF (by omega)).1 ((hD f hf).c z hz),(YF (by omega)).1 (hD f hf).k⟩,c0.den_pos,Nat.lt_of_lt_of_le ((YF (k:=100) (by omega)).1 (by omega)) (Nat.pow_le_pow_right (by omega) (by omega)),fun q hq=>?_⟩;rcases List.mem_cons.1 hq with h|h
 ·rw[h,Rat.neg_num,Rat.neg_den,Int.natAbs_neg];exact⟨(YF (by omega)).1 (by omega),Nat.dvd_refl _⟩
 ·obtain⟨p,hp,rfl⟩:=List.mem_map.1 h;obtain⟨h1,h2⟩:=qe1 hF p hp;rw[Rat.neg_num,Rat.neg_den,Int.natAbs_neg,h1];exact⟨(YF (by omega)).1 h2,Nat.one_dvd _⟩
theorem qpG(hLin:Qg prog 5 [] (.v (.bool true)))(cs:List (List UInt8))(k:List UInt8)(fs:List RF)(hl:cs.length<9223372036854775808)(hm:fs.length<9223372036854775808)(hc:∀f∈fs,f.coef.length<9223372036854775808):Qg prog 3 [.agg [.ro (sl cs),str k],.ro (rfs fs)] (.v (.bool true)):=by
 refine Qg.body func3 ntmps3 ?_;simp;refine(qbN cs k fs hl hm hc).call (k:=9) (qbK _ _ _) (fun r h=>h.data) ?_;rintro r ⟨b,rfl,hb⟩;cases b with
 | false =>simp;refine Qc.pu hLin ?_;simp;exact .dat _ 9 rfl
 | true =>
  obtain⟨co,c0,F,q1,q2,q3,hL,hF,hn,hm⟩:=hb rfl;have e1:sl cs=ql co:=by rw[q1,qpu]
  have e2:str k=rs c0:=by rw[q2];rfl
  have e3:(AV.agg [.ro (ql co),rs c0])=ln co c0:=rfl;clear hb;simp[e1,e2,q3];have hda:[ln co c0,.ro (fl F)].all (Qu 9)=true:=by simp[ln,fl,fcL,zl,ql,Qn,Qj]
  refine Qc.pv (qgJ co c0 F hL hF (by omega)) hda (by simp[ln,fl,fcL,zl,ql,Qn,Qj]) ?_;have hG:=qla hL hF;have hGl:=qcw co F;have hX:=qe1 hF;have hXl:(YK F).length=F.length:=by simp[YK]
  obtain⟨δ,hsz⟩:=WB hL hF hn hm;obtain⟨a,v,hr1,hm1⟩:=J3 hsz;have hszd:=qmn hL hF hn hm;have hdual:=qoh co c0 F (fun f hf=>(hF f hf).op);generalize qcv co F=gs at hG hGl hszd hdual⊢;generalize YK F=xs at hX hXl hszd hdual⊢;have hLx:Ln xs c0:=⟨by omega,fun q hq=>by obtain⟨h1,h2⟩:=hX q hq;have n1:nd 1=1:=Zo (by omega);unfold szq;rw[h1,n1];omega,hL.2.2⟩
  have hda2:[ln xs c0,.ro (fl gs)].all (Qu 9)=true:=by simp[ln,fl,fcL,zl,ql,Qn,Qj]
  have hck:=qga xs c0 gs (fun q hq=>by
   rcases List.mem_cons.1 hq with h|h
   ·rw[h];have:=hL.2.2;omega
   ·have:=hLx.2.1 q h;omega) (by omega) (fun g hg=>⟨by have:=(hG g hg).k;omega,fun z hz=>by have:=(hG g hg).c z hz;omega⟩) (by omega)
  have hlg:=qfg xs c0 gs (fun q hq=>by
   rcases List.mem_cons.1 hq with h|h
   ·rw[h];have:=hL.2.2;omega
   ·have:=hLx.2.1 q h;omega) (fun g hg=>⟨by have:=(hG g hg).k;omega,fun z hz=>by have:=(hG g hg).c z hz;omega,by have:=(hG g hg).l;omega⟩) (by omega) (by omega)
  simp[ln];refine hck.call (k:=9) hda2 (fun r h=>h.data) ?_;rintro r ⟨e,rfl,he⟩;by_cases h0:e=0
  ·simp[h0,-Qa,-Qb];refine hlg.call (k:=9) hda2 (fun r h=>h.data) ?_;rintro r ⟨b,rfl⟩;cases b with
   | true =>simp[undef,-Qa,-Qb];refine Qc.pu hLin ?_;simp;exact .dat _ 9 rfl
   | false =>
    simp[undef,-Qa,-Qb];have hFg:=he h0;rw[hXl]at hFg;obtain⟨b,w,hr2,hm2⟩:=J3 (hszd hFg);have hmx:=WS hm1 hL hF (by omega);have hmn:=qcR (qcQ hm2 (fun q hq=>by
     have:szq q≤100:=by
      rcases List.mem_cons.1 hq with h|h
      ·rw[h];exact hL.2.2
      ·exact hLx.2.1 q h
     unfold Lq Lg;unfold szq at this;omega) (by omega)) hLx (by rw[hXl];exact hFg) (by omega)
    obtain⟨d1,d2,d3⟩:=LP.duality hdual hr1 hr2;have ha:a=0∨a=1∨a=2:=by cases hr1<;>simp
    clear hr1 hr2 hm1 hm2;refine hmx.call (k:=9) hda (fun r h=>h.data) ?_;rintro r ⟨val,lp,lr,lm,rfl,hv,_⟩;obtain⟨s,rfl⟩:∃s,val=.v (.string s):=by rcases hv with⟨_,rfl,_⟩|⟨_,rfl⟩<;>exact⟨_,rfl⟩
    simp[qb0];refine hmn.call (k:=9) hda2 (fun r h=>h.data) ?_;rintro r ⟨val',lp',lr',lm',rfl,hv',_⟩;obtain⟨s',rfl⟩:∃s,val'=.v (.string s):=by rcases hv' with⟨_,rfl,_⟩|⟨_,rfl⟩<;>exact⟨_,rfl⟩
    rcases ha with rfl|rfl|rfl
    ·obtain⟨rfl,rfl⟩:=d1 rfl;have hs:AV.v (.string s)=AV.v (.string s'):=by
      rcases hv with⟨_,h,_⟩|⟨h,_⟩
      ·rcases hv' with⟨_,h',_⟩|⟨h',_⟩
       ·rw[h,h']
       ·exact(h' rfl).elim
      ·exact(h rfl).elim
     injection hs with hs;injection hs with hs;subst hs;simp[qb0,-Qa,-Qb,undef];refine Qc.pu hLin ?_;simp[-Qa,-Qb];exact .dat _ 9 rfl
    ·obtain rfl:=d2 rfl;simp[qb0,-Qa,-Qb,undef];refine Qc.pu hLin ?_;simp[-Qa,-Qb];exact .dat _ 9 rfl
    ·have hb:=d3 rfl;simp[qb0,-Qa,-Qb,undef,hb];refine Qc.pu hLin ?_;simp[-Qa,-Qb];exact .dat _ 9 rfl
  ·simp[h0,undef,-Qa,-Qb];refine Qc.pu hLin ?_;simp;exact .dat _ 9 rfl
end
section
attribute [local simp] Qq Qh Qk Qr QR alen QO QX
theorem _root_.Go.AX.QF.hv0{P:Program}{f:FuncId}{args:List AV}{st:St}{K:Cls→AV→Qf→Nat→Prop}{u:AV}(h:Qc P f args st.H st.N fun r H' N'=>r=u∧H'=st.H∧N'=st.N)(hk:K (.hvy (some [])) u st.H st.N):QF P f args st K :=
 ⟨.hvy (some []),u,st.H,st.N,hk,h,Nat.le_refl _,fun _ _ _=>rfl⟩
def Wk(H:Qf)(id:Nat):Prop:=H.b id=some ⟨64,1,[[.v (.int .i64 0)]],false,some 1⟩
def WkE(H:Qf)(N:Nat)(f:FuncId)(args:List AV)(u:AV):Prop:=Qc prog f args H N fun r H' N'=>r=u∧H'=H∧N'=N
theorem KT{H:Qf}{N id:Nat}(hc:Wk H id)(z:Int):WkE H N 43 [.ptr id 1 0 0,zs z,.v (.int .i64 0)] (zs z):=by unfold Wk at hc;refine Qc.body func43 ntmps43 ?_;simp[hc];exact Kw _ _ _ hc
theorem qff{H:Qf}{N id:Nat}(hc:Wk H id)(z:Int):WkE H N 77 [.ptr id 1 0 0,.v (.int .i64 z),.v (.int .i64 0)] (.v (.int .i64 z)):=by unfold Wk at hc;refine Qc.body func77 ntmps77 ?_;simp[hc];exact Kw _ _ _ hc
theorem qji{H:Qf}{N id:Nat}(hc:Wk H id)(a b:Int)(ha:Lg a)(hb:Lg b)(h0:b≠0):WkE H N 37 [.ptr id 1 0 0,zs a,zs b] (zs (Int.fdiv a b)):=by refine Qc.body func37 ntmps37 ?_;simp;refine Qc.pv (qc5 a b ha hb h0) (by simp[Qj]) (by simp[Qj]) ?_;simp;refine(KT hc (Int.fdiv a b)).mono ?_;rintro r H' N' ⟨rfl,rfl,rfl⟩;simp
theorem qfP{H:Qf}{N id:Nat}(hc:Wk H id)(a:Int)(ha:Lg a):WkE H N 41 [.ptr id 1 0 0,zs a] (.v (.int .i64 (sgz a))):=by refine Qc.body func41 ntmps41 ?_;simp;refine Qc.pv (qfD a ha) (by simp[Qj]) (by simp) ?_;simp;refine(qff hc (sgz a)).mono ?_;rintro r H' N' ⟨rfl,rfl,rfl⟩;simp
theorem qgT{H:Qf}{N id:Nat}(hc:Wk H id)(a b:Int)(ha:Lg a)(hb:Lg b):WkE H N 105 [.ptr id 1 0 0,zs a,zs b] (.v (.bool (decide (a.natAbs<b.natAbs)))):=by
 refine Qc.body func105 ntmps105 ?_;simp;refine Qc.pv (qmL a ha) (by simp[Qj]) (by simp[Qj]) ?_;simp;refine Qc.pv (qmL b hb) (by simp[Qj]) (by simp[Qj]) ?_;simp;refine(KT hc _).mono ?_;rintro r H' N' ⟨rfl,rfl,rfl⟩;simp;refine(KT hc _).mono ?_;rintro r H' N' ⟨rfl,rfl,rfl⟩;simp;refine Qc.pv (qaz (a.natAbs:Nat) (b.natAbs:Nat) ha hb) (by simp[Qj]) (by simp) ?_;simp;refine(qff hc _).mono ?_;rintro r H' N' ⟨rfl,rfl,rfl⟩;simp;unfold sgz;split
 ·omega
 ·split<;>omega
theorem qml{H:Qf}{N id p q:Nat}(hc:Wk H id)(hp:H.b p=some ⟨62,1,[[.ptr id 1 0 0]],false,some 1⟩)(v a b:Int)(hq:H.b q=some ⟨38,1,[[zs v]],false,some 1⟩)(ha:Lg a)(hb:Lg b)(hv:Lg v)(h1:Lg (v*b))(h2:Lg (a-v*b)) :
  WkE H N 71 [zs a,zs b,.ptr q 1 0 0,.ptr p 1 0 0] (zs (a-v*b)):=by
 refine Qc.body func71 ntmps71 ?_;simp[hq];refine Qc.pv (qfo v b hv hb h1) (by simp[Qj]) (by simp[Qj]) ?_;simp[hp];refine(KT hc _).mono ?_;rintro r H' N' ⟨rfl,rfl,rfl⟩;simp;refine Qc.pv (qno a (v*b) ha h1 h2) (by simp[Qj]) (by simp[Qj]) ?_;simp[hp];refine(KT hc _).mono ?_;rintro r H' N' ⟨rfl,rfl,rfl⟩;simp
theorem qdl{n:Nat}{env:Nat→AV}{H:Qf}{N id i:Nat}{v:Int}{es:List (List AV)}{cap:Option Nat}(hH:H.b id=some ⟨38,1,es,false,cap⟩)(hi:i<es.length)(h1:es[i].length=1) :
  astore prog ⟨n,env,H,N⟩ 38 (.ptr id 1 i 0) (zs v)=some ⟨n,env,H.set id ⟨38,1,es.set i [zs v],false,cap⟩,N⟩:=by
 have hg:es[i]?=some es[i]:=List.getElem?_eq_getElem hi;obtain⟨c,hc⟩:∃c,es[i]=[c]:=List.length_eq_one_iff.1 h1;rw[hc]at hg;simp only[astore,hH,qq6,qfe,hg,Qr];rw[if_pos ⟨trivial,trivial,trivial,rfl,by simp,by simp[QR]⟩];simp[WA]
def qew(v:Int)(x y:List Int):List Int:=List.zipWith (fun a b=>a-v*b) x y
def V4(W:List Int)(i:Nat):List (List AV):=zl (W.take i)++List.replicate (W.length-i) [.v (.string ByteArray.empty)]
theorem qfl(W:List Int)(i:Nat)(h:i≤W.length):(V4 W i).length=W.length:=by simp[V4,zl];omega
theorem qfm(W:List Int)(i j:Nat)(h:j<(V4 W i).length):(V4 W i)[j].length=1:=by
 have hm:=List.getElem_mem h;unfold V4 at hm;rcases List.mem_append.1 hm with h|h
 ·obtain⟨z,_,hz⟩:=List.mem_map.1 h;unfold V4;rw[←hz];rfl
 ·have:=List.eq_of_mem_replicate h;unfold V4;rw[this];rfl
theorem qfn(W:List Int)(i:Nat)(h:i<W.length):(V4 W i).set i [zs W[i]]=V4 W (i+1):=by
 have hz:(zl (W.take i)).length=i:=by rw[QO];simp;omega
 have hr:W.length-i=(W.length-(i+1))+1:=by omega
 unfold V4;rw[List.set_append,hz,if_neg (Nat.lt_irrefl _),Nat.sub_self,hr,List.replicate_succ,List.set_cons_zero,List.take_succ_eq_append_getElem h];simp only[zl,List.map_append,List.map_cons,List.map_nil,List.append_assoc,List.singleton_append]
theorem qcS(W:List Int):V4 W W.length=zl W:=by simp[V4]
def CmJ(H:Qf)(N id p q:Nat)(x y W:List Int)(i:Nat)(st:St):Prop:=i≤W.length∧∃env,st=⟨32,env,H.set N ⟨38,1,V4 W i,false,some W.length⟩,N+1⟩ ∧
 env 0=.ro (zl x)∧env 1=.ro (zl y)∧env 2=.fn (.func 71) [] [.ptr q 1 0 0,.ptr p 1 0 0]∧env 7=.ref N 1 0 W.length none∧env 13=.v (.int .i64 (W.length:Nat))∧env 14=.v (.int .i64 (i:Nat))
def qkr(v:Int)(x y:List Int):Prop:=Lg v∧x.length=y.length∧x.length≤1000∧∀(i:Nat) (h1:i<x.length) (h2:i<y.length),Lg x[i]∧Lg y[i]∧Lg (v*y[i])∧Lg (x[i]-v*y[i])
theorem qhy(m:Int)(h0:0≤m)(h:m≤10000000000):amake prog 37 (.v (.int .i64 m)) (.v (.int .i64 m))=some (38,m.toNat,m.toNat,[.v (.string ByteArray.empty)]):=by simp[amake,h0];exact⟨by omega,by omega⟩
theorem qn8{H:Qf}{N id p q:Nat}(hc:Wk H id)(hid:id<N)(hp:H.b p=some ⟨62,1,[[.ptr id 1 0 0]],false,some 1⟩)(hpN:p<N)(v:Int)(hq:H.b q=some ⟨38,1,[[zs v]],false,some 1⟩)(hqN:q<N)(x y:List Int)(hs:qkr v x y) :
  WkE H N 70 [.ro (zl x),.ro (zl y),.fn (.func 71) [] [.ptr q 1 0 0,.ptr p 1 0 0]] (.ro (zl (qew v x y))):=by
 obtain⟨hv,hl,hx,hs⟩:=hs;have hW:(qew v x y).length=x.length:=by simp[qew];omega
 have hWi:∀(i:Nat) (h:i<(qew v x y).length) (h1:i<x.length) (h2:i<y.length),(qew v x y)[i]=x[i]-v*y[i]:=fun i h h1 h2=>by simp[qew]
 generalize qew v x y=W at hW hWi;refine⟨⟨_,_,func70,by kernel_rfl,rfl⟩,(Qv.data (Q:=fun r=>r=.ro (zl W)) (Qv.QM func70 rfl (by simp[ntmps70]) (Qd _ _ _ ?_))).mono fun r H' N' h=>⟨h.2.2,h.1,h.2.1⟩⟩;have hmk:=qhy (x.length:Nat) (by omega) (by omega);rw[Int.toNat_natCast,←hW]at hmk;have hm0:List.replicate W.length [AV.v (.string ByteArray.empty)]=V4 W 0:=by simp[V4,zl]
 simp[←hW,hmk,hm0];refine Qp.of (CmJ H N id p q x y W) (fun i=>W.length-i) 0 ⟨Nat.zero_le _,_,rfl,by simp,by simp,by simp,by simp,by simp,by simp⟩ ?_;rintro i _ ⟨hi,env,rfl,e0,e1,e2,e7,e13,e14⟩;have w1:IntKind.i64.wrap ((i:Int)+1)=((i+1:Nat):Int):=by rw[Ql (by omega) (by omega)];omega
 by_cases hiN:i<W.length
 ·obtain⟨g1,g2,g3,g4⟩:=hs i (by omega) (by omega);have hWv:=hWi i hiN (by omega) (by omega);have hx1:=qaf x i (by omega);have hy1:=qaf y i (by omega);simp[e7,e13,e14,hiN];refine Qm.walk (fun _=>false) mixed ?_;simp[Q0,e0,e1,e2,e7,hx1,hy1];have hc':=hc;unfold Wk at hc';refine QF.hv0 (qml (id:=id) (by unfold Wk;simp[show ¬id=N by omega,hc']) (by simp[show ¬p=N by omega,hp]) v x[i] y[i] (by simp[show ¬q=N by omega,hq]) g1 g2 hv g3 g4) ?_;rw[←hWv];have hml:=qfl W i (by omega);have hst:∀n env,astore prog ⟨n,env,H.set N ⟨38,1,V4 W i,false,some W.length⟩,N+1⟩ 38 (.ptr N 1 i 0) (zs W[i])=some ⟨n,env,(H.set N ⟨38,1,V4 W i,false,some W.length⟩).set N ⟨38,1,V4 W (i+1),false,some W.length⟩,N+1⟩:=fun n env=>by rw[qdl (es:=V4 W i) (cap:=some W.length) (by simp) (by omega) (qfm W i i (by omega)),qfn W i hiN]
  simp[-Int.natCast_add,Q0,e14,hst,hiN,w1];exact⟨Zg.ofM (by kernel_rfl),i+1,⟨by omega,_,by rw[XK],by simp[e0],by simp[e1],by simp[e2],by simp[e7],by simp[e13],by simp⟩,by omega⟩
 ·have hiE:i=W.length:=by omega
  subst hiE;simp[e7,e13,e14];refine⟨fun j h1 h2=>by omega,?_⟩;rw[qcS];have:=Frz.KB (H:=H.set N ⟨38,1,zl W,false,some W.length⟩) (F:=fun id=>N≤id) (G:=fun id=>id<N) (id:=N) (sz:=1) (off:=0) (len:=W.length) (mx:=none) (b:=⟨38,1,zl W,false,some W.length⟩) (Nat.le_refl _) (by simp) rfl (by simp[QO]) (fun e he c hc=>by rw[List.drop_zero]at he;obtain⟨z,_,rfl⟩:=List.mem_map.1 (List.mem_of_mem_take he);simp at hc;subst hc;exact .dat _ 9 (by simp[Qj]))
  rw[List.drop_zero,List.take_of_length_le (by rw[QO];exact Nat.le_refl _)]at this;exact this
theorem qjK{H:Qf}{N id:Nat}(hc:Wk H id)(hid:id<N)(v:Int)(x y:List Int)(hs:qkr v x y) :
  WkE H N 36 [.ptr id 1 0 0,.ro (zl x),zs v,.ro (zl y)] (.ro (zl (qew v x y))):=by
 refine⟨⟨_,_,func36,by kernel_rfl,rfl⟩,(Qv.data (Q:=fun r=>r=.ro (zl (qew v x y))) (Qv.QM func36 rfl (by simp[ntmps36]) (Qd _ _ _ ?_))).mono fun r H' N' h=>⟨h.2.2,h.1,h.2.1⟩⟩;simp;have hc':=hc;unfold Wk at hc';refine(qn8 (id:=id) (p:=N) (q:=N+1) (by unfold Wk;simp[show ¬id=N by omega,show ¬id=N+1 by omega,hc']) (by omega) (by simp) (by omega) v (by simp) (by omega) x y hs).mono ?_;rintro r H' N' ⟨rfl,rfl,rfl⟩;simp;exact⟨by omega,fun j hj=>by rw[if_neg (by omega),if_neg (by omega)],.dat _ 9 (by simp[zl,Qj])⟩
end
section
attribute [local simp] Qq Qh Qk Qr QR alen QO QX
theorem Jd(a:Int)(t:List Int):zl (a::t)=[zs a]::zl t:=rfl
def ml(B:List (List Int)):List (List AV):=B.map fun r=>[.ro (zl r)]
theorem qcT(B:List (List Int)):(ml B).length=B.length:=by simp[ml]
theorem qaM(B:List (List Int))(i:Nat)(h:i<B.length):(ml B)[i]?=some [.ro (zl B[i])]:=by simp[ml,h]
def Km(B:List (List Int))(cap:Option Nat):Blk:=⟨37,1,ml B,false,cap⟩
def hdz(B:List (List Int))(i:Nat):Int:=(B.getD i []).headD 0
def Yz(h:Nat→Int):Nat→Int×Bool
 | 0=>(-1,false)
 | i+1=>let p:=Yz h i;if h i=0 then p else if p.1<0 then((i:Int),p.2)else(if(h i).natAbs<(h p.1.toNat).natAbs then(i:Int)else p.1,true)
def qsR(v:Int)(x y:List Int):Bool:=decide (v.natAbs<1000000)&&decide (x.length=y.length)&&decide (x.length≤1000)&&(List.zipWith (fun a b=>decide (a.natAbs<1000000)&&decide (b.natAbs<1000000)&&decide ((v*b).natAbs<1000000)&&decide ((a-v*b).natAbs<1000000)) x y).all id
theorem Kl{z:Int}(h:z.natAbs<1000000):Lg z:=by have:=(YF (k:=6) (n:=z.natAbs) (by omega)).2 (by omega);unfold Lg;omega
theorem qev{v:Int}{x y:List Int}(h:qsR v x y=true):qkr v x y:=by simp only[qsR,Bool.and_eq_true,decide_eq_true_eq]at h;obtain⟨⟨⟨h1,h2⟩,h3⟩,h4⟩:=h;refine⟨Kl h1,h2,h3,fun i g1 g2=>?_⟩;rw[List.all_eq_true]at h4;have hm:=h4 _ (List.getElem_mem (l:=List.zipWith _ x y) (n:=i) (by simp;omega));simp only[List.getElem_zipWith,id,Bool.and_eq_true,decide_eq_true_eq]at hm;obtain⟨⟨⟨q1,q2⟩,q3⟩,q4⟩:=hm;exact⟨Kl q1,Kl q2,Kl q3,Kl q4⟩
def qao(B:List (List Int))(l k:Nat):List (List Int):=B.mapIdx fun i r=>if i<k∧i≠l∧r.headD 0≠0 then qew (Int.fdiv (r.headD 0) (hdz B l)) r (B.getD l [])else r
def okB(B:List (List Int)):Bool:=(List.range B.length).all fun i=>decide (B.getD i []≠[])&&decide ((hdz B i).natAbs<1000000)
theorem qbF{B:List (List Int)}(h:okB B=true)(i:Nat)(hi:i<B.length):(∃t,B[i]=hdz B i::t)∧Lg (hdz B i):=by
 have:=List.all_eq_true.1 h i (List.mem_range.2 hi);simp only[Bool.and_eq_true,decide_eq_true_eq]at this;obtain⟨h1,h2⟩:=this;refine⟨?_,Kl h2⟩;unfold hdz;rw[List.getD_eq_getElem?_getD,List.getElem?_eq_getElem hi]at h1⊢;simp only[Option.getD_some]at h1⊢;cases hB:B[i]with
 | nil=>exact(h1 hB).elim
 | cons a t=>exact⟨t,rfl⟩
theorem qfB(h:Nat→Int):∀i,-1≤(Yz h i).1∧(Yz h i).1<i:=fun i=>by
 induction i with
 | zero=>simp[Yz]
 | succ i ih =>
  simp only[Yz];split
  ·omega
  ·split
   ·exact⟨by omega,by omega⟩
   ·split
    ·exact⟨by omega,by omega⟩
    ·exact⟨by omega,by omega⟩
def wfB(B:List (List Int))(l:Nat):Bool:=decide (hdz B l≠0)&&decide (l<B.length)&&(List.range B.length).all fun i=>decide (B.getD i []≠[])&&decide ((hdz B i).natAbs<1000000)&&(decide (i=l)||decide (hdz B i=0)||qsR (Int.fdiv (hdz B i) (hdz B l)) (B.getD i []) (B.getD l []))
def qbp:Nat→List (List Int)→Option (Int×List (List Int))
 | 0,_=>none
 | f+1,B=>let p:=Yz (hdz B) B.length;if okB B=false then none else if p.2 then(if(decide (0≤p.1)&&wfB B p.1.toNat)=true then qbp f (qao B p.1.toNat B.length)else none)else some (p.1,B)
theorem ZA(B:List (List Int))(l k:Nat):(qao B l k).length=B.length:=by simp[qao]
theorem J6(B:List (List Int))(l k i:Nat)(h:i<B.length):(qao B l k)[i]'(by rw[ZA];exact h)=if i<k∧i≠l∧B[i].headD 0≠0 then qew (Int.fdiv (B[i].headD 0) (hdz B l)) B[i] (B.getD l [])else B[i]:=by simp only[qao,List.getElem_mapIdx]
theorem qc6(B:List (List Int))(l:Nat):qao B l 0=B:=by refine List.ext_getElem (ZA B l 0) fun i h1 h2=>?_;rw[J6 B l 0 i h2,if_neg (by omega)]
theorem qjm(B:List (List Int))(l k:Nat)(h:k<B.length):qao B l (k+1)=if k≠l∧B[k].headD 0≠0 then(qao B l k).set k (qew (Int.fdiv (B[k].headD 0) (hdz B l)) B[k] (B.getD l []))else qao B l k:=by
 split
 ·rename_i hc;refine List.ext_getElem (by simp[ZA]) fun i h1 h2=>?_;have hi:i<B.length:=by rw[ZA]at h1;exact h1
  rw[J6 B l (k+1) i hi,List.getElem_set];by_cases e:k=i
  ·subst e;rw[if_pos ⟨Nat.lt_succ_self _,hc.1,hc.2⟩,if_pos rfl]
  ·rw[if_neg e,J6 B l k i hi];by_cases g:i<k∧i≠l∧B[i].headD 0≠0
   ·rw[if_pos g,if_pos ⟨by omega,g.2⟩]
   ·rw[if_neg g,if_neg (fun q=>g ⟨by omega,q.2⟩)]
 ·rename_i hc;refine List.ext_getElem (by simp[ZA]) fun i h1 h2=>?_;have hi:i<B.length:=by rw[ZA]at h1;exact h1
  rw[J6 B l (k+1) i hi,J6 B l k i hi];by_cases g:i<k∧i≠l∧B[i].headD 0≠0
  ·rw[if_pos g,if_pos ⟨by omega,g.2⟩]
  ·rw[if_neg g,if_neg (fun q=>by
    by_cases e:i=k
    ·subst e;exact hc q.2
    ·exact g ⟨by omega,q.2⟩)]
theorem qtq:ZQ prog 37=true:=by kernel_rfl
theorem qoM:prog.cellsOf 37=1:=by kernel_rfl
theorem qpz{n:Nat}{env:Nat→AV}{H:Qf}{N id i:Nat}{r:List Int}{B:List (List Int)}{cap:Option Nat}(hH:H.b id=some (Km B cap))(hi:i<B.length) :
  astore prog ⟨n,env,H,N⟩ 37 (.ptr id 1 i 0) (.ro (zl r))=some ⟨n,env,H.set id (Km (B.set i r) cap),N⟩:=by
 have hg:=qaM B i hi;unfold Km at hH;simp only[astore,hH,qtq,qoM,hg];rw[if_pos ⟨trivial,trivial,trivial,rfl,by simp,by simp[acells,AV.one]⟩];simp[WA,Km,ml,List.map_set,acells]
structure GJ(H:Qf)(N id mid:Nat)(cap:Option Nat)(B:List (List Int))(env:Nat→AV)(G:Qf):Prop where
 e0:env 0=.ptr id 1 0 0
 e1:env 1=.ref mid 1 0 B.length none
 e2:env 2=.v (.int .i64 0)
 e3:env 3=.v (.int .i64 0)
 g:G=H.set mid (Km B cap)
def GO(H:Qf)(N id mid:Nat)(cap:Option Nat)(l:Int)(B':List (List Int))(f:Nat)(st:St):Prop:=∃B env G,st=⟨107,env,G,N⟩∧GJ H N id mid cap B env G∧B.length≤1000∧0<f∧qbp f B=some (l,B')
def GS(H:Qf)(N id mid:Nat)(cap:Option Nat)(B:List (List Int))(i:Nat)(st:St):Prop:=i≤B.length∧∃env G,st=⟨107,env,G,N⟩∧GJ H N id mid cap B env G∧env 9=.v (.int .i64 (Yz (hdz B) i).1)∧env 10=.v (.bool (Yz (hdz B) i).2)∧env 11=.v (.int .i64 (i:Nat))
def GR(H:Qf)(N id mid:Nat)(cap:Option Nat)(B:List (List Int))(l:Nat)(i:Nat)(st:St):Prop:=i≤B.length∧∃env G,st=⟨107,env,G,N⟩∧GJ H N id mid cap (qao B l i) env G∧env 9=.v (.int .i64 (l:Nat))∧env 12=.v (.int .i64 (i:Nat))
theorem qiu{H:Qf}{N id mid:Nat}{cap:Option Nat}{B:List (List Int)}(hc:Wk H id)(hid:id<N)(hm:H.b mid=some (Km B cap))(hmN:mid<N)(hl:B.length≤1000){f:Nat}(hf:0<f){l:Int}{B':List (List Int)}(hg:qbp f B=some (l,B')) :
  Qc prog 69 [.ptr id 1 0 0,.ref mid 1 0 B.length none,.v (.int .i64 0),.v (.int .i64 0)] H N fun r H' N'=>r=.v (.int .i64 l)∧N'=N∧H'=H.set mid (Km B' cap):=by
 have hne:id≠mid:=fun e=>by unfold Wk at hc;rw[e,hm]at hc;injection hc with hc;have:=congrArg Blk.ty hc;simp[Km]at this
 refine Qc.body func69 ntmps69 ?_;simp;refine Qp.of (GO H N id mid cap l B') (fun f=>f) f ⟨B,_,_,rfl,⟨by simp,by simp,by simp,by simp,(Kw _ _ _ hm).symm⟩,hl,hf,hg⟩ ?_;clear hg hf hl;rintro f _ ⟨B1,env,G,rfl,⟨e0,e1,e2,e3,rfl⟩,hl,hf,hg⟩;have hc':=hc;unfold Wk at hc';obtain⟨f,rfl⟩:∃g,f=g+1:=⟨f-1,by omega⟩;have hok:okB B1=true:=by
  cases h:okB B1 with
  | true=>rfl
  | false=>simp[qbp,h]at hg
 simp[e0,e2,hne,hc'];refine Qp.of (GS H N id mid cap B1) (fun i=>B1.length-i) 0 ⟨Nat.zero_le _,_,_,rfl,⟨by simp[e0],by simp[e1],by simp[e2],by simp[e3],rfl⟩,by simp[Yz],by simp[Yz],by simp⟩ ?_;clear e0 e1 e2 e3 env;rintro i _ ⟨hi,env,G,rfl,⟨e0,e1,e2,e3,rfl⟩,e9,e10,e11⟩;have w1:IntKind.i64.wrap ((i:Int)+1)=((i+1:Nat):Int):=by rw[Ql (by omega) (by omega)];omega
 by_cases hiN:i<B1.length
 ·obtain⟨⟨t,ht⟩,hlg⟩:=qbF hok i hiN;have hrow:=qaM B1 i hiN;rw[ht]at hrow;obtain⟨p1,p2⟩:=qfB (hdz B1) i;have hsc:Yz (hdz B1) (i+1)=if hdz B1 i=0 then Yz (hdz B1) i else if(Yz (hdz B1) i).1<0 then((i:Int),(Yz (hdz B1) i).2)else(if(hdz B1 i).natAbs<(hdz B1 (Yz (hdz B1) i).1.toNat).natAbs then(i:Int)else(Yz (hdz B1) i).1,true):=rfl
  by_cases h0:hdz B1 i=0
  ·rw[if_pos h0]at hsc;simp[-Int.natCast_add,e1,e2,e3,e9,e10,e11,hiN,Km,hrow,Jd,zs,str,KK,h0,w1];exact⟨i+1,⟨by omega,_,_,rfl,⟨by simp[e0],by simp[e1],by simp[e2],by simp[e3],rfl⟩,by simp[hsc,e9],by simp[hsc,e10],by simp⟩,by omega⟩
  ·rw[if_neg h0]at hsc;by_cases hl0:(Yz (hdz B1) i).1<0
   ·rw[if_pos hl0]at hsc;simp[-Int.natCast_add,e1,e2,e3,e9,e10,e11,hiN,Km,hrow,Jd,zs,str,KK,h0,w1,hl0];exact⟨i+1,⟨by omega,_,_,rfl,⟨by simp[e0],by simp[e1],by simp[e2],by simp[e3],rfl⟩,by simp[hsc],by simp[hsc,e10],by simp⟩,by omega⟩
   ·rw[if_neg hl0]at hsc;obtain⟨L,hL⟩:∃L:Nat,(Yz (hdz B1) i).1=L:=⟨(Yz (hdz B1) i).1.toNat,by omega⟩;rw[hL]at hsc p2 hl0 e9;rw[Int.toNat_natCast]at hsc;obtain⟨⟨t',ht'⟩,hlg'⟩:=qbF hok L (by omega);have hrow':=qaM B1 L (by omega);rw[ht']at hrow';have hz:∀z:Int,AV.v (.string (bs (il z)))=zs z:=fun z=>rfl;simp[-Int.natCast_add,e1,e2,e3,e9,e10,e11,hiN,Km,hrow,Jd,zs,str,KK,h0,hl0];refine Qm.walk (fun _=>false) mixed ?_;simp[Q0,e0,e1,e3,e9,e11,hrow,hrow',Jd,hmN,hz,hiN,show L<B1.length by omega];refine QF.look id (sz:=1) (i:=0) (off:=0) (u:=.v (.bool (decide ((hdz B1 i).natAbs<(hdz B1 L).natAbs)))) ?_ ?_ (fun H1 N1 e=>qgT (id:=id) (e.trans ?_) _ _ hlg hlg') ?_
    ·simp
    ·exact hid
    ·simp[hne,hc']
    by_cases hsm:(hdz B1 i).natAbs<(hdz B1 L).natAbs
    ·rw[if_pos hsm]at hsc;simp[-Int.natCast_add,e11,hsm,w1];exact⟨Zg.ofM (by kernel_rfl),i+1,⟨by omega,_,_,rfl,⟨by simp[e0],by simp[e1],by simp[e2],by simp[e3],rfl⟩,by simp[hsc],by simp[hsc],by simp⟩,by omega⟩
    ·rw[if_neg hsm]at hsc;simp[-Int.natCast_add,e11,hsm,w1];exact⟨Zg.ofM (by kernel_rfl),i+1,⟨by omega,_,_,rfl,⟨by simp[e0],by simp[e1],by simp[e2],by simp[e3],rfl⟩,by simp[hsc,e9],by simp[hsc],by simp⟩,by omega⟩
 ·have hiE:i=B1.length:=by omega
  subst hiE;obtain⟨p1,p2⟩:=qfB (hdz B1) B1.length;by_cases hsv:(Yz (hdz B1) B1.length).2=true
  ·have hg':(decide (0≤(Yz (hdz B1) B1.length).1)&&wfB B1 (Yz (hdz B1) B1.length).1.toNat)=true∧qbp f (qao B1 (Yz (hdz B1) B1.length).1.toNat B1.length)=some (l,B'):=by
    simp only[qbp,hok,hsv]at hg;cases hw:(decide (0≤(Yz (hdz B1) B1.length).1)&&wfB B1 (Yz (hdz B1) B1.length).1.toNat)with
    | false=>simp[hw]at hg
    | true=>simpa[hw]using hg
   obtain⟨hw,hg'⟩:=hg';rw[Bool.and_eq_true,decide_eq_true_eq]at hw;obtain⟨hw0,hw⟩:=hw;obtain⟨L,hL⟩:∃L:Nat,(Yz (hdz B1) B1.length).1=L:=⟨(Yz (hdz B1) B1.length).1.toNat,by omega⟩;rw[hL]at hw hg' e9;rw[Int.toNat_natCast]at hw hg';have hf':0<f:=by
    cases f with
    | zero=>simp[qbp]at hg'
    | succ f=>omega
   simp only[wfB,Bool.and_eq_true,decide_eq_true_eq]at hw;obtain⟨⟨hL0,hLl⟩,hwa⟩:=hw;simp[e1,e2,e9,e10,e11,hsv];refine Qp.of (GR H N id mid cap B1 L) (fun i=>B1.length-i) 0 ⟨Nat.zero_le _,_,_,rfl,⟨by simp[e0],by simp[e1,qc6],by simp[e2],by simp[e3],by rw[qc6]⟩,by simp[e9],by simp⟩ ?_;clear e0 e1 e2 e3 e9 e10 e11 env w1;rintro i _ ⟨hi,env,G,rfl,⟨e0,e1,e2,e3,rfl⟩,e9,e12⟩;rw[ZA]at e1;have w1:IntKind.i64.wrap ((i:Int)+1)=((i+1:Nat):Int):=by rw[Ql (by omega) (by omega)];omega
   by_cases hiN:i<B1.length
   ·obtain⟨⟨t,ht⟩,hlg⟩:=qbF hok i hiN;obtain⟨⟨t',ht'⟩,hlg'⟩:=qbF hok L hLl;have hri:(qao B1 L i)[i]'(by rw[ZA];exact hiN)=B1[i]:=by rw[J6 B1 L i i hiN,if_neg (by omega)]
    have hrL:(qao B1 L i)[L]'(by rw[ZA];exact hLl)=B1[L]:=by rw[J6 B1 L i L hLl,if_neg (fun h=>h.2.1 rfl)]
    have hrow:=qaM (qao B1 L i) i (by rw[ZA];exact hiN);have hrow':=qaM (qao B1 L i) L (by rw[ZA];exact hLl);rw[hri,ht]at hrow;rw[hrL,ht']at hrow';have hsu:=qjm B1 L i hiN;have hgL:B1.getD L []=B1[L]:=by rw[List.getD_eq_getElem?_getD,List.getElem?_eq_getElem hLl];rfl
    have hgi:B1.getD i []=B1[i]:=by rw[List.getD_eq_getElem?_getD,List.getElem?_eq_getElem hiN];rfl
    rw[hgL,ht,ht',List.headD_cons]at hsu;have hwi:=List.all_eq_true.1 hwa i (List.mem_range.2 hiN);simp only[Bool.and_eq_true,Bool.or_eq_true,decide_eq_true_eq,hgL,hgi]at hwi;rw[ht,ht']at hwi;obtain⟨_,hwi⟩:=hwi;have hz:∀z:Int,AV.v (.string (bs (il z)))=zs z:=fun z=>rfl;have hk:qao B1 L (i+1)=qao B1 L i→∀env',env' 0=.ptr id 1 0 0→env' 1=.ref mid 1 0 B1.length none→env' 2=.v (.int .i64 0)→env' 3=.v (.int .i64 0)→env' 9=.v (.int .i64 (L:Nat))→env' 12=.v (.int .i64 ((i+1:Nat):Int))→∃y,GR H N id mid cap B1 L y ⟨107,env',H.set mid (Km (qao B1 L i) cap),N⟩∧B1.length-y<B1.length-i:=fun he env' a0 a1 a2 a3 a9 a12 =>⟨i+1,⟨by omega,_,_,rfl,⟨a0,by rw[ZA];exact a1,a2,a3,by rw[he]⟩,a9,a12⟩,by omega⟩
    unfold Km at hk;by_cases hiL:i=L
    ·rw[if_neg (fun h=>h.1 hiL)]at hsu;subst hiL;simp[-Int.natCast_add,e1,e9,e12,hiN,undef,-Qa,-Qb,w1];exact hk hsu _ (by simp[e0]) (by simp[e1]) (by simp[e2]) (by simp[e3]) (by simp[e9]) (by simp)
    ·have hiL':¬(i:Int)=(L:Int):=by omega
     by_cases h0:hdz B1 i=0
     ·rw[if_neg (fun h=>h.2 h0)]at hsu;simp[-Int.natCast_add,e1,e3,e9,e12,hiN,hiL',Km,hrow,Jd,zs,str,KK,h0,-Qa,-Qb,w1];exact hk hsu _ (by simp[e0]) (by simp[e1]) (by simp[e2]) (by simp[e3]) (by simp[e9]) (by simp)
     ·rw[if_pos ⟨hiL,h0⟩]at hsu;have hsub:=qev ((hwi.resolve_left (by omega)));simp[-Int.natCast_add,e1,e3,e9,e12,hiN,hiL',Km,hrow,Jd,zs,str,KK,h0,-Qa,-Qb];refine Qm.walk (fun _=>false) mixed ?_;simp[Q0,e0,e1,e3,e9,e12,hrow,hrow',Jd,hmN,hz,hiN,hLl];refine QF.look id (sz:=1) (i:=0) (off:=0) (u:=zs ((hdz B1 i).fdiv (hdz B1 L))) ?_ ?_ (fun H1 N1 e=>qji (id:=id) (e.trans ?_) _ _ hlg hlg' hL0) ?_
      ·simp
      ·exact hid
      ·simp[hne,hc']
      simp[Q0,e1,e9,hrow',Jd,hmN,hLl];refine QF.qbx id (sz:=1) (i:=0) (off:=0) (u:=.ro (zl (qew ((hdz B1 i).fdiv (hdz B1 L)) (hdz B1 i::t) (hdz B1 L::t')))) ?_ ?_ (fun H1 N1 e h1=>qjK (id:=id) (e.trans ?_) h1 _ (hdz B1 i::t) (hdz B1 L::t') hsub) ?_
      ·simp
      ·exact hid
      ·simp[hne,hc']
      have hst:∀n env,astore prog ⟨n,env,H.set mid (Km (qao B1 L i) cap),N⟩ 37 (.ptr mid 1 i 0) (.ro (zl (qew ((hdz B1 i).fdiv (hdz B1 L)) (hdz B1 i::t) (hdz B1 L::t'))))=some ⟨n,env,H.set mid (Km (qao B1 L (i+1)) cap),N⟩:=fun n env=>by rw[qpz (B:=qao B1 L i) (cap:=cap) (by simp) (by rw[ZA];exact hiN),XK,hsu]
      unfold Km at hst;simp[-Int.natCast_add,Q0,e12,hiN,hst,w1];exact⟨Zg.ofM (by kernel_rfl),i+1,⟨by omega,_,_,rfl,⟨by simp[e0],by simp[e1,ZA],by simp[e2],by simp[e3],rfl⟩,by simp[e9],by simp⟩,by omega⟩
   ·have hiE:i=B1.length:=by omega
    subst hiE;simp[e1,e3,e9,e12];exact⟨f,⟨_,_,_,rfl,⟨by simp[e0],by simp[e1,ZA],by simp[e2],by simp[e3],rfl⟩,by rw[ZA];exact hl,hf',hg'⟩,Nat.lt_succ_self _⟩
  ·have hg':some ((Yz (hdz B1) B1.length).1,B1)=some (l,B'):=by simp only[qbp,hok]at hg;simpa[hsv]using hg
   injection hg' with hg';injection hg' with g1 g2;subst g1 g2;simp[e1,e2,e9,e10,e11,hsv]
end
section
attribute [local simp] Qq Qh Qk Qr QR alen QO QX
def mB0:List (List Int):=[[4,1,0],[10,0,1]]
def mB1:List (List Int):=[[0,5,-2],[2,-2,1]]
def mB2:List (List Int):=[[2,-2,1],[0,5,-2]]
theorem qq3:qbp 5 mB0=some (1,mB1):=by decide
theorem quj:ZQ prog 70=true:=by kernel_rfl
theorem qtr:prog.cellsOf 70=2:=by kernel_rfl
theorem quk:prog.underlying 67=some (.slice 70):=by kernel_rfl
theorem qul:zlen prog 70=true:=by kernel_rfl
theorem qui:prog.bytesOf 70≤1000:=by decide +kernel
theorem qqv(a b:Int):abuild prog 70 [(0,.v (.int .i64 a)),(1,.v (.int .i64 b))]=some (.agg [.v (.int .i64 a),.v (.int .i64 b)]):=by kernel_rfl
theorem qnZ(a b:Int):Qz prog 67 1 [(0,.agg [.v (.int .i64 a),.v (.int .i64 b)])]=some (70,[[.v (.int .i64 a),.v (.int .i64 b)]]):=by kernel_rfl
structure HE(id mid:Nat)(env:Nat→AV):Prop where
 e0:env 0=.ptr id 1 0 0
 e1:env 1=.ref mid 1 0 2 none
 e2:env 2=.v (.int .i64 1)
def HP(H:Qf)(N mid:Nat)(cap:Option Nat)(y:AV)(G:Qf)(M:Nat):Prop:=N<M∧G.b mid=some (Km mB2 cap)∧(∀j,j<N→j≠mid→G.b j=H.b j)∧Yc prog 70 G N M y [[.v (.int .i64 0),.v (.int .i64 0)]]
def HO(H:Qf)(N id mid:Nat)(cap:Option Nat)(k:Nat)(st:St):Prop:=k≤1∧∃env G M y,st=⟨121,env,G,M⟩∧HE id mid env∧env 13=.v (.int .i64 1)∧env 14=.v (.int .i64 (k:Nat))∧env 7=y∧(k=0→y=.v (.slice none 0 0)∧G=H∧M=N)∧(k=1→HP H N mid cap y G M)
theorem qgt{H:Qf}{N id mid:Nat}{cap:Option Nat}(hc:Wk H id)(hid:id<N)(hm:H.b mid=some (Km mB0 cap))(hmN:mid<N) :
  Qc prog 35 [.ptr id 1 0 0,.ref mid 1 0 2 none,.v (.int .i64 1)] H N fun r H' N'=>HP H N mid cap r H' N':=by
 have hne:id≠mid:=fun e=>by unfold Wk at hc;rw[e,hm]at hc;injection hc with hc;have:=congrArg Blk.ty hc;simp[Km]at this
 have hc':=hc;unfold Wk at hc';refine Qc.body func35 ntmps35 ?_;simp;refine Qp.of (HO H N id mid cap) (fun k=>1-k) 0 ⟨by omega,_,_,_,_,rfl,⟨by simp,by simp,by simp⟩,by simp,by simp,rfl,fun _=>⟨by simp,rfl,rfl⟩,fun h=>by omega⟩ ?_;rintro k _ ⟨hk,env,G,M,y,rfl,⟨e0,e1,e2⟩,e13,e14,e7,hk0,hk1⟩;by_cases h0:k=0
 ·subst h0;obtain⟨rfl,rfl,rfl⟩:=hk0 rfl;simp[e0,e1,e7,e13,e14];refine(qiu (B:=mB0) hc hid hm hmN (by decide) (f:=5) (by omega) qq3).mono ?_;rintro r H' N' ⟨rfl,rfl,rfl⟩;simp[e0,e14,-Qa,-Qb,hne,hc'];refine Qm.walk (fun _=>false) mixed ?_;simp[Q0,e0,e1,Km,ml,mB1,hmN];refine⟨Zg.ofM (by kernel_rfl),?_⟩;have hG:(((G.set mid ⟨37,1,ml mB1,false,cap⟩).set mid ⟨37,1,[[.ro (zl [2,-2,1])],[.ro (zl [2,-2,1])]],false,cap⟩).set mid ⟨37,1,[[.ro (zl [2,-2,1])],[.ro (zl [0,5,-2])]],false,cap⟩)=G.set mid (Km mB2 cap):=by rw[XK,XK];rfl
  simp only[ml,mB1,List.map_cons,List.map_nil]at hG;simp only[hG];have hsg:=fun M=>qfP (H:=G.set mid (Km mB2 cap)) (N:=M) (id:=id) (by unfold Wk;simp[hne,hc']) 2 (Kl (by decide));simp[-Qf.Yg,Km,ml,mB2];refine(hsg _).mono ?_;rintro v H2 N2 ⟨rfl,g1,g2⟩;rw[g1,g2];clear g1 g2 H2 N2 hsg hG;simp[-Qf.Yg,show ¬sgz 2 = -1 by decide];refine Qp.of (fun(_:Unit) st=>∃env,st=⟨121,env,G.set mid (Km mB2 cap),N'⟩∧HE id mid env∧env 13=.v (.int .i64 1)∧env 14=.v (.int .i64 0)∧env 7=.v (.slice none 0 0)∧env 8=.v (.int .i64 0)∧env 9=.v (.int .i64 0)∧env 76=.v (.int .i64 0)∧env 77=.v (.int .i64 0)) (fun _=>0) () ⟨_,rfl,⟨by simp[e0],by simp[e1],by simp[e2]⟩,by simp[e13],by simp[e14],by simp[e7],by simp,by simp,by simp,by simp⟩ ?_;clear e0 e1 e2 e7 e13 e14;rintro _ _ ⟨env,rfl,⟨e0,e1,e2⟩,e13,e14,e7,e8,e9,e76,e77⟩;have hnil:Yc prog 70 (G.set mid (Km mB2 cap)) N' N' (.v (.slice none 0 0)) []:=.inl ⟨rfl,rfl⟩;obtain⟨r,H2,N2,h1,h2,_,h3,h4⟩:=Yc.qfu (t:=67) (c:=[.v (.int .i64 0),.v (.int .i64 0)]) hnil (Nat.le_refl _) quk quj qul qtr (by omega) rfl (by simp) qui (by simp);have w1:IntKind.i64.wrap 1=1:=by rw[Ql (by omega) (by omega)]
  simp[e7,e8,e9,e14,e76,e77,qqv,qnZ,Qs,h1,w1];refine⟨1,⟨by omega,_,H2,N2,r,rfl,⟨by simp[e0],by simp[e1],by simp[e2]⟩,by simp[e13],by simp,by simp,fun h=>by omega,fun _=>⟨h3,?_,fun j hj hjm=>?_,h2⟩⟩,by omega⟩
  ·rw[h4 mid hmN (.inl hmN)];simp
  ·rw[h4 j hj (.inl hj)];simp[hjm]
 ·have:k=1:=by omega
  subst this;simp[e7,e13,e14];exact hk1 rfl
end
section
attribute [local simp] Qq Qh Qk Qr QR alen QO QX
theorem qej(l:List Int)(h:∀z∈l,Lg z)(hl:l.length≤1000):Qg prog 66 [.ro (zl l),fn0 32] (.v (.int .i64 0)):=by
 refine Qg.body func66 ntmps66 ?_;simp[fn0];refine Qp.of (fun(i:Nat) st=>i≤l.length∧∃env,st=⟨21,env,QQ,0⟩∧env 1=fn0 32∧env 8=.ro (zl l)∧env 9=.v (.int .i64 (l.length:Nat))∧env 10=.v (.int .i64 (i:Nat))) (fun i=>l.length-i) 0
  ⟨by omega,_,rfl,by simp[fn0],by simp,by simp,by simp⟩ ?_
 rintro i _ ⟨hi,env,rfl,g1,g8,g9,g10⟩;unfold fn0 at g1;by_cases hiN:i<l.length
 ·have hz:=qaf l i hiN;simp[g1,g8,g9,g10,hiN];refine Qc.pv (KQ l[i] (h _ (List.getElem_mem _))) (by simp[Qj]) rfl ?_;simp[g1,g8,g9,g10,QH (show i+1<9223372036854775808 by omega)];exact⟨i+1,⟨by omega,rfl,by omega⟩,by omega⟩
 ·simp[g8,g9,g10,hiN];exact .dat _ 9 rfl
theorem qdn(l:List Int)(n:Nat)(h:∀z∈l,Lg z)(hl:l.length=n)(hn:n≤1000):Qg prog 31 [.ro (zl l),.v (.int .i64 (n:Nat)),fn0 32] (.v (.int .i64 0)):=by refine Qg.body func31 ntmps31 ?_;simp[hl];refine Qc.pv (qej l h (by omega)) (by simp[zl,Qj,fn0]) rfl ?_;simp;exact .dat _ 9 rfl
theorem qea(B:List (List Int))(n:Nat)(h:∀r∈B,r.length=n∧∀z∈r,Lg z)(hn:n≤64)(hB:B.length≤256):Qg prog 30 [.v (.int .i64 (n:Nat)),.ro (ml B)] (.v (.int .i64 0)):=by
 refine Qg.body func30 ntmps30 ?_;simp[undef,-Qa,-Qb,show ¬(n:Int)<0 by omega,show ¬(64:Int)<n by omega,show ¬(256:Int)<B.length by omega,qcT];refine Qp.of (fun(i:Nat) st=>i≤B.length∧∃env,st=⟨32,env,QQ,0⟩∧env 0=.v (.int .i64 (n:Nat))∧env 19=.ro (ml B)∧env 20=.v (.int .i64 (B.length:Nat))∧env 21=.v (.int .i64 (i:Nat))) (fun i=>B.length-i) 0
  ⟨by omega,_,rfl,by simp,by simp,by simp,by simp⟩ ?_
 rintro i _ ⟨hi,env,rfl,g0,g19,g20,g21⟩;by_cases hiN:i<B.length
 ·have hz:=qaM B i hiN;obtain⟨h1,h2⟩:=h _ (List.getElem_mem hiN);simp[g0,g19,g20,g21,hiN,hz];refine Qc.pv (qdn B[i] n h2 h1 (by omega)) (by simp[zl,Qj]) rfl ?_;simp[g0,g19,g20,g21,QH (show i+1<9223372036854775808 by omega)];exact⟨i+1,⟨by omega,rfl⟩,by omega⟩
 ·simp[g19,g20,g21,hiN];exact .dat _ 9 rfl
theorem qpJ(n i:Nat)(hi:i<n)(hn:n≤1000):Qg prog 34 [.v (.int .i64 (n:Nat)),.v (.int .i64 (i:Nat))] (.ro (zl (unL n i))):=by
 refine Qg.body func34 ntmps34 ?_;have hmk:=qhy (n:Nat) (by omega) (by omega);rw[Int.toNat_natCast]at hmk;have hm0:List.replicate n [AV.v (.string ByteArray.empty)]=V4 (List.replicate n 0) 0:=by simp[V4,zl]
 have hln:(List.replicate n (0:Int)).length=n:=by simp
 simp[hmk,hm0];refine Qp.of (fun(k:Nat) st=>k≤n∧∃env,st=⟨22,env,QQ.set 0 ⟨38,1,V4 (List.replicate n 0) k,false,some n⟩,1⟩∧env 1=.v (.int .i64 (i:Nat))∧env 5=.ref 0 1 0 n none∧env 10=.v (.int .i64 (n:Nat))∧env 11=.v (.int .i64 (k:Nat))) (fun k=>n-k) 0
  ⟨by omega,_,rfl,by simp,by simp,by simp,by simp⟩ ?_
 rintro k _ ⟨hk,env,rfl,g1,g5,g10,g11⟩;have hml:=qfl (List.replicate n 0) k (by omega);by_cases hkN:k<n
 ·have hst:∀nn env,astore prog ⟨nn,env,QQ.set 0 ⟨38,1,V4 (List.replicate n 0) k,false,some n⟩,1⟩ 38 (.ptr 0 1 k 0) (.v (.string { data:=#[48] }))=some ⟨nn,env,(QQ.set 0 ⟨38,1,V4 (List.replicate n 0) k,false,some n⟩).set 0 ⟨38,1,V4 (List.replicate n 0) (k+1),false,some n⟩,1⟩:=fun nn env=>by have:=qdl (n:=nn) (env:=env) (N:=1) (H:=QQ.set 0 ⟨38,1,V4 (List.replicate n 0) k,false,some n⟩) (id:=0) (v:=0) (es:=V4 (List.replicate n 0) k) (cap:=some n) (by simp) (by omega) (qfm _ k k (by omega));have h2:=qfn (List.replicate n 0) k (by omega);rw[List.getElem_replicate]at h2;rw[h2,zs0]at this;exact this
  simp[g1,g5,g10,g11,hkN,hst,XK,QH (show k+1<9223372036854775808 by omega)];exact⟨k+1,⟨by omega,_,⟨rfl,rfl⟩,by simp[g1],by simp[g5],by simp[g10],by simp⟩,by omega⟩
 ·have hkE:k=n:=by omega
  subst hkE;have hfull:V4 (List.replicate k 0) k=zl (List.replicate k 0):=by have:=qcS (List.replicate k 0);rwa[hln]at this
  have hul:(List.replicate k (0:Int)).set i 1=unL k i:=by
   refine List.ext_getElem (by simp[unL]) fun j h1 h2=>?_;rw[List.getElem_set];simp only[unL,List.getElem_map,List.getElem_range,List.getElem_replicate];by_cases e:i=j
   ·rw[if_pos e,if_pos e.symm]
   ·rw[if_neg e,if_neg fun h=>e h.symm]
  have hst:∀nn env,astore prog ⟨nn,env,QQ.set 0 ⟨38,1,zl (List.replicate k 0),false,some k⟩,1⟩ 38 (.ptr 0 1 i 0) (.v (.string { data:=#[49] }))=some ⟨nn,env,(QQ.set 0 ⟨38,1,zl (List.replicate k 0),false,some k⟩).set 0 ⟨38,1,zl (unL k i),false,some k⟩,1⟩:=fun nn env=>by have:=qfH (n:=nn) (env:=env) (N:=1) (H:=QQ.set 0 ⟨38,1,zl (List.replicate k 0),false,some k⟩) (id:=0) (i:=i) (v:=1) (ty:=38) (l:=List.replicate k 0) (cap:=some k) (by simp) (by rw[hln];omega);rw[hul]at this;rw[zs1]at this;exact this
  rw[hfull];simp[g1,g5,g10,g11,hst,hi,XK];have:=Frz.KB (H:=QQ.set 0 ⟨38,1,zl (unL k i),false,some k⟩) (F:=fun _=>True) (G:=fun _=>False) (id:=0) (sz:=1) (off:=0) (len:=k) (mx:=none) (b:=⟨38,1,zl (unL k i),false,some k⟩) trivial (by simp) rfl (by simp[QO,Ke]) (fun e he c hc=>by rw[List.drop_zero]at he;obtain⟨z,_,rfl⟩:=List.mem_map.1 (List.mem_of_mem_take he);simp at hc;subst hc;exact .dat _ 9 (by simp[Qj]))
  rw[List.drop_zero,List.take_of_length_le (by rw[QO,Ke];exact Nat.le_refl _)]at this;exact this
theorem qoK{H:Qf}{N id p:Nat}(hc:Wk H id)(hp:H.b p=some ⟨62,1,[[.ptr id 1 0 0]],false,some 1⟩)(z:Int)(hz:Lg z):WkE H N 40 [zs z,.ptr p 1 0 0] (.v (.bool (decide (z≠0)))):=by
 refine Qc.body func40 ntmps40 ?_;simp[hp];refine(qfP hc z hz).mono ?_;rintro r H' N' ⟨rfl,rfl,rfl⟩;have:sgz z=0↔z=0:=by
  unfold sgz;split
  ·omega
  ·split<;>omega
 simp[this]
theorem qlc{H:Qf}{N id:Nat}(hc:Wk H id):WkE H N 38 [.ptr id 1 0 0] (.v (.int .i64 0)):=by unfold Wk at hc;refine Qc.body func38 ntmps38 ?_;simp[hc]
theorem qiE{H:Qf}{N id p:Nat}(hc:Wk H id)(hp:H.b p=some ⟨62,1,[[.ptr id 1 0 0]],false,some 1⟩)(z:Int)(hz:Lg z):WkE H N 75 [.ro (zl [z]),.fn (.func 40) [] [.ptr p 1 0 0]] (.v (.int .i64 (if z=0 then -1 else 0))):=by
 refine Qc.body func75 ntmps75 ?_;simp;refine Qp.of (fun(k:Nat) st=>k≤1∧(k=1→z=0)∧∃env,st=⟨19,env,H,N⟩∧env 0=.ro (zl [z])∧env 1=.fn (.func 40) [] [.ptr p 1 0 0]∧env 7=.v (.int .i64 1)∧env 8=.v (.int .i64 (k:Nat))) (fun k=>1-k) 0
  ⟨by omega,fun h=>by omega,_,rfl,by simp,by simp,by simp,by simp⟩ ?_
 rintro k _ ⟨hk,hk1,env,rfl,g0,g1,g7,g8⟩;by_cases h0:k=0
 ·subst h0;simp[g0,g1,g7,g8,Jd];refine(qoK hc hp z hz).mono ?_;rintro r H' N' ⟨rfl,e1,e2⟩;rw[e1,e2];clear e1 e2 H' N';by_cases hz0:z=0
  ·simp[g0,g1,g7,g8,Jd,hz0,show IntKind.i64.wrap 1=1 by rw[Ql (by omega) (by omega)]];exact⟨1,⟨by omega,rfl⟩,rfl⟩
  ·simp[g0,g1,g7,g8,Jd,hz0]
 ·have:k=1:=by omega
  subst this;simp[g0,g1,g7,g8,hk1]
theorem qco{H:Qf}{N id p:Nat}(hc:Wk H id)(hp:H.b p=some ⟨62,1,[[.ptr id 1 0 0]],false,some 1⟩)(z:Int)(hz:Lg z):WkE H N 39 [.ro (zl [z]),.fn (.func 40) [] [.ptr p 1 0 0]] (.v (.bool (decide (z≠0)))):=by refine Qc.body func39 ntmps39 ?_;simp;refine(qiE hc hp z hz).mono ?_;rintro r H' N' ⟨rfl,rfl,rfl⟩;by_cases h:z=0<;>simp[h]
end
section
attribute [local simp] Qq Qh Qk Qr QR alen QO QX qcT
def Jf:List (List Int):=[[4],[10]]
structure WM(G:Qf):Prop where
 b0:G.b 0=some ⟨64,1,[[.v (.int .i64 0)]],false,some 1⟩
 b1:G.b 1=some ⟨62,1,[[.ptr 0 1 0 0]],false,some 1⟩
theorem WM.ext{G G':Qf}(h:WM G)(e:∀id,id<2→G'.b id=G.b id):WM G':=⟨(e 0 (by omega)).trans h.b0,(e 1 (by omega)).trans h.b1⟩
def qp8(G:Qf)(M:Nat)(x:AV):Nat→Prop
 | 0=>x=.v (.slice none 0 0)
 | 1=>∃q cap p cap',x=.ref q 1 0 1 none∧2≤q∧q<M∧G.b q=some ⟨37,1,[[.ref p 1 0 3 none]],false,cap⟩∧2≤p∧p<M∧G.b p=some ⟨38,1,zl [4,1,0],false,cap'⟩
 | 2=>∃q cap p cap',x=.ref q 1 0 2 none∧2≤q∧q<M∧G.b q=some ⟨37,1,[[.ro (zl [4,1,0])],[.ref p 1 0 3 none]],false,cap⟩∧2≤p∧p<M∧G.b p=some ⟨38,1,zl [10,0,1],false,cap'⟩
 | _=>False
theorem qiq{G:Qf}{p m:Nat}{l:List Int}{t:List (List AV)}{cap:Option Nat}(hp:G.b p=some ⟨38,1,zl l++t,false,cap⟩)(hm:m=l.length):Frz G (fun id=>id=p) (fun _=>True) (.ref p 1 0 m none) (.ro (zl l)):=by
 subst hm;have:=Frz.KB (H:=G) (F:=fun id=>id=p) (G:=fun _=>True) (id:=p) (sz:=1) (off:=0) (len:=l.length) (mx:=none) rfl hp rfl (by simp[QO]) (fun e he c hc=>by rw[List.drop_zero,List.take_append_of_le_length (by rw[QO];exact Nat.le_refl _)]at he;obtain⟨z,_,rfl⟩:=List.mem_map.1 (List.mem_of_mem_take he);simp at hc;subst hc;exact .dat _ 9 (by simp[Qj]))
 rw[List.drop_zero,List.take_append_of_le_length (by rw[QO];exact Nat.le_refl _),List.take_of_length_le (by rw[QO];exact Nat.le_refl _)]at this;exact this
theorem qqZ{n:Nat}{env:Nat→AV}{G:Qf}{M k:Nat}{x:AV}(h:qp8 G M x k):∃G',YQ ⟨n,env,G,M⟩ ⟨n,env,G',M⟩∧Yc prog 37 G' 2 M x (ml (mB0.take k))∧∀id,id<2→G'.b id=G.b id:=by
 match k,h with
 | 0,h=>exact⟨G,YQ.refl _,.inl ⟨h,rfl⟩,fun _ _=>rfl⟩
 | 1,⟨q,cap,p,cap',hx,hq2,hqM,hq,hp2,hpM,hp⟩ =>
  have hne:p≠q:=fun e=>by rw[e,hq]at hp;injection hp with hp;have:=congrArg Blk.ty hp;simp at this
  have hfz:=qiq (t:=[]) (m:=3) (by rw[List.append_nil];exact hp) rfl;refine⟨_,YQ.frzc (st:=⟨n,env,G,M⟩) (fun id=>id=p) hq (fun e=>hne e.symm) (es':=[[.ro (zl [4,1,0])]]) rfl rfl (fun i j x' hx'=>?_),.inr ⟨q,cap,hq2,hqM,hx,by simp[ml,mB0]⟩,fun id hid=>by rw[Qf.Yg,if_neg (by omega),qgo (by omega)]⟩;match i,j,hx' with
  | 0,0,hx'=>cases hx';exact⟨_,rfl,hfz⟩
  | 0,j+1,hx'=>simp[QZ]at hx'
  | i+1,j,hx'=>simp[QZ]at hx'
 | 2,⟨q,cap,p,cap',hx,hq2,hqM,hq,hp2,hpM,hp⟩ =>
  have hne:p≠q:=fun e=>by rw[e,hq]at hp;injection hp with hp;have:=congrArg Blk.ty hp;simp at this
  have hfz:=qiq (t:=[]) (m:=3) (by rw[List.append_nil];exact hp) rfl;refine⟨_,YQ.frzc (st:=⟨n,env,G,M⟩) (fun id=>id=p) hq (fun e=>hne e.symm) (es':=[[.ro (zl [4,1,0])],[.ro (zl [10,0,1])]]) rfl rfl (fun i j x' hx'=>?_),.inr ⟨q,cap,hq2,hqM,hx,by simp[ml,mB0]⟩,fun id hid=>by rw[Qf.Yg,if_neg (by omega),qgo (by omega)]⟩;match i,j,hx' with
  | 0,0,hx'=>cases hx';exact⟨_,rfl,.dat _ 9 (by simp[zl,Qj])⟩
  | 1,0,hx'=>cases hx';exact⟨_,rfl,hfz⟩
  | 0,j+1,hx'=>simp[QZ]at hx'
  | 1,j+1,hx'=>simp[QZ]at hx'
  | i+2,j,hx'=>simp[QZ]at hx'
theorem qql{st:St}{id m:Nat}{l l':List Int}{t:List (List AV)}{cap:Option Nat}(hm:m=l.length)(hb:st.H.b id=some ⟨38,1,zl l++t,false,cap⟩)(h0:l'≠[])(hl:l.length+l'.length≤100000) :
  aappend prog st 37 (.ref id 1 0 m none) (.ro (zl l'))=some (.ref st.N 1 0 (m+l'.length) none,⟨st.n,st.env,(st.H.kill id).set st.N ⟨38,1,zl (l++l'),false,none⟩,st.N+1⟩):=by
 subst hm;have hn:=QO l;have hn':=QO l';have hby:=qsy;unfold aappend;rw[qsz];cases l' with
 | nil=>exact(h0 rfl).elim
 | cons a l' =>
 have he:QA st.H (.ro (zl (a::l')))=some (zl (a::l')):=rfl;simp only[he];have hq:zl (a::l')=[zs a]::zl l':=rfl;rw[hq];simp only;rw[←hq,if_pos ⟨qq6,qsA,by rw[qfe];omega,by rw[qfe];simp[Zp,zl],by simp[Zb,zl]⟩];rw[hb];simp only[qfe,hn',List.length_append,hn];have hk:(l.length+(a::l').length)*prog.bytesOf 38≤100000*1000:=Nat.mul_le_mul hl hby;rw[if_pos ⟨trivial,trivial,trivial,by omega,by omega,by simp only[maxLen];omega⟩];simp only[Qs,qfe];congr 4;rw[List.take_append_of_le_length (by rw[hn];exact Nat.le_refl _),List.take_of_length_le (by rw[hn];exact Nat.le_refl _)];simp[zl]
end
section
attribute [local simp] Qq Qh Qk Qr QR alen QO QX qcT
structure ME(z:Int)(env:Nat→AV):Prop where
 e0:env 0=.v (.int .i64 1)
 e1:env 1=.ro (ml Jf)
 e2:env 2=.ro (zl [z])
 e11:env 11=.ptr 1 1 0 0
 e12:env 12=.v (.int .i64 2)
def MA(z:Int)(k:Nat)(st:St):Prop:=k≤2∧∃env G M x,st=⟨138,env,G,M⟩∧2≤M∧ME z env∧WM G∧env 13=x∧qp8 G M x k∧env 41=.ro (ml Jf)∧env 42=.v (.int .i64 2)∧env 43=.v (.int .i64 (k:Nat))
def MT(z:Int)(mid:Nat)(cap:Option Nat)(k:Nat)(st:St):Prop:=k≤2∧∃env G M q cq t,st=⟨138,env,G,M⟩∧ME z env∧WM G∧env 13=.ref mid 1 0 2 none∧2≤mid∧mid<M∧G.b mid=some (Km mB0 cap)∧env 16=.ref q 1 0 (1+k) none∧G.b q=some ⟨38,1,zl ([z]++List.replicate k 0)++t,false,cq⟩∧q<M∧2≤q∧env 60=.v (.int .i64 2)∧env 61=.v (.int .i64 (k:Nat))
def MP(z w0 w1 w2:Int)(mid:Nat)(cap:Option Nat)(k:Nat)(st:St):Prop:=k≤1∧∃env G M pv cpv,st=⟨138,env,G,M⟩∧ME z env∧WM G∧env 13=.ref mid 1 0 2 none∧mid<M∧G.b mid=some (Km mB2 cap)∧env 70=.ref pv 2 0 1 none∧pv<M∧G.b pv=some ⟨70,2,[[.v (.int .i64 0),.v (.int .i64 0)]],false,cpv⟩ ∧
 env 71=.v (.int .i64 1)∧env 72=.v (.int .i64 (k:Nat))∧(k=0→∃q cq t,env 16=.ref q 1 0 3 none∧q<M∧G.b q=some ⟨38,1,zl [z,0,0]++t,false,cq⟩)∧(k=1→env 16=.ro (zl [w0,w1,w2]))
def MN(z w1 w2:Int)(k:Nat)(st:St):Prop:=k≤2∧∃env G M x,st=⟨138,env,G,M⟩∧WM G∧2≤M∧env 11=.ptr 1 1 0 0∧env 118=.ro (zl [w1,w2])∧env 119=.v (.int .i64 2)∧env 120=.v (.int .i64 (k:Nat))∧env 20=x∧Yc prog 38 G 2 M x (zl ([-w1,-w2].take k))
def MQ(w0 w1 w2:Int)(r:AV):Prop:=r=.tup [if w0=0 then .ro (zl [-w1,-w2])else .ro [],.v (.bool (decide (w0=0))),.v (.int .i64 0)]
theorem qqC(q:Nat):Qz prog 44 1 [(0,.ref q 1 0 3 none)]=some (37,[[.ref q 1 0 3 none]]):=by kernel_rfl
theorem que:prog.underlying 44=some (.slice 37):=by kernel_rfl
theorem quf:zlen prog 37=true:=by kernel_rfl
theorem qud:prog.bytesOf 37≤1000:=by decide +kernel
theorem qn1:Qz prog 37 1 [(0,.v (.string { data:=#[48] }))]=some (38,[[.v (.string { data:=#[48] })]]):=by kernel_rfl
theorem qqn(a b c:Int):aslice prog 37 (.ro (zl [a,b,c])) none (some (.v (.int .i64 1)))=some (.ro (zl [a])):=by unfold zl zs str;kernel_rfl
theorem qqo(a b c:Int):aslice prog 37 (.ro (zl [a,b,c])) (some (.v (.int .i64 1))) none=some (.ro (zl [b,c])):=by unfold zl zs str;kernel_rfl
theorem qqx:abuild prog 64 []=some (.agg [.v (.int .i64 0)]):=by kernel_rfl
theorem qcP(z w0 w1 w2:Int)(hz:Lg z)(hsub:qkr (Int.fdiv z 2) [z,0,0] [2,-2,1])(hW:qew (Int.fdiv z 2) [z,0,0] [2,-2,1]=[w0,w1,w2])(hw0:Lg w0)(hw1:Lg w1)(hw2:Lg w2) :
  Qc prog 14 [.v (.int .i64 1),.ro (ml Jf),.ro (zl [z])] QQ 0 fun r _ _=>MQ w0 w1 w2 r:=by
 refine⟨⟨_,_,func14,by kernel_rfl,rfl⟩,(Qv.data (Q:=MQ w0 w1 w2) (Qv.QM func14 rfl (by simp[ntmps14]) (Qd _ _ _ ?_))).mono fun r H N h=>h.2.2⟩;have hLg:∀n:Int,n.natAbs<1000000→Lg n:=fun n h=>Kl h;have hint:=qea Jf 1 (by intro r hr;simp[Jf]at hr;rcases hr with rfl|rfl<;>exact⟨rfl,fun z hz=>by simp at hz;subst hz;exact Kl (by decide)⟩) (by omega) (by decide);have hvec:=qdn [z] 1 (by simpa using hz) rfl (by omega);simp;refine Qc.pv hint (by simp[ml,Jf,zl,Qj]) rfl ?_;simp;refine Qc.pv hvec (by simp[zl,Qj]) rfl ?_;have hrl:Jf.length=2:=rfl;simp[qqx,hrl];refine Qp.ofW (MA z) (fun k=>2-k) 0 ⟨by omega,_,_,_,_,rfl,Nat.le_refl _,⟨by simp,by simp,by simp,by simp,by simp⟩,⟨by simp,by simp⟩,by simp,rfl,by simp,by simp,by simp⟩ ?_;rintro k _ ⟨hk,env,G0,M,x,rfl,hM,⟨e0,e1,e2,e11,e12⟩,hwm0,e13,hrw,e41,e42,e43⟩;obtain⟨G,hWk,hox,hsame⟩:=qqZ (n:=138) (env:=env) hrw;refine⟨_,hWk,?_⟩;have hwm:=hwm0.ext hsame;clear hWk hrw hsame hwm0 G0;have wr1:IntKind.i64.wrap ((k:Int)+1)=((k+1:Nat):Int):=by rw[Ql (by omega) (by omega)];omega
 by_cases hk2:k<2
 ·obtain⟨a,row,ha,hrow,hr0,hr1⟩:∃a row,(ml Jf)[k]?=some [.ro (zl [a])]∧row=[a]++unL 2 k∧(k=0→row=[4,1,0])∧(k=1→row=[10,0,1]):=by
   match k,hk2 with
   | 0,_=>exact⟨4,_,rfl,rfl,fun _=>rfl,fun h=>by omega⟩
   | 1,_=>exact⟨10,_,rfl,rfl,fun h=>by omega,fun _=>rfl⟩
  simp[-Int.natCast_add,e2,e13,e41,e42,e43,show(k:Int)<2 by omega,ha];refine(qdS [a] (by simp)).mono ?_;rintro r G1 M1 ⟨q,cap,t,rfl,hq1,hq2,hqb,hext⟩;simp[-Int.natCast_add,e12];refine Qc.pv (qpJ 2 k hk2 (by omega)) (by simp) (by simp[zl,Qj]) ?_;have hap:∀n env,aappend prog ⟨n,env,G1,M1⟩ 37 (.ref q 1 0 1 none) (.ro (zl (unL 2 k)))=some (.ref M1 1 0 3 none,⟨n,env,(G1.kill q).set M1 ⟨38,1,zl (row),false,none⟩,M1+1⟩):=fun n env=>by rw[hrow];exact qql (l:=[a]) (l':=unL 2 k) rfl hqb (by simp[unL]) (by simp[Ke])
  have hM1:M≤M1:=hext.1;obtain⟨r2,H2,N2,hr,ho2,_,hN2,hH2⟩:=Yc.qfu (t:=44) (c:=[.ref M1 1 0 3 none]) (hox.same (H':=(G1.kill q).set M1 ⟨38,1,zl (row),false,none⟩) (hi':=M1+1) (by omega) fun id b h1 h2 _ _=>by
   rw[Qf.Yg,if_neg (by omega)];have:(G1.kill q).b id=G1.b id:=by simp[Qf.kill,show ¬id=q by omega]
   rw[this];exact hext.2.2 id (by omega)) (by omega) que qtq quf qoM (by omega) rfl (by simp) qud (by rw[qcT];simp[mB0];omega)
  simp[-Int.natCast_add,e43,hap,qqC,Qs,hr,wr1];have hb:∀id,id<2→H2.b id=G.b id:=fun id hid=>by
   rw[hH2 id (by omega) (.inl hid),Qf.Yg,if_neg (by omega)];have:(G1.kill q).b id=G1.b id:=by simp[Qf.kill,show ¬id=q by omega]
   rw[this];exact hext.2.2 id (by omega)
  have hp:=hH2 M1 (by omega) (.inr fun b hb=>by simp at hb;rw[←hb];simp);rw[Qf.Yg,if_pos rfl]at hp;refine⟨k+1,⟨by omega,_,H2,N2,r2,rfl,by omega,⟨by simp[e0],by simp[e1],by simp[e2],by simp[e11],by simp[e12]⟩,hwm.ext hb,by simp,?_,by simp[e41],by simp[e42],by simp⟩,by omega⟩;rcases ho2 with⟨_,h⟩|⟨q2,cap2,g1,g2,rfl,g3⟩
  ·simp at h
  match k,hk2 with
  | 0,_=>rw[hr0 rfl]at hp;exact⟨q2,cap2,M1,none,by rw[qoM];rfl,g1,g2,by rw[qoM]at g3;exact g3,by omega,by omega,hp⟩
  | 1,_=>rw[hr1 rfl]at hp;exact⟨q2,cap2,M1,none,by rw[qoM];rfl,g1,g2,by rw[qoM]at g3;exact g3,by omega,by omega,hp⟩
 ·have hkE:k=2:=by omega
  subst hkE;rcases hox with⟨_,h⟩|⟨mid,cap,g1,g2,rfl,hmb⟩
  ·simp[ml,mB0]at h
  rw[qoM]at e13 hmb;have hmb:G.b mid=some (Km mB0 cap):=hmb;have hml2:(ml (List.take 2 mB0)).length=2:=rfl;rw[hml2]at e13;clear wr1 hk hM;simp[-Int.natCast_add,e2,e41,e42,e43];refine(qdS [z] (by simp)).mono ?_;rintro r G1 M1 ⟨q,cq,t,rfl,hq1,hq2,hqb,hext⟩;have hmb1:G1.b mid=some (Km mB0 cap):=(hext.2.2 mid g2).trans hmb;have hwm1:WM G1:=hwm.ext fun id hid=>hext.2.2 id (by omega);have hmM1:mid<M1:=by have:=hext.1;omega
  simp[-Int.natCast_add,e12];refine Qp.of (MT z mid cap) (fun k=>2-k) 0 ⟨by omega,_,_,_,q,cq,t,rfl,⟨by simp[e0],by simp[e1],by simp[e2],by simp[e11],by simp[e12]⟩,hwm1,by simp[e13],g1,hmM1,hmb1,by simp,by simp;exact hqb,hq2,by omega,by simp,by simp⟩ ?_;clear e0 e1 e2 e11 e12 e13 e41 e42 e43 hqb hext hmb1 hwm1 hmM1 hq1 hq2 hmb g2 hwm env;rintro k _ ⟨hk,env,G,M,q,cq,t,rfl,⟨e0,e1,e2,e11,e12⟩,hwm,e13,g1,g2,hmb,e16,hqb,hqM,hq2,e60,e61⟩;have wr1:IntKind.i64.wrap ((k:Int)+1)=((k+1:Nat):Int):=by rw[Ql (by omega) (by omega)];omega
  by_cases hk2:k<2
  ·have hb0:=qn1;have hap:∀n env,aappend prog ⟨n,env,G.set M ⟨38,1,[[.v (.string { data:=#[48] })]],false,some 1⟩,M+1⟩ 37 (.ref q 1 0 (1+k) none) (.ref M 1 0 1 none)=some (.ref (M+1) 1 0 (1+k+1) none,⟨n,env,((G.set M ⟨38,1,[[.v (.string { data:=#[48] })]],false,some 1⟩).kill q).set (M+1) ⟨38,1,zl ([z]++List.replicate (k+1) 0),false,none⟩,M+1+1⟩):=fun n env=>by have:=qmO (st:=⟨n,env,G.set M ⟨38,1,[[.v (.string { data:=#[48] })]],false,some 1⟩,M+1⟩) (id:=q) (m:=1+k) (l:=[z]++List.replicate k 0) (t:=t) (cap:=cq) (x:=.ref M 1 0 1 none) (z:=0) (by simp;omega) (by simp[show ¬q=M by omega];simpa using hqb) (by simp[QA];rw[zs0];rfl) (by simp;omega);rw[List.append_assoc,←List.replicate_succ']at this;exact this
   simp[-Int.natCast_add,e11,e16,e60,e61,show(k:Int)<2 by omega,hb0,Qs,hap,wr1];have hkeep:∀id,id<M→id≠q→(((G.set M ⟨38,1,[[.v (.string { data:=#[48] })]],false,some 1⟩).kill q).set (M+1) ⟨38,1,zl ([z]++List.replicate (k+1) 0),false,none⟩).b id=G.b id:=fun id h1 h2=>by rw[Qf.Yg,if_neg (by omega)];simp[Qf.kill,h2,show ¬id=M by omega]
   have hqm:mid≠q:=fun e=>by rw[e,hqb]at hmb;injection hmb with hmb;have:=congrArg Blk.ty hmb;simp[Km]at this
   refine⟨k+1,⟨by omega,_,_,_,M+1,none,[],rfl,⟨by simp[e0],by simp[e1],by simp[e2],by simp[e11],by simp[e12]⟩,hwm.ext fun id hid=>hkeep id (by omega) (by omega),by simp[e13],g1,by omega,(hkeep mid g2 hqm).trans hmb,by simp;omega,?_,by omega,by omega,by simp[e60],by simp⟩,by omega⟩;rw[List.append_nil];exact Qf.Yg ..|>.trans (if_pos rfl)
  ·have hkE:k=2:=by omega
   subst hkE;simp[-Int.natCast_add,e0,e11,e13,e16,e60,e61,hwm.b1];have hwk:Wk G 0:=hwm.b0;refine(qgt (cap:=cap) hwk (by omega) hmb g2).mono ?_;rintro r G1 M1 ⟨f1,f2,f3,f4⟩;rcases f4 with⟨_,h⟩|⟨pv,cpv,p1,p2,rfl,hpv⟩
   ·simp at h
   rw[qtr]at hpv⊢;have hqm:q≠mid:=fun e=>by rw[e,hmb]at hqb;injection hqb with hqb;have:=congrArg Blk.ty hqb;simp[Km]at this
   have hqb1:=(f3 q hqM hqm).trans hqb;have hwm1:WM G1:=hwm.ext fun id hid=>f3 id (by omega) (by omega);simp[-Int.natCast_add];refine Qp.ofW (MP z w0 w1 w2 mid cap) (fun k=>1-k) 0 ⟨by omega,_,_,_,pv,cpv,rfl,⟨by simp[e0],by simp[e1],by simp[e2],by simp[e11],by simp[e12]⟩,hwm1,by simp[e13],by omega,f2,by simp,by omega,by simpa using hpv,by simp,by simp,fun _=>⟨q,cq,t,by simp[e16],by omega,hqb1⟩,fun h=>by omega⟩ ?_;clear e0 e1 e2 e11 e12 e13 e16 e60 e61 hwm hwk hmb f1 f2 f3 p1 p2 hpv hqb hqb1 hwm1 hqm hqM hq2 wr1 hk hk2 g1 g2 env;rintro k _ ⟨hk,env,G,M,pv,cpv,rfl,⟨e0,e1,e2,e11,e12⟩,hwm,e13,hmM,hmb,e70,hpvM,hpv,e71,e72,hk0,hk1⟩;have hwk:Wk G 0:=hwm.b0;by_cases hk2:k=0
   ·subst hk2;obtain⟨q,cq,t,e16,hqM,hqb⟩:=hk0 rfl;have hfz:=qiq (m:=3) hqb rfl;rw[←e16]at hfz;refine⟨_,YQ.frzs (st:=⟨138,env,G,M⟩) (d:=16) (fun id=>id=q) hfz,?_⟩;have hqne:q≠mid∧q≠pv∧q≠0∧q≠1:=by
     refine⟨?_,?_,?_,?_⟩<;>(intro e;subst e)
     ·rw[hmb]at hqb;injection hqb with hqb;have:=congrArg Blk.ty hqb;simp[Km]at this
     ·rw[hpv]at hqb;injection hqb with hqb;have:=congrArg Blk.ty hqb;simp at this
     ·rw[hwm.b0]at hqb;injection hqb with hqb;have:=congrArg Blk.ty hqb;simp at this
     ·rw[hwm.b1]at hqb;injection hqb with hqb;have:=congrArg Blk.ty hqb;simp at this
    have hsame:∀id,id≠q→(G.fr fun id=>id=q).b id=G.b id:=fun id h=>qgo h;have hwm1:=hwm.ext (G':=G.fr fun id=>id=q) fun id hid=>hsame id (by omega);have hmb1:=(hsame mid (fun e=>hqne.1 e.symm)).trans hmb;have hpv1:=(hsame pv (fun e=>hqne.2.1 e.symm)).trans hpv;have hwk1:Wk (G.fr fun id=>id=q) 0:=hwm1.b0;generalize (G.fr fun id=>id=q)=G1 at hwm1 hmb1 hpv1 hwk1⊢;clear hsame hqne hfz hqb hwm hmb hpv hk0 hk1 hwk;simp[-Int.natCast_add,e11,e70,e71,e72,hpv1,hwm1.b0,hwm1.b1,show ¬1=M by omega,show ¬0=M by omega];rw[XK];have hmm:∀b,(G1.set M b).b mid=some (Km mB2 cap):=fun b=>by rw[Qf.Yg,if_neg (by omega)];exact hmb1
    have h0m:∀b,(G1.set M b).b 0=some ⟨64,1,[[.v (.int .i64 0)]],false,some 1⟩:=fun b=>by rw[Qf.Yg,if_neg (by omega)];exact hwm1.b0
    have h1m:∀b,(G1.set M b).b 1=some ⟨62,1,[[.ptr 0 1 0 0]],false,some 1⟩:=fun b=>by rw[Qf.Yg,if_neg (by omega)];exact hwm1.b1
    have hMM:∀b,(G1.set M b).b M=some b:=fun b=>by rw[Qf.Yg,if_pos rfl]
    have hpm:∀b,(G1.set M b).b pv=some ⟨70,2,[[.v (.int .i64 0),.v (.int .i64 0)]],false,cpv⟩:=fun b=>by rw[Qf.Yg,if_neg (by omega)];exact hpv1
    have hm0:Km mB2 cap=⟨37,1,[[.ro (zl [2,-2,1])],[.ro (zl [0,5,-2])]],false,cap⟩:=rfl;rw[hm0]at hmm;refine Qm.walk (fun _=>false) mixed ?_;simp[-Qf.Yg,Q0,e11,e13,h1m,hMM,hmm,show 1<M+1 by omega,show mid<M+1 by omega];refine QF.look 0 (sz:=1) (i:=0) (off:=0) (u:=zs (z.fdiv 2)) ?_ ?_ (fun H1 N1 e=>qji (id:=0) (e.trans ?_) _ _ hz (Kl (by decide)) (by decide)) ?_
    ·simp
    ·exact Nat.succ_pos _
    ·exact h0m _
    simp[-Qf.Yg,Q0,e13,hMM,hmm,show mid<M+1 by omega];refine QF.qbx 0 (sz:=1) (i:=0) (off:=0) (u:=.ro (zl [w0,w1,w2])) ?_ ?_ (fun H1 N1 e h1=>by rw[←hW];exact qjK (id:=0) (e.trans (h0m _)) h1 _ [z,0,0] [2,-2,1] hsub) ?_
    ·simp
    ·exact Nat.succ_pos _
    have wr1:IntKind.i64.wrap 1=1:=by rw[Ql (by omega) (by omega)]
    simp[-Qf.Yg,e72,wr1];refine⟨Zg.ofM (by kernel_rfl),1,⟨by omega,_,_,_,pv,cpv,rfl,⟨by simp[e0],by simp[e1],by simp[e2],by simp[e11],by simp[e12]⟩,⟨h0m _,h1m _⟩,by simp[e13],by omega,(hmm _).trans (by rw[hm0]),by simp[e70],by omega,hpm _,by simp[e71],by simp,fun h=>by omega,fun _=>by simp⟩,by omega⟩
   ·have:k=1:=by omega
    subst this;have e16:=hk1 rfl;refine⟨_,YQ.refl _,?_⟩;clear hk0 hk1 hk2;simp[-Int.natCast_add,e11,e70,e71,e72,hwm.b1];refine(qlc hwk).mono ?_;rintro r H2 N2 ⟨rfl,f1,f2⟩;rw[f1,f2];clear f1 f2 H2 N2;simp[-Int.natCast_add,e0,e11,e16,qqn];refine(qco hwk hwm.b1 w0 hw0).mono ?_;rintro r H2 N2 ⟨rfl,f1,f2⟩;rw[f1,f2];clear f1 f2 H2 N2;by_cases hw:w0=0
    ·subst hw;simp[-Int.natCast_add,e0,e16,qqo];refine Qp.of (MN z w1 w2) (fun k=>2-k) 0 ⟨by omega,_,_,_,_,rfl,hwm,by omega,by simp[e11],by simp,by simp,by simp,rfl,.inl ⟨rfl,rfl⟩⟩ ?_;clear e0 e1 e2 e11 e12 e13 e16 e70 e71 e72 hwk hwm hmb hpv hpvM hk env hmM;rintro k _ ⟨hk,env,G,M,x,rfl,hwm,hM2,e11,e118,e119,e120,e20,hox⟩;have wr1:IntKind.i64.wrap ((k:Int)+1)=((k+1:Nat):Int):=by rw[Ql (by omega) (by omega)];omega
     by_cases hk2:k<2
     ·obtain⟨a,ha,hLa,hap⟩:∃a,(zl [w1,w2])[k]?=some [zs a]∧Lg a∧[-w1,-w2].take (k+1)=[-w1,-w2].take k++[-a]:=by
       match k,hk2 with
       | 0,_=>exact⟨w1,rfl,hw1,rfl⟩
       | 1,_=>exact⟨w2,rfl,hw2,rfl⟩
      obtain⟨hkl,hge⟩:=List.getElem?_eq_some_iff.1 ha;simp[-Int.natCast_add,-QX,e118,e119,e120,e20,hk2,show(k:Int)<2 by omega,hge];refine Qc.pv (qnb a hLa) (by simp[Qj]) (by simp[Qj]) ?_;simp[-Int.natCast_add,e11,e20,hwm.b1];have hwk:Wk G 0:=hwm.b0;refine(KT hwk (-a)).mono ?_;rintro r H2 N2 ⟨rfl,f1,f2⟩;rw[f1,f2];clear f1 f2 H2 N2;obtain⟨r2,H2,N2,hr,ho2,_,hN2,hH2⟩:=Yc.qfu (t:=37) (c:=[zs (-a)]) hox hM2 qsz qq6 qsA qfe (by omega) rfl (by simp[QR]) qsy (by rw[QO];simp;omega);simp[-Int.natCast_add,e120,qhO,Qs,hr,wr1];refine⟨k+1,⟨by omega,_,H2,N2,r2,rfl,hwm.ext fun id hid=>hH2 id (by omega) (.inl hid),by omega,by simp[e11],by simp[e118],by simp[e119],by simp,by simp,?_⟩,by omega⟩;rw[hap];simpa[zl]using ho2
     ·have hkE:k=2:=by omega
      subst hkE;simp[-Int.natCast_add,e118,e119,e120,e20];have hfz:=hox.frz (F:=fun id=>True) (G:=fun _=>False) (fun _ _ _=>trivial) (fun e he c hc=>by obtain⟨v,_,rfl⟩:=List.mem_map.1 he;simp at hc;subst hc;exact .dat _ 9 (by simp[Qj]))
      exact⟨_,Wl (.cons hfz (.cons (.v _) (.cons (.v _) .nil))),by simp[MQ]⟩
    ·simp[-Int.natCast_add,e0,e16,hw];exact⟨_,Wl (.cons .nil (.cons (.v _) (.cons (.v _) .nil))),by simp[MQ,hw]⟩
end
def fA:Fct:=⟨0,[-2],7⟩
def fB:Fct:=⟨0,[1],-1⟩
def fC:Fct:=⟨0,[-1],0⟩
theorem qsv(a b:Int)(ha:a.natAbs<1000000)(hb:b.natAbs<1000000):FOk ⟨0,[a],b⟩ 1:=by
 have key:∀z:Int,z.natAbs<1000000→nd z.natAbs≤100:=fun z hz=>by have:=(YF (k:=6) (n:=z.natAbs) (by omega)).2 (by omega);omega
 exact⟨.inl rfl,rfl,fun z hz=>by simp at hz;subst hz;exact key _ ha,key _ hb⟩
theorem lnI(l:List Int)(k:Int)(hl:l.length≤32)(h:∀z∈k::l,z.natAbs<1000000):Ln (l.map fun z:Int=>(z:Rat)) (k:Rat):=by
 have key:∀z:Int,z.natAbs<1000000→szq (z:Rat)≤100:=fun z hz=>by have h1:=(YF (k:=6) (n:=z.natAbs) (by omega)).2 (by omega);have n1:nd 1=1:=Zo (by omega);unfold szq;show max (nd z.natAbs) (nd 1)≤100;omega
 exact⟨by simpa using hl,fun q hq=>by obtain⟨z,hz,rfl⟩:=List.mem_map.1 hq;exact key z (h z (List.mem_cons_of_mem _ hz)),key k (h k (List.mem_cons_self ..))⟩
theorem qop:∀x,(QS [1] 0 [fA]).Vn x↔0≤-2*x 0+7:=fun x=>by rw[qbJ];simp[qr4,qkk,fA,LP.sm];grind
theorem qum{a:Nat}{v:Rat}(h:LP.Res (QS [1] 0 [fA]) a v):a=0∧v=7/2:=by
 have hobj:∀x,(QS [1] 0 [fA]).obj x=x 0:=fun x=>by simp[LP.Prg.obj,LP.sm,QS];grind
 cases h with
 | opt h =>refine⟨rfl,?_⟩;have h1:=h.le (x:=fun _=>7/2) ((qop _).2 (by grind));obtain⟨⟨x,hx,hv⟩,_⟩:=h;rw[qop]at hx;rw[hobj]at h1 hv;grind
 | unb h =>obtain⟨_,r,hr,hp⟩:=h;rw[qje]at hr;simp[qta,qkk,fA,LP.sm]at hr;simp[LP.sm,QS]at hp;grind
 | inf h=>exact(h.no (x:=fun _=>0) ((qop _).2 (by grind))).elim
theorem qqV(x:Nat→Rat):¬(QS [0] 0 [fB,fC]).Vn x:=by rw[qbJ];simp[qr4,qkk,fB,fC,LP.sm];intro h1 h2;grind
theorem qun{a:Nat}{v:Rat}(h:LP.Res (QS [0] 0 [fB,fC]) a v):a=2:=by
 cases h with
 | opt h=>obtain⟨⟨x,hx,_⟩,_⟩:=h;exact(qqV x hx).elim
 | unb h=>obtain⟨⟨x,hx⟩,_⟩:=h;exact(qqV x hx).elim
 | inf h=>rfl
theorem qua:Y6 prog 9 [ln [1] 0,.ro (fl [fA])] (qbY 1 0 (7/2)):=by
 have hL:Ln [1] 0:=lnI [1] 0 (by decide) (by decide);have hF:∀f∈[fA],FOk f [(1:Rat)].length:=fun f hf=>by rw[List.mem_singleton.1 hf];exact qsv _ _ (by decide) (by decide)
 obtain⟨δ,hs⟩:=WB hL hF (by simp) (by simp);obtain⟨a,v,hr,hm⟩:=J3 hs;obtain⟨rfl,rfl⟩:=qum hr;exact WS hm hL hF (by simp)
theorem qtY:Y6 prog 13 [.ro (fl [fB,fC]),.v (.int .i64 1)] (qp3 2 2):=by
 have hL:Ln [0] 0:=lnI [0] 0 (by decide) (by decide);have hF:∀f∈[fB,fC],FOk f [(0:Rat)].length:=fun f hf=>by
  rcases List.mem_cons.1 hf with h|h
  ·rw[h];exact qsv _ _ (by decide) (by decide)
  ·rw[List.mem_singleton.1 h];exact qsv _ _ (by decide) (by decide)
 obtain⟨δ,hs⟩:=WB hL hF (by simp) (by simp);obtain⟨a,v,hr,hm⟩:=J3 hs;obtain rfl:=qun hr;exact qd7 (n:=1) hm (by omega) hF (by simp)
theorem quc:Qg prog 14 [.v (.int .i64 1),.ro (ml Jf),.ro (zl [6])] (.tup [.ro (zl [-6,3]),.v (.bool true),.v (.int .i64 0)]) :=
 Qc.mono (qcP 6 0 6 (-3) (Kl (by decide)) (qev (by decide)) (by decide) (Kl (by decide)) (Kl (by decide)) (Kl (by decide))) fun r H N h=>by rw[h];rfl
theorem qub:Qg prog 14 [.v (.int .i64 1),.ro (ml Jf),.ro (zl [5])] (.tup [.ro [],.v (.bool false),.v (.int .i64 0)]) :=
 Qc.mono (qcP 5 1 4 (-2) (Kl (by decide)) (qev (by decide)) (by decide) (Kl (by decide)) (Kl (by decide)) (Kl (by decide))) fun r H N h=>by rw[h];rfl
section
attribute [local simp] Qq Qh Qk Qr QR alen QO QX qcT
theorem qn0:Qz prog 22 1 [(0,.v (.string { data:=#[49] }))]=some (23,[[.v (.string { data:=#[49] })]]):=by kernel_rfl
theorem qqw(q:Nat):abuild prog 25 [(0,.ref q 1 0 1 none),(1,.v (.string { data:=#[48] }))]=some (.agg [.ref q 1 0 1 none,.v (.string { data:=#[48] })]):=by kernel_rfl
theorem qrc(a:Int)(es:List (List AV))(s1 s2:ByteArray):qdx prog 26 1 [(0,.agg [.v (.int .i64 a),.ro es,.v (.string s1),.v (.string s2)])]=some (.ro [[.v (.int .i64 a),.ro es,.v (.string s1),.v (.string s2)]]):=by kernel_rfl
theorem qsC(f:Fct):qdx prog 26 1 [(0,.agg (fcL f))]=some (.ro (fl [f])):=by unfold fcL fl zs str;exact qrc f.op (zl f.coef) _ _
theorem qkN(a b:Int)(es es':List (List AV))(s1 s2 s3 s4:ByteArray):Qz prog 26 2 [(0,.agg [.v (.int .i64 a),.ro es,.v (.string s1),.v (.string s2)]),(1,.agg [.v (.int .i64 b),.ro es',.v (.string s3),.v (.string s4)])]=some (40,[[.v (.int .i64 a),.ro es,.v (.string s1),.v (.string s2)],[.v (.int .i64 b),.ro es',.v (.string s3),.v (.string s4)]]):=by kernel_rfl
theorem qnX(f g:Fct):Qz prog 26 2 [(0,.agg (fcL f)),(1,.agg (fcL g))]=some (40,fl [f,g]):=by unfold fcL fl zs str;exact qkN f.op g.op (zl f.coef) (zl g.coef) _ _ _ _
theorem _root_.Go.AX.Qm.weak{P:Program}{id:Nat}{ops:Array Oper}{st st2:St}{Q:St→Prop}(hw:YQ st st2)(h:Qm P id ops st2 Q):Qm P id ops st Q:=fun pl R hR=>Qe.weak hw (h pl R hR)
theorem _root_.Go.AX.Y6.frz{P:Program}{f:FuncId}{args args':List AV}{H:Qf}{N:Nat}{Q:AV→Prop}{k:Nat}(h:Y6 P f args' Q)(F:Nat→Prop)[DecidablePred F](hl:args'.length=args.length)
  (ha:∀(j:Nat) (x x':AV),args[j]?=some x→args'[j]?=some x'→Frz H F (fun _=>True) x x') (hd:args'.all (Qu k)=true) (hr:∀r,Q r→Qu k r=true):Qc P f args H N fun r H' N'=>Q r∧H'=H.fr F∧N'=N:=by
 have h2:=h.frame (H:=H.fr F) (N:=N) hd hr;exact⟨h2.1,Qv.args F hl ha h2.2⟩
theorem qq2{H:Qf}{F G:Nat→Prop}{id:Nat}{ty:TypeId}{fz:Bool}{cap:Option Nat}(hb:H.b id=some ⟨ty,1,[[.v (.string { data:=#[49] })]],fz,cap⟩)(hF:F id):Frz H F G (.ref id 1 0 1 none) (.ro (ql [1])):=by
 have hq:ql [1]=[[.v (.string { data:=#[49] })]]:=by unfold ql;rw[List.map_cons,List.map_nil,rs1]
 rw[hq];exact Frz.KB (H:=H) (F:=F) (G:=G) (id:=id) (sz:=1) (off:=0) (len:=1) (mx:=none) hF hb rfl (by simp) (fun e he c hc=>by simp at he;subst he;simp at hc;subst hc;exact .v _)
theorem qe7{H:Qf}{F G:Nat→Prop}{id:Nat}{ty:TypeId}{z:Int}{fz:Bool}{cap:Option Nat}(hb:H.b id=some ⟨ty,1,[[zs z]],fz,cap⟩)(hF:F id):Frz H F G (.ref id 1 0 1 none) (.ro (zl [z])) :=
 Frz.KB (H:=H) (F:=F) (G:=G) (id:=id) (sz:=1) (off:=0) (len:=1) (mx:=none) hF hb rfl (by simp) (fun e he c hc=>by simp at he;subst he;simp at hc;subst hc;exact .dat _ 9 (by simp[Qj]))
theorem qe6{H:Qf}{F G:Nat→Prop}{q a b:Nat}{ty ta tb:TypeId}{f1 f2 f3:Bool}{c1 c2 c3:Option Nat}(hq:H.b q=some ⟨ty,1,[[.ref a 1 0 1 none],[.ref b 1 0 1 none]],f1,c1⟩)(ha:H.b a=some ⟨ta,1,[[zs 4]],f2,c2⟩)(hb:H.b b=some ⟨tb,1,[[zs 10]],f3,c3⟩)(Fq:F q)(Fa:F a)(Fb:F b):Frz H F G (.ref q 1 0 2 none) (.ro (ml Jf)) :=
 .new q 1 0 2 none _ Fq hq rfl (Nat.le_refl _) (ml Jf) (fun i _=>if i=0 then .ref a 1 0 1 none else .ref b 1 0 1 none) ⟨rfl,fun i e e' h1 h2=>by
  match i,h1,h2 with
  | 0,h1,h2=>cases h1;cases h2;rfl
  | 1,h1,h2=>cases h1;cases h2;rfl
  | i+2,h1,h2=>simp at h1⟩ (fun i j x' h=>by
  match i,j,h with
  | 0,0,h=>rfl
  | 1,0,h=>rfl
  | 0,j+1,h=>simp[QZ,ml,Jf]at h
  | 1,j+1,h=>simp[QZ,ml,Jf]at h
  | i+2,j,h=>simp[QZ,ml,Jf]at h) (fun i j x' h=>by
  match i,j,h with
  | 0,0,h=>cases h;exact qe7 ha Fa
  | 1,0,h=>cases h;exact qe7 hb Fb
  | 0,j+1,h=>simp[QZ,ml,Jf]at h
  | 1,j+1,h=>simp[QZ,ml,Jf]at h
  | i+2,j,h=>simp[QZ,ml,Jf]at h)
theorem quq:rt (7/2)=[55,47,50]:=by
 unfold rt il;have h1:(7/2:Rat).den=2:=by decide +kernel
 have h2:(7/2:Rat).num=7:=by decide +kernel
 rw[h1,h2,if_neg (by decide),if_neg (by decide),show(7:Int).natAbs=7 from rfl,QN (by omega),QN (by omega)];rfl
theorem qhN(s:ByteArray):Qz prog 37 1 [(0,.v (.string s))]=some (38,[[.v (.string s)]]):=by kernel_rfl
theorem qnY(a b:Nat):Qz prog 44 2 [(0,.ref a 1 0 1 none),(1,.ref b 1 0 1 none)]=some (37,[[.ref a 1 0 1 none],[.ref b 1 0 1 none]]):=by kernel_rfl
theorem qtV:dg 10=[49,48]:=by rw[JV (by omega),QN (by omega)];rfl
theorem qsF:AV.v (.string { data:=#[45,50] })=zs (-2):=by unfold zs il;rw[if_pos (by decide),show(-2:Int).natAbs=2 from rfl,QN (by omega)];rfl
theorem qt9:AV.v (.string { data:=#[55] })=zs 7:=by unfold zs il;rw[if_neg (by decide),show(7:Int).natAbs=7 from rfl,QN (by omega)];rfl
theorem qrd:AV.v (.string { data:=#[45,49] })=zs (-1):=by unfold zs il;rw[if_pos (by decide),show(-1:Int).natAbs=1 from rfl,QN (by omega)];rfl
theorem qt6:AV.v (.string { data:=#[52] })=zs 4:=by unfold zs il;rw[if_neg (by decide),show(4:Int).natAbs=4 from rfl,QN (by omega)];rfl
theorem qt8:AV.v (.string { data:=#[54] })=zs 6:=by unfold zs il;rw[if_neg (by decide),show(6:Int).natAbs=6 from rfl,QN (by omega)];rfl
theorem qt7:AV.v (.string { data:=#[53] })=zs 5:=by unfold zs il;rw[if_neg (by decide),show(5:Int).natAbs=5 from rfl,QN (by omega)];rfl
theorem qsE:AV.v (.string { data:=#[49,48] })=zs 10:=by unfold zs il;rw[if_neg (by decide),show(10:Int).natAbs=10 from rfl,qtV];rfl
theorem qc9(u:Unit):Qg prog 5 [] (.v (.bool true)):=by
 refine Qg.body func5 ntmps5 ?_;simp[Qs,qn0,qqw];generalize hG:(Qf.set (Qf.set _ 1 _) 1 _)=G;have g0:G.b 0=some ⟨23,1,[[.v (.string { data:=#[49] })]],false,some 1⟩:=by rw[←hG];simp
 have g1:G.b 1=some ⟨25,2,[[.ref 0 1 0 1 none,.v (.string { data:=#[48] })]],false,some 1⟩:=by rw[←hG];simp
 clear hG;refine Qm.weak (YQ.frzc (st:=⟨84,_,G,2⟩) (fun id=>id=0) g1 (by decide) (es':=[[.ro (ql [1]),rs 0]]) rfl rfl (fun i j x' h=>by
  match i,j,h with
  | 0,0,h=>cases h;exact⟨_,rfl,qq2 g0 rfl⟩
  | 0,1,h=>cases h;exact⟨_,rfl,by rw[rs0];exact .v _⟩
  | 0,j+2,h=>simp[QZ]at h
  | i+1,j,h=>simp[QZ]at h)) ?_
 dsimp only;generalize hG1:(Qf.set (Qf.fr G fun id=>id=0) 1 _)=G1;have h1:G1.b 1=some ⟨25,2,[[.ro (ql [1]),rs 0]],false,some 1⟩:=by rw[←hG1,Qf.Yg,if_pos rfl]
 clear hG1 g0 g1 G;refine Qm.cut mixed ([0,1,2,7]++(3::[4,5,6,8,9])) (by kernel_rfl) (by kernel_rfl) ?_;refine Yp.walk (fun _=>true) _ ?_;have hA:=Wy (-2) 7;rw[←qsF,←qt9]at hA;simp[qbZ,Q0,h1];refine QF.pure (k:=9) hA (by simp) (by simp[fcL,zl,Qj]) ?_;simp[qsC];refine sgK.mk (by kernel_rfl) ?_;refine Yp.qsn rfl (by kernel_rfl) (by simp) (S:=qbY 1 0 (7/2)) (fun H N=>by have:=qua.frame (H:=H) (N:=N) (k:=9) (by simp[ln,fl,fcL,zl,ql,Qn,Qj]) (fun r h=>h.data);simp;exact this) ?_
 rintro r ⟨val,lp,lr,lm,rfl,hv,_⟩;obtain⟨_,rfl,_⟩|⟨h,_⟩:=hv;case inr=>exact(h rfl).elim
 refine Yp.last (fun _=>true) [4,5,6,8,9] ?_;simp[qbZ,Q0,qb0];refine sgK.done (by kernel_rfl) ?_;simp[undef];generalize hG2:(Qf.set (Qf.set G1 2 _) 2 _)=G2;have b2:G2.b 2=some ⟨33,5,[[.v (.int .i64 0),rs (7/2),.ro (ql lp),.ro (ql lr),.ro (ql lm)]],false,some 1⟩:=by rw[←hG2,Qf.Yg,if_pos rfl]
 clear hG2 h1 G1 hA;have hB:=Wy 1 (-1);have hC:=Wy (-1) 0;rw[←qrd,zs1]at hB;rw[←qrd,zs0]at hC;refine Qc.pv hB (by simp) (by simp[fcL,zl,Qj]) ?_;simp;refine Qc.pv hC (by simp) (by simp[fcL,zl,Qj]) ?_;simp[qnX,Qs];generalize hG3:(Qf.set G2 3 _)=G3;have c2:G3.b 2=some ⟨33,5,[[.v (.int .i64 0),rs (7/2),.ro (ql lp),.ro (ql lr),.ro (ql lm)]],false,some 1⟩:=by rw[←hG3,Qf.Yg,if_neg (by decide)];exact b2
 have c3:G3.b 3=some ⟨40,4,fl [fB,fC],false,some 2⟩:=by rw[←hG3,Qf.Yg,if_pos rfl];rfl
 clear hG3 b2 hB hC;have hfe:=qtY.frz (args:=[.ref 3 4 0 2 none,.v (.int .i64 1)]) (H:=G3) (N:=4) (k:=9) (fun id=>id=3) rfl (fun j x x' h1 h2=>by
  match j,h1,h2 with
  | 0,h1,h2 =>
   cases h1;cases h2;exact Frz.KB (H:=G3) (F:=fun id=>id=3) (G:=fun _=>True) (id:=3) (sz:=4) (off:=0) (len:=2) (mx:=none) rfl c3 rfl (by simp[fl]) (fun e he c hc=>by obtain⟨f,_,rfl⟩:=List.mem_map.1 (List.mem_of_mem_drop (List.mem_of_mem_take he));exact .dat _ 9 (by simp[fcL]at hc;rcases hc with rfl|rfl|rfl|rfl<;>simp[zl,Qj]))
  | 1,h1,h2=>cases h1;cases h2;exact .v _
  | j+2,h1,h2=>simp at h1) (by simp[fl,fcL,zl,Qj]) (fun r h=>by obtain⟨lp,lm,h⟩:=h;rcases h with⟨_,rfl⟩|⟨_,_,rfl⟩<;>simp[ql,Qn])
 refine hfe.mono ?_;rintro r H' N' ⟨⟨lp2,lm2,hr⟩,rfl,rfl⟩;obtain⟨h,_⟩|⟨_,hlm,rfl⟩:=hr
 ·exact(h rfl).elim
 have d2:=(qgo (H:=G3) (q:=3) (id:=2) (by decide)).trans c2;generalize (G3.fr fun id=>id=3)=G at d2⊢;clear hfe c2 c3;simp[qhN,qnY,Qs];generalize hG1:(Qf.set (Qf.set _ 6 _) 7 _)=G1;have k2:G1.b 2=some ⟨33,5,[[.v (.int .i64 0),rs (7/2),.ro (ql lp),.ro (ql lr),.ro (ql lm)]],false,some 1⟩:=by rw[←hG1];simp[d2]
 have k4:G1.b 4=some ⟨38,1,[[zs 4]],false,some 1⟩:=by rw[←hG1,←qt6];simp
 have k5:G1.b 5=some ⟨38,1,[[zs 10]],false,some 1⟩:=by rw[←hG1,←qsE];simp
 have k6:G1.b 6=some ⟨37,1,[[.ref 4 1 0 1 none],[.ref 5 1 0 1 none]],false,some 2⟩:=by rw[←hG1];simp
 have k7:G1.b 7=some ⟨38,1,[[zs 6]],false,some 1⟩:=by rw[←hG1,←qt8];simp
 clear hG1 d2 G G3;refine Qc.frz (k:=9) (args':=[.v (.int .i64 1),.ro (ml Jf),.ro (zl [6])]) quc (fun id=>4≤id) rfl (fun j x x' h1 h2=>?_) (by simp[ml,Jf,zl,Qj]) (by simp[zl,Qj]) ?_
 ·match j,h1,h2 with
  | 0,h1,h2=>cases h1;cases h2;exact .v _
  | 1,h1,h2=>cases h1;cases h2;exact qe6 k6 k4 k5 (by decide) (by decide) (by decide)
  | 2,h1,h2=>cases h1;cases h2;exact qe7 k7 (by decide)
  | j+3,h1,h2=>simp at h1
 have j2:(G1.fr fun id=>4≤id).b 2=some ⟨33,5,[[.v (.int .i64 0),rs (7/2),.ro (ql lp),.ro (ql lr),.ro (ql lm)]],false,some 1⟩:=by rw[qhh,k2];rfl
 have j4:(G1.fr fun id=>4≤id).b 4=some ⟨38,1,[[zs 4]],true,some 1⟩:=by rw[qhh,k4];rfl
 have j5:(G1.fr fun id=>4≤id).b 5=some ⟨38,1,[[zs 10]],true,some 1⟩:=by rw[qhh,k5];rfl
 have j6:(G1.fr fun id=>4≤id).b 6=some ⟨37,1,[[.ref 4 1 0 1 none],[.ref 5 1 0 1 none]],true,some 2⟩:=by rw[qhh,k6];rfl
 generalize (G1.fr fun id=>4≤id)=G at j2 j4 j5 j6⊢;clear k2 k4 k5 k6 k7;simp[qhN,Qs];generalize hG1:(Qf.set G 8 _)=G1;have k2:G1.b 2=some ⟨33,5,[[.v (.int .i64 0),rs (7/2),.ro (ql lp),.ro (ql lr),.ro (ql lm)]],false,some 1⟩:=by rw[←hG1];simp[j2]
 have k4:G1.b 4=some ⟨38,1,[[zs 4]],true,some 1⟩:=by rw[←hG1];simp[j4]
 have k5:G1.b 5=some ⟨38,1,[[zs 10]],true,some 1⟩:=by rw[←hG1];simp[j5]
 have k6:G1.b 6=some ⟨37,1,[[.ref 4 1 0 1 none],[.ref 5 1 0 1 none]],true,some 2⟩:=by rw[←hG1];simp[j6]
 have k8:G1.b 8=some ⟨38,1,[[zs 5]],false,some 1⟩:=by rw[←hG1,←qt7];simp
 clear hG1 j2 j4 j5 j6;refine Qc.frz (k:=9) (args':=[.v (.int .i64 1),.ro (ml Jf),.ro (zl [5])]) qub (fun id=>4≤id) rfl (fun j x x' h1 h2=>?_) (by simp[ml,Jf,zl,Qj]) (by simp) ?_
 ·match j,h1,h2 with
  | 0,h1,h2=>cases h1;cases h2;exact .v _
  | 1,h1,h2=>cases h1;cases h2;exact qe6 k6 k4 k5 (by decide) (by decide) (by decide)
  | 2,h1,h2=>cases h1;cases h2;exact qe7 k8 (by decide)
  | j+3,h1,h2=>simp at h1
 have j2:(G1.fr fun id=>4≤id).b 2=some ⟨33,5,[[.v (.int .i64 0),rs (7/2),.ro (ql lp),.ro (ql lr),.ro (ql lm)]],false,some 1⟩:=by rw[qhh,k2];rfl
 generalize (G1.fr fun id=>4≤id)=G at j2⊢;clear k2 k4 k5 k6 k8;have hrs:rs (7/2)=.v (.string { data:=#[55,47,50] }):=by unfold rs;rw[quq];rfl
 rw[hrs]at j2;have hll:(ql lm2).length=2:=by rw[QU];exact hlm
 have w0:IntKind.i64.wrap 0=0:=by rw[Ql (by omega) (by omega)]
 simp[j2,hll,w0,-Qa,-Qb];exact .v _
end
end Go.AX.Run
namespace Go.AX.Run
open Go.RowKit Go.Proofs Go.AX Go.Num Go.ChangeShapes Go.WideShapes Tryz
theorem qhS{w:World}{a:Addr}{v:Value}(h:w.cell? a=some v):a.block<w.heap.size:=by
 unfold World.cell? at h;cases hb:w.heap[a.block]? with
 | none=>rw[hb]at h;cases h
 | some o=>exact(Array.getElem?_eq_some_iff.1 hb).1
section
variable{H:Type}{enc:TypeId×Value→H}{P:Program}{w:World}{base:Nat}{spare:Nat→Bool}{held:Bool}{E:Env}
theorem qeZ(hE:∀c,c<w.heap.size→E.S c){t e:TypeId}{fuel:Nat}{v:Value}{x:DataW H×List MemPlace}(ht:P.underlying t=some (.slice e))(he:P.underlying e=some .string)(hc:P.cellsOf e=1)
  (h:DataW.trod enc P w base spare held fuel t [v]=some x):∃cs:List (List UInt8),cs.length≤maxLen∧Den E w (.ro (sl cs)) v:=by
 rcases open_strings ht he hc h with⟨hv,_⟩|⟨a,len,cap,ss,hv,_,hl,hm,hz,_,hcell,_⟩
 ·injection hv with hv;subst hv;exact⟨[],Nat.zero_le _,.ro [] none 0 1 (fun _ _=>undef) (Nat.le_refl _) (Nat.zero_le _) (fun e he=>by cases he) (fun h=>by simp at h) (fun i j x h=>by simp[QZ]at h)⟩
 ·injection hv with hv;subst hv;have hss:len≤ss.length:=by rw[hz];split<;>omega
  refine⟨(ss.take len).map fun s=>s.data.toList,by simp;omega,?_⟩;have hlen:(sl ((ss.take len).map fun s=>s.data.toList)).length=len:=by simp[sl];omega
  have hg:∀i j y,QZ (sl ((ss.take len).map fun s=>s.data.toList)) i j=some y→i<len∧j=0∧y=.v (.string (ss.getD i ByteArray.empty)):=fun i j y hy=>by
   unfold QZ at hy;cases hi:(sl ((ss.take len).map fun s=>s.data.toList))[i]? with
   | none=>rw[hi]at hy;cases hy
   | some row =>
    rw[hi]at hy;obtain⟨hil,hrow⟩:=List.getElem?_eq_some_iff.1 hi;rw[hlen]at hil;simp[sl]at hrow;subst hrow;cases j with
    | succ j=>simp at hy
    | zero =>simp at hy;refine⟨hil,rfl,?_⟩;rw[←hy,List.getD_eq_getElem?_getD,List.getElem?_eq_getElem (by omega)];simp[str,bs]
  have:=Den.ro (E:=E) (w:=w) (sl ((ss.take len).map fun s=>s.data.toList)) (some a) cap 1 (fun i _=>.string (ss.getD i ByteArray.empty)) (by rw[hlen];exact hl) (by rw[hlen];omega) (fun e he=>by obtain⟨s,_,rfl⟩:=List.mem_map.1 he;rfl) (fun h0=>⟨a,rfl,?_,fun i j y hy=>?_⟩) (fun i j y hy=>by obtain⟨_,_,rfl⟩:=hg i j y hy;exact .v _)
  ·rw[hlen]at this;exact this
  ·have:=hcell 0 (by omega);exact hE _ (qhS (a:=a.add 0) this)
  ·obtain⟨h1,rfl,_⟩:=hg i j y hy;have:=hcell i (by omega);rw[Nat.mul_one,Nat.add_zero];exact this
end
section
variable{H:Type}{enc:TypeId×Value→H}{w:World}{base:Nat}{spare:Nat→Bool}{held:Bool}{E:Env}
theorem qdX{t:TypeId}{fuel:Nat}{cs:List Value}{x:DataW H×List MemPlace}(ht:prog.underlying t=some .string)(h:DataW.trod enc prog w base spare held fuel t cs=some x):∃l:List UInt8,cs=[.string (bs l)]:=by obtain⟨s,rfl,_,_⟩:=DataW.trod_string ht h;exact⟨s.data.toList,by simp[bs]⟩
theorem qk0(hE:∀c,c<w.heap.size→E.S c){fuel:Nat}{cs:List Value}{x:DataW H×List MemPlace}(h:DataW.trod enc prog w base spare held fuel 40 cs=some x) :
  ∃f:RF,f.coef.length≤maxLen∧cs.length=4∧∀(j:Nat) (y:AV),(rfL f)[j]?=some y→∃z,cs[j]?=some z∧Den E w y z:=by
 obtain⟨xs,n,rfl,_,hl,hx,hf⟩:=DataW.trod_struct underlying40 h;have hx:xs.length=4:=hx;have hl:cs.length=4:=by rw[hl];kernel_rfl
 have c3:prog.cellsOf 3=1:=by kernel_rfl
 have c37:prog.cellsOf 37=1:=by kernel_rfl
 have f0:=hf 0 _ rfl;have f1:=hf 1 _ rfl;have f2:=hf 2 _ rfl;have f3:=hf 3 _ rfl;rw[List.getElem?_eq_getElem (by omega)]at f0 f1 f2 f3;have f0:DataW.trod enc prog w base spare held n 3 ((cs.drop 0).take (prog.cellsOf 3))=_:=f0;have f1:DataW.trod enc prog w base spare held n 37 ((cs.drop 1).take (prog.cellsOf 37))=_:=f1;have f2:DataW.trod enc prog w base spare held n 38 ((cs.drop 2).take (prog.cellsOf 38))=_:=f2;have f3:DataW.trod enc prog w base spare held n 38 ((cs.drop 3).take (prog.cellsOf 38))=_:=f3;rw[c3]at f0;rw[c37]at f1;rw[qfe]at f2 f3;obtain⟨a0,e0,_,_⟩:=DataW.trod_int underlying3 f0;obtain⟨l2,e2⟩:=qdX underlying38 f2;obtain⟨l3,e3⟩:=qdX underlying38 f3;obtain⟨z0,z1,z2,z3,rfl⟩:∃z0 z1 z2 z3,cs=[z0,z1,z2,z3]:=by
  match cs,hl with
  | [z0,z1,z2,z3],_=>exact⟨_,_,_,_,rfl⟩
 simp at e0 e2 e3 f1;subst e0 e2 e3;obtain⟨l1,hl1,hd1⟩:=qeZ hE underlying37 underlying38 qfe f1;have hl1':l1.length≤maxLen:=hl1;refine⟨⟨a0,l1,l2,l3⟩,hl1',rfl,fun j y hy=>?_⟩;match j,hy with
 | 0,hy=>cases hy;exact⟨_,rfl,.v _⟩
 | 1,hy=>cases hy;exact⟨_,rfl,hd1⟩
 | 2,hy=>cases hy;exact⟨_,rfl,.v _⟩
 | 3,hy=>cases hy;exact⟨_,rfl,.v _⟩
 | j+4,hy=>simp[rfL]at hy
theorem qh7(hE:∀c,c<w.heap.size→E.S c){fuel:Nat}{v:Value}{x:DataW H×List MemPlace}(h:DataW.trod enc prog w base spare held fuel 26 [v]=some x) :
  ∃fs:List RF,fs.length≤maxLen∧(∀f∈fs,f.coef.length≤maxLen)∧Den E w (.ro (rfs fs)) v:=by
 rcases DataW.trod_slice underlying26 h with⟨hv,_⟩|⟨a,len,cap,elems,rest,n,rfl,hv,_,hb,hl,hm,hlen,hel,_,_⟩
 ·injection hv with hv;subst hv;exact⟨[],Nat.zero_le _,fun f hf=>(by cases hf),.ro [] none 0 1 (fun _ _=>undef) (Nat.le_refl _) (Nat.zero_le _) (fun e he=>by cases he) (fun h=>by simp at h) (fun i j x h=>by simp[QZ]at h)⟩
 ·injection hv with hv;subst hv;have each:∀i:Nat,∃f:RF,i<len→f.coef.length≤maxLen∧∀(j:Nat) (y:AV),(rfL f)[j]?=some y→∃z,w.cell? (a.add (i*4+j))=some z∧Den E w y z:=fun i=>by
   by_cases hi:i<len
   ·have h1:=hel i hi;rw[List.getElem?_eq_getElem (by omega),Option.bind_eq_some_iff]at h1;obtain⟨cs,hcs,hy⟩:=h1;rw[qtl]at hcs;obtain⟨f,q1,q2,q3⟩:=qk0 hE hy;obtain⟨_,_,g3⟩:=World.cells?_some hcs;refine⟨f,fun _=>⟨q1,fun j y hy=>?_⟩⟩;obtain⟨z,hz,hd⟩:=q3 j y hy;have hj:j<4:=by have:=(List.getElem?_eq_some_iff.1 hz).1;omega
    refine⟨z,?_,hd⟩;rw[←hz,←g3 j hj];rw[Addr.add_add]
   ·exact⟨⟨0,[],[],[]⟩,fun h=>(hi h).elim⟩
  obtain⟨F,hF⟩:=Classical.axiomOfChoice each;have hfl:(rfs ((List.range len).map F)).length=len:=by rw[YT];simp
  have hg:∀i j y,QZ (rfs ((List.range len).map F)) i j=some y→i<len∧j<4∧(rfL (F i))[j]?=some y:=fun i j y hy=>by
   unfold QZ at hy;cases hi:(rfs ((List.range len).map F))[i]? with
   | none=>rw[hi]at hy;cases hy
   | some row =>rw[hi]at hy;obtain⟨hil,hrow⟩:=List.getElem?_eq_some_iff.1 hi;rw[hfl]at hil;simp[rfs]at hrow;subst hrow;exact⟨hil,(List.getElem?_eq_some_iff.1 hy).1,hy⟩
  obtain⟨Z,hZ⟩:=Classical.axiomOfChoice (r:=fun(ij:Nat×Nat) (z:Value)=>ij.1<len→∀y,(rfL (F ij.1))[ij.2]?=some y→w.cell? (a.add (ij.1*4+ij.2))=some z∧Den E w y z) fun ij=>by
   by_cases hi:ij.1<len
   ·cases hy:(rfL (F ij.1))[ij.2]? with
    | none=>exact⟨undef,fun _ y hy'=>by cases hy'⟩
    | some y =>obtain⟨z,h1,h2⟩:=(hF ij.1 hi).2 ij.2 y hy;exact⟨z,fun _ y' hy'=>by cases hy';exact⟨h1,h2⟩⟩
   ·exact⟨undef,fun h=>(hi h).elim⟩
  refine⟨(List.range len).map F,by simp;omega,fun f hf=>?_,?_⟩
  ·obtain⟨i,hi,rfl⟩:=List.mem_map.1 hf;exact(hF i (List.mem_range.1 hi)).1
  ·have:=Den.ro (E:=E) (w:=w) (rfs ((List.range len).map F)) (some a) cap 4 (fun i j=>Z (i,j)) (by rw[hfl];exact hl) (by rw[hfl];omega) (fun e he=>by obtain⟨s,_,rfl⟩:=List.mem_map.1 he;rfl) (fun h0=>⟨a,rfl,?_,fun i j y hy=>?_⟩) (fun i j y hy=>by obtain⟨h1,_,h2⟩:=hg i j y hy;exact(hZ (i,j) h1 y h2).2)
   ·rw[hfl]at this;exact this
   ·rw[hfl]at h0;have:=(hZ (0,0) h0 _ rfl).1;exact hE _ (qhS (a:=a.add _) this)
   ·obtain⟨h1,_,h2⟩:=hg i j y hy;exact(hZ (i,j) h1 y h2).1
theorem qoc(hE:∀c,c<w.heap.size→E.S c){fuel:Nat}{zs:Array Value}{x:DataW H×List MemPlace}(h:DataW.trod enc prog w base spare held fuel 25 zs.toList=some x) :
  ∃(cs:List (List UInt8)) (k:List UInt8),cs.length≤maxLen∧Den E w (.agg [.ro (sl cs),str k]) (.agg zs):=by
 obtain⟨xs,n,rfl,_,hl,hx,hf⟩:=DataW.trod_struct underlying25 h;have hx:xs.length=2:=hx;have hl:zs.toList.length=2:=by rw[hl];kernel_rfl
 have c22:prog.cellsOf 22=1:=by kernel_rfl
 have f0:=hf 0 _ rfl;have f1:=hf 1 _ rfl;rw[List.getElem?_eq_getElem (by omega)]at f0 f1;have f0:DataW.trod enc prog w base spare held n 22 ((zs.toList.drop 0).take (prog.cellsOf 22))=_:=f0;have f1:DataW.trod enc prog w base spare held n 23 ((zs.toList.drop 1).take (prog.cellsOf 23))=_:=f1;rw[c22]at f0;rw[qsd]at f1;obtain⟨l1,e1⟩:=qdX underlying23 f1;obtain⟨z0,z1,hz⟩:∃z0 z1,zs.toList=[z0,z1]:=by
  generalize zs.toList=l at hl;match l,hl with
  | [z0,z1],_=>exact⟨_,_,rfl⟩
 rw[hz]at f0 e1;simp at f0 e1;subst e1;obtain⟨l0,hl0,hd0⟩:=qeZ hE underlying22 underlying23 qsd f0;obtain rfl:zs=#[z0,.string (bs l1)]:=by cases zs;simp_all
 refine⟨l0,l1,hl0,.agg _ _ rfl fun j y hy=>?_⟩;match j,hy with
 | 0,hy=>cases hy;exact hd0
 | 1,hy=>cases hy;exact .v _
 | j+2,hy=>simp at hy
end
theorem qn6{P:Program}{f:FuncId}{args:List AV}{x:Value}{w:World}{args':Array Value}(h:Qv P f args QQ 0 fun r _ _=>r=.v x)(hl:args'.size=args.length)(ht:qb4 w.heap.size w)
  (hd:∀E:Env,(∀c,c<w.heap.size→E.S c)→∀(j:Nat) (u:AV),args[j]?=some u→Den E w u (args'.getD j undef)):Calls P f args' w fun e w'=>e=.returned x∧Below w.heap.size w w':=by
 let E:Env:=⟨fun _=>0,fun _=>0,fun c=>c<w.heap.size,0,fun c=>c<w.heap.size,fun _=>False,fun _=>False⟩;have hE:Zm E w.heap.size w QQ w:=⟨fun id b hb=>(nomatch hb),fun id b hb=>(nomatch hb),fun id b hb=>(nomatch hb),fun i j p q h1=>(nomatch h1),fun id b hb=>(nomatch hb),fun id b hb=>(nomatch hb),fun c hc=>hc,fun c hc=>.inl hc,Nat.le_refl _,⟨Below.refl _ _,ht⟩,fun id b hb=>(nomatch hb),fun c hc=>hc.elim,fun c hc=>hc.elim,fun c hc=>hc.elim,fun i j p q h1=>(nomatch h1)⟩;refine(h E w.heap.size w w args' hE rfl hl (fun j u hu=>hd E (fun c hc=>hc) j u hu)).mono ?_;rintro e w' ⟨v,E',r,H',N',rfl,g2,g3,g4,g5,g6,rfl⟩;cases g6;exact⟨rfl,g4.bel.toBelow⟩
theorem qfY{P:Program}{w:World}{H:Type}{enc:TypeId×Value→H}{base:Nat}{spare:Nat→Bool}{held:Bool}{fuel:Nat}{t e:TypeId}{n:Nat}{k:IntKind}{cs:List Value}{zs:List Int}{p:List MemPlace}(ht:P.underlying t=some (.array n e))(he:P.underlying e=some (.int k))(hc:P.cellsOf e=1)(hct:P.cellsOf t=n)
  (h:DataW.trod enc P w base spare held fuel t cs=some (.agg (zs.map fun z=>.lit (.int k z)),p)):cs=zs.map (Value.int k):=by
 obtain⟨xs,m,_,hx,hl,hxl,hf⟩:=DataW.trod_array ht h;simp only[Prod.mk.injEq,DataW.agg.injEq]at hx;obtain⟨hx,_⟩:=hx;have hlz:zs.length=n:=by have:=congrArg List.length hx;simpa[hxl]using this
 refine List.ext_getElem (by simp;omega) fun i h1 h2=>?_;have hi:i<n:=by omega
 have:=hf i hi;rw[hc,Nat.mul_one,List.getElem?_eq_getElem (by omega)]at this;obtain⟨z,e1,e2,_⟩:=DataW.trod_int he this;rw[List.drop_eq_getElem_cons h1,List.take_succ_cons,List.take_zero]at e1;injection e1 with e1;rw[e1];have e3:(zs.map fun z=>(DataW.lit (.int k z):DataW H))[i]'(by simp;omega)=(xs.map (·.1))[i]'(by simp;omega):=by simp only[hx]
 simp[e2]at e3;simp[e3]
theorem qpD{w:World}{l:List (String×DataW Unit)}{ps:List MemPlace}{a b:String×DataW Unit}(h:DataW.LaidVars prog w (a::b::("internal/strconv.uint64pow10",.agg (qo0.map fun z=>.lit (.int .u64 z)))::l) ps):qb4 w.heap.size w:=by
 obtain⟨_,_,_,_,_,_,_,_,_,_,h,_⟩:=h;obtain⟨_,_,_,_,_,_,_,_,_,_,h,_⟩:=h;obtain⟨g,t,cs,fuel,p,q,h1,h2,h3,h4,_⟩:=h;have hg:g=5:=by
  have:prog.globalNamed "internal/strconv.uint64pow10"=some 5:=by kernel_rfl
  rw[this]at h1;injection h1 with h1;exact h1.symm
 subst hg;have ht:t=270:=by
  have:(prog.globals[5]?).map (·.type)=some 270:=by kernel_rfl
  rw[this]at h2;injection h2 with h2;exact h2.symm
 subst ht;have hcs:=qfY (n:=20) (e:=193) (by kernel_rfl) (by kernel_rfl) (by kernel_rfl) (by kernel_rfl) h4;unfold World.var? at h3;rw[h1,Option.bind_some]at h3;cases hw:w.heap[5]? with
 | none=>rw[hw]at h3;cases h3
 | some o =>
  rw[hw]at h3;cases o with
  | cells c t0 o0 =>injection h3 with h3;subst h3;intro p hp;simp only[tabs,List.mem_singleton]at hp;subst hp;refine⟨(Array.getElem?_eq_some_iff.1 hw).1,t0,o0,?_⟩;rw[hw,←hcs]
  | _=>cases h3
theorem qg3{H:Type}{enc:TypeId×Value→H}{w:World}{base:Nat}{spare:Nat→Bool}{held:Bool}{f0 f1:Nat}{zs:Array Value}{v1:Value}{x0 x1:DataW H×List MemPlace}(h0:DataW.trod enc prog w base spare held f0 25 zs.toList=some x0)(h1:DataW.trod enc prog w base spare held f1 26 [v1]=some x1)(ht:qb4 w.heap.size w) :
  Calls prog 3 #[.agg zs,v1] w fun e w'=>e=.returned (.bool true)∧Below w.heap.size w w':=by
 let E0:Env:=⟨fun _=>0,fun _=>0,fun c=>c<w.heap.size,0,fun c=>c<w.heap.size,fun _=>False,fun _=>False⟩;obtain⟨cs,k,hcl,hd0⟩:=qoc (E:=E0) (fun c hc=>hc) h0;obtain⟨fs,hfl,hfc,hd1⟩:=qh7 (E:=E0) (fun c hc=>hc) h1;have hml:maxLen<9223372036854775808:=by decide
 have hp:=qpG (qc9 ()) cs k fs (by omega) (by omega) (fun f hf=>by have:=hfc f hf;omega);refine qn6 (args:=[.agg [.ro (sl cs),str k],.ro (rfs fs)]) hp.2 rfl ht (fun E hE j u hu=>?_);match j,hu with
 | 0,hu=>cases hu;exact Den.data (E:=E0) (E':=E) (fun c hc=>hE c hc) 9 (by simp[sl,str]) hd0
 | 1,hu=>cases hu;exact Den.data (E:=E0) (E':=E) (fun c hc=>hE c hc) 9 (qfy fs) hd1
 | j+2,hu=>simp at hu
end Go.AX.Run
namespace Go.Proofs.YtphliffdmedfbaaGreatDoor
open Go.ChangeShapes Go.WideShapes Go.ChangeAt Go.RowKit
theorem own:ownKnob Tryz.prog.godebug=none:=by kernel_rfl
theorem laidOut:laidOutB Tryz.prog=true:=by kernel_rfl
set_option maxRecDepth 100000 in
theorem lifted(os:Os)(started:os.Started)(H:Type)(enc:TypeId×Value→H) :
  ReturnsInHanded {} Tryz.checked os 3 .any (fun w args=>(Rows.topDualitySpec.pre enc Tryz.prog Tryz.f3 Rows.topDualityRow.domain false w args∧laidMetH Tryz.prog Rows.topDualityRow.laid w)∧sizedMet enc Tryz.prog Tryz.f3 (OpenSpec.ofChange Rows.topDualitySpec) false w args)
   (Rows.topDualitySpec.post enc Tryz.prog Tryz.f3 false true false false):=by
 refine returnsInHanded_of_change_and (C:=Tryz.checked) (X:=fun w _=>laidMetH Tryz.prog Rows.topDualityRow.laid w) (fun _ _ _ hh h=>h.of_heap hh) own started (by kernel_rfl) Tryz.func3
  (ChangeSpec.witness_shaped (enc:=enc) (C:=Tryz.checked) (os:=os) (X:=fun w _=>laidMetH Tryz.prog Rows.topDualityRow.laid w) false (World.laidAll Tryz.prog os Rows.topDualityRow.laid) #[.agg #[.slice none 0 0,.string ByteArray.empty],.slice none 0 0] 8 (World.laidAll_os _ _ _)
   (World.shaped_of_ZipB (by kernel_rfl) (by kernel_rfl)) (by kernel_rfl) (by kernel_rfl) (by kernel_rfl)
   (by rw[MakeChecks.laidMetH_plain _ _ _ (by kernel_rfl)];exact laidMet_laidAll _ (by kernel_rfl) (by kernel_rfl))) ?_
 intro W base args ds gs before hval0 hW hc _ hL _;have hval:∀(j:Nat) t v,Tryz.f3.params[j]?=some t→args[j]?=some v→Value.okWide Tryz.prog W .any base t v:=hval0;have hW':=hW;obtain⟨p,q,hA0,hV,rfl,hfz,hnd⟩:=hW;have hA:DataW.TrodAll enc Tryz.prog W 0 (fun _=>true) true Tryz.f3.params.toList args.toList ds p:=hA0;rw[Tryz.params3]at hA hval;obtain⟨v0,vs0,d0,ds0,p0,q0,hargs,rfl,rfl,h0,r0⟩:=trodAll_cons hA;obtain⟨v1,vs1,d1,ds1,p1,q1,rfl,rfl,rfl,h1,r1⟩:=trodAll_cons r0;obtain⟨rfl,rfl,rfl⟩:=trodAll_nil r1;obtain rfl:args=#[v0,v1]:=by cases args;simp_all
 obtain⟨rfl,rfl⟩:=trodVars_none hV;obtain⟨zs,rfl,_⟩:=okWide_struct Tryz.underlying25 (hval 0 25 v0 rfl rfl);obtain⟨a1,len1,cap1,rfl⟩:=okWide_slice Tryz.underlying26 (hval 1 26 v1 rfl rfl);clear hA0 hval0;simp only[List.append_nil]at hW';have htab:Go.AX.qb4 W.heap.size W:=by rw[MakeChecks.laidMetH_plain _ _ _ (by kernel_rfl)]at hL;obtain⟨ps,hps,_⟩:=hL;exact Go.AX.Run.qpD hps
 obtain⟨f0,hf0⟩:=id h0;obtain⟨f1,hf1⟩:=id h1;refine(Go.AX.Run.qg3 (v1:=.slice a1 len1 cap1) hf0 hf1 htab).mono fun e W' ⟨he,bel⟩=>?_;subst he;have c0:=Below.trod laidOut (by kernel_rfl) (by decide +kernel) h0 bel (fun x hx=>DataW.TrodAll.lt hA x (by simp[hx]));have c1:=Below.trod laidOut (by kernel_rfl) (by decide +kernel) h1 bel (fun x hx=>DataW.TrodAll.lt hA x (by simp[hx]));exact⟨_,rfl,_,_,_,[],_,[],hW',trodAll_mk1 (shut_bool Tryz.underlying4 _),trodAll_cons_mk c0 (trodAll_cons_mk c1 trodAll_mk0),rfl,bel.frame _,fun h=>by cases h⟩
theorem qoG(os:Os)(started:os.Started)(H:Type)(enc:TypeId×Value→H):ReturnsInHanded Rows.topDualityRow.assume Tryz.pinned.checked os 3 .any (Rows.topDualityRow.pre enc Tryz.pinned.checked.prog Tryz.f3 (OpenSpec.ofChange Rows.topDualitySpec)) (Rows.topDualitySpec.post enc Tryz.pinned.checked.prog Tryz.f3 Rows.topDualityRow.apart Rows.topDualityRow.fresh Rows.topDualityRow.handsOn Rows.topDualityRow.again):=lifted os started H enc
theorem qqU:joinedFacts Tryz.pinned.checked.prog 3 Tryz.f3 Rows.topDualitySpec Rows.topDualityRow=true:=by kernel_rfl
theorem qs7:Tryz.f3.isWrapper Tryz.pinned.checked.prog Rows.topDualityRow.wrapper Rows.topDualityRow.mainSum:=by unfold Func.isWrapper;first|(rw[if_pos (by decide +kernel)];kernel_rfl)|(rw[if_neg (by decide +kernel)];exact⟨rfl,rfl⟩)
theorem topDuality_said:Rows.TopDualitySaid :=
 OpenClaim.holds_of_wide 3 Tryz.f3 rfl rfl rfl rfl rfl rfl rfl ⟨rfl,rfl,rfl,rfl,rfl⟩ rfl rfl rfl rfl rfl (by kernel_rfl) Tryz.func3 qqU
  (of_decide_eq_true (by kernel_rfl)) qs7 (fun os started H enc _=>qoG os started H enc)
theorem topDuality_holds:Rows.TopDualityCardSaid :=
 Claim7.holds_tied_plain_at .later [] [.data,.data,.data,.data,.sentinel,.sentinel,.pinned] true (true,"208bbdabc4d7d2a5cec9c10e88ddb7162987cd2cc70acc2767478753efa3211c") true topDuality_said (fun _ h=>by cases h) (by kernel_rfl) (fun _ h=>by cases h) topDuality_row_tie rfl ⟨rfl,rfl⟩ (by kernel_rfl) rfl
  (fun f fn hf hfn=>by
   obtain rfl:f=3:=Option.some.inj ((show Tryz.prog.funcNamed "surveyor/surveyortop.TopDuality"=some 3 by kernel_rfl).symm.trans hf)|>.symm;obtain rfl:fn=Tryz.f3:=(Option.some.inj (Tryz.func3.symm.trans hfn)).symm;exact⟨by kernel_rfl,fun j t ht=>by
    rw[Tryz.params3]at ht;have hm:t∈[25,26]:=by simpa using Array.mem_of_getElem? ht
    have hall:([25,26].all fun u=>!Tryz.prog.wantsStandIn u)=true:=by kernel_rfl
    exact(show Tryz.prog.wantsStandIn t=false by simpa using List.all_eq_true.1 hall t hm)⟩)
  (by kernel_rfl)
end Go.Proofs.YtphliffdmedfbaaGreatDoor
