/- Part 2 of the proof: an abstract machine over the model, contracts of the functions, the mathematics of the simplex. -/
import Derived.Test.YtphliffdmedfbaaGreatDoorPa
import Derived.Laws.CopyRow
import Derived.Laws.IdiomCopy
import Derived.Lib.Builder
import Derived.Lib.UnsafeStr
import Derived.Lib.ConvBytes
import Derived.Laws.Externs
import Derived.Test.YtphliffdmedfbaaGreatDoorProg
import Derived.Lib.AppendStr
set_option maxRecDepth 100000
set_option maxHeartbeats 8000000
set_option linter.all false
set_option exponentiation.threshold 5000
namespace Go.AX
open Go.RowKit
section
variable{P:Program}{ops:Array Oper}{st:St}{o p:Oper}{u:AV}{H H':Qf}{N N':Nat}{c:Cls}
theorem qk7{bs:List (List Nat)}(hcert:qaj ops bs=true){Inv:List Nat→St→Prop}{Q:St→Prop}
  (hstep:∀L st i,Inv L st→i∈L→(∀j∈bs.getD i [],j ∉ L)→∃o u H' N',ops[i]?=some o∧Eff P ops o st u H' N'∧(∀d,o.dst=some d→d<st.n)∧∃L',Inv L' (st.eff o.dst u H' N')∧∀k,k∈L'↔k∈L∧k≠i)
  (hend:∀st,Inv [] st→Q st):∀(fuel:Nat) (listed:Array Bool) (L:List Nat) (st:St) (E:Env) (B:Nat) (w0:World) (a:Act) (w:World) (ρ:Option Nat),listed.size=ops.size→WG ops bs listed→(Yy ops listed).length≤fuel→(∀k,k∈L↔k∈Yy ops listed)→Rel E B w0 st a w →
  Inv L st→∀R:Exit→Act→World→Prop,(∀a' w',Ym E B w0 w Q a' w'→R .normal a' w')→wpAnyIn (FW ρ) 3 P .any ops R fuel listed a w:=by
 have fin:∀(listed:Array Bool) (L:List Nat) (st:St),(∀k,k∈L↔k∈Yy ops listed)→Yy ops listed=[]→Inv L st→Q st:=fun listed L st hL hn hi=>by
  have:L=[]:=List.eq_nil_iff_forall_not_mem.2 fun k hk=>by rw[hL,hn]at hk;cases hk
  subst this;exact hend st hi
 intro fuel;induction fuel with
 | zero =>
  intro listed L st E B w0 a w ρ hs hcl hlen hL hr h R hR;have hnil:Yy ops listed=[]:=List.eq_nil_of_length_eq_zero (by omega);refine⟨?_,?_⟩
  ·unfold Region.ready;refine List.filter_eq_nil_iff.2 fun i hi=>?_;have:i ∉ Yy ops listed:=by rw[hnil];simp
   rw[Q5]at this;have hl:listed.getD i true=true:=by have:=fun h'=>this ⟨by simpa using hi,h'⟩;simpa using this
   simp[hl]
  ·exact hR a w ⟨E,st,Env.le.refl E,QD.refl E w,hr,fin listed L st hL hnil h⟩
 | succ fuel ih =>
  intro listed L st E B w0 a w ρ hs hcl hlen hL hr h R hR;have hrd:∀i,i∈Region.ready .any ops listed↔i∈Yy ops listed∧∃o,ops[i]?=some o∧∀e∈o.after.toList,Region.binds .any e=true→listed.getD e.on false=true:=fun i=>by
   unfold Region.ready;rw[List.mem_filter,Q5];cases ho:ops[i]? with
   | none=>simp
   | some o =>
    have hi:i<ops.size:=(Array.getElem?_eq_some_iff.1 ho).1;simp only[List.mem_range,Bool.and_eq_true,Bool.not_eq_true',Option.map_some,Option.getD_some,Option.some.injEq,exists_eq_left',Array.all_eq_true',Bool.or_eq_true];constructor
    ·rintro⟨h1,h2,h3⟩;exact⟨⟨h1,h2⟩,fun e he hb=>by
      have:=h3 e (by simpa using he);rcases this with h'|h'
      ·rw[hb]at h';cases h'
      ·exact h'⟩
    ·rintro⟨⟨h1,h2⟩,h3⟩;exact⟨h1,h2,fun e he=>by
      cases hb:Region.binds .any e with
      | false=>exact .inl rfl
      | true=>exact .inr (h3 e (by simpa using he) hb)⟩
  refine⟨fun hnil=>?_,fun i hi=>?_⟩
  ·have:Yy ops listed=[]:=by
    cases hrem:Yy ops listed with
    | nil=>rfl
    | cons i rest =>
     exfalso;have hir:i∈Yy ops listed:=by rw[hrem];simp
     have hisz:=(Q5.1 hir).1;have hsort:(Yy ops listed).Pairwise (·<·):=List.Pairwise.filter _ List.pairwise_lt_range;rw[hrem]at hsort;have hmin:=(List.pairwise_cons.1 hsort).1;have hin:i∈Region.ready .any ops listed:=(hrd i).2 ⟨hir,ops[i],Array.getElem?_eq_getElem hisz,fun e he hb=>by
      have hc:=List.all_eq_true.1 hcert i (by simpa using hisz);simp only[Array.getElem?_eq_getElem hisz,Bool.and_eq_true]at hc;have hlt:=Array.all_eq_true'.1 hc.2 e (by simpa using he);simp only[hb,Bool.not_true,Bool.false_or,decide_eq_true_eq]at hlt;have hnr:e.on ∉ Yy ops listed:=fun hm=>by
       rw[hrem]at hm;rcases List.mem_cons.1 hm with h'|h'
       ·omega
       ·have:=hmin _ h';omega
      rw[Q5]at hnr;have:listed.getD e.on true=true:=by have:=fun h'=>hnr ⟨by omega,h'⟩;simpa using this
      have hlt2:e.on<listed.size:=by omega
      simpa[Array.getD_eq_getD_getElem?,Array.getElem?_eq_getElem hlt2]using this⟩
     rw[hnil]at hin;simp at hin
   exact hR a w ⟨E,st,Env.le.refl E,QD.refl E w,hr,fin listed L st hL this h⟩
  ·obtain⟨hir,o,ho,hdeps⟩:=(hrd i).1 hi;obtain⟨pre,post,he,hlt,he'⟩:=Ww hs hir;have hisz:=(Q5.1 hir).1;have hgetD:∀j,(listed.setIfInBounds i true).getD j true=true↔j=i∨listed.getD j true=true:=fun j=>by
    by_cases hji:j=i
    ·subst hji;simp[Array.getD_eq_getD_getElem?,show j<listed.size by omega]
    ·simp[Array.getD_eq_getD_getElem?,Ne.symm hji,hji]
   have hft:∀j,listed.getD j false=true→j<ops.size∧listed.getD j true=true:=fun j hj=>by
    cases hx:listed[j]? with
    | none=>simp[Array.getD_eq_getD_getElem?,hx]at hj
    | some b =>have:=(Array.getElem?_eq_some_iff.1 hx).1;simp only[Array.getD_eq_getD_getElem?,hx,Option.getD_some]at hj⊢;exact⟨by omega,hj⟩
   have hbs:∀j∈bs.getD i [],listed.getD j true=true:=fun j hj=>by
    have hc:=List.all_eq_true.1 hcert i (by simpa using hisz);simp only[ho,Bool.and_eq_true]at hc;have hc1:=List.all_eq_true.1 hc.1 j hj;obtain⟨e,he,hb⟩:=Array.any_eq_true'.1 hc1;simp only[Bool.and_eq_true,Bool.or_eq_true,beq_iff_eq]at hb;obtain⟨hb1,hb2⟩:=hb;have hl:=hdeps e (by simpa using he) hb1;obtain⟨q1,q2⟩:=hft _ hl;rcases hb2 with hb2|hb2
    ·rw[←hb2];exact q2
    ·exact hcl e.on q1 q2 j (by simpa using hb2)
   have hcl':WG ops bs (listed.setIfInBounds i true):=fun j hj hlj k hk=>by
    rw[hgetD];rcases(hgetD j).1 hlj with rfl|hlj
    ·exact .inr (hbs k hk)
    ·exact .inr (hcl j hj hlj k hk)
   obtain⟨o',u,H',N',ho',e1,e2,L',e3,e4⟩:=hstep L st i h ((hL i).2 hir) fun j hj hjL=>by have hl:=hbs j hj;have:=(Q5.1 ((hL j).1 hjL)).2;rw[hl]at this;cases this
   rw[ho]at ho';injection ho' with ho';subst ho';have h2:=e1 st (Agr.refl _ _ _) rfl rfl e2 ρ E B w0 a w hr (fun e' a' w'=>e'=.normal∧Ym E B w0 w (fun s=>s=st.eff o.dst u H' N') a' w') (fun a' w' hA=>⟨rfl,hA⟩);have hL':∀k,k∈L'↔k∈Yy ops (listed.setIfInBounds i true):=fun k=>by
    rw[e4,hL,Q5,Q5];have:=hgetD k;constructor
    ·rintro⟨⟨h1,h2⟩,h3⟩;refine⟨h1,?_⟩;cases hx:(listed.setIfInBounds i true).getD k true with
     | false=>rfl
     | true =>
          rcases this.1 hx with h'|h'
          ·exact absurd h' h3
          ·rw[h2]at h';cases h'
    ·rintro⟨h1,h2⟩;refine⟨⟨h1,?_⟩,fun e=>?_⟩
     ·cases hx:listed.getD k true with
      | false=>rfl
      | true=>rw[this.2 (.inr hx)]at h2;cases h2
     ·rw[this.2 (.inl e)]at h2;cases h2
   have key:∀a' w',Ym E B w0 w (fun s=>s=st.eff o.dst u H' N') a' w'→wpAnyIn (FW ρ) 3 P .any ops R fuel (listed.setIfInBounds i true) a' w':=fun a' w' ⟨E',st',f1,f2,f3,f4⟩=>by subst f4;exact ih (listed.setIfInBounds i true) L' _ E' B w0 a' w' ρ (by simpa using hs) hcl' (by rw[he'];rw[he]at hlen;simp at hlen⊢;omega) hL' f3 e3 R fun a2 w2 hA=>hR a2 w2 (hA.trans f1 f2)
   unfold wpOpIn;simp only[ho];unfold wpListIn at h2;split at h2
   ·rename_i hw;rw[if_pos hw];exact VL h2 (fun a' w' hq=>key a' w' hq.2) (fun e a' w' hne hq=>hne hq.1)
   ·rename_i hw;rw[if_neg hw];exact⟨h2.1,key _ _ h2.2.2⟩
theorem Qm.inv(hm:P.follows .mixedOrders=true){id:Nat}{bs:List (List Nat)}(hcert:qaj ops bs=true){Inv:List Nat→St→Prop}{Q:St→Prop}
  (hstep:∀L st i,Inv L st→i∈L→(∀j∈bs.getD i [],j ∉ L)→∃o u H' N',ops[i]?=some o∧Eff P ops o st u H' N'∧(∀d,o.dst=some d→d<st.n)∧∃L',Inv L' (st.eff o.dst u H' N')∧∀k,k∈L'↔k∈L∧k≠i)
  (hend:∀st,Inv [] st→Q st) {L:List Nat} (hL:∀k,k∈L↔k<ops.size) (h0:Inv L st):Qm P id ops st Q:=by
 intro pl R hR ρ hρ E B w0 a w hr R' hR';refine wpIn_region_any hm ?_;have hrem:Yy ops (Array.replicate ops.size false)=List.range ops.size:=by
  unfold Yy;exact List.filter_eq_self.2 fun i hi=>by
   have:i<ops.size:=by simpa using hi
   simp[Array.getD_eq_getD_getElem?,this]
 refine qk7 hcert hstep hend ops.size (Array.replicate ops.size false) L st E B w0 a w.drew ρ (by simp) (fun i hi hl=>?_) (by rw[hrem];simp) (fun k=>by rw[hrem,hL];simp) hr.drew h0 R' (fun a' w' hA=>hR' _ a' w' ?_)
 ·simp[Array.getD_eq_getD_getElem?,hi]at hl
 ·exact(Ym.trans (Env.le.refl E) (fun _ _=>rfl) hA).mono hR
theorem K5.append{l2:List (Oper×Cls)}{e:St}:∀{l1:List (Oper×Cls)} {st s:St},K5 P ops l1 st s→K5 P ops l2 s e→K5 P ops (l1++l2) st e:=by
 intro l1 st s h;induction h with
 | nil st=>intro h2;exact h2
 | cons o c l st s u H' N' h hd hr ih=>intro h2;exact .cons o c _ st e u H' N' h hd (ih h2)
theorem Xb{cs:List Cls}(a b:List Nat):Jq ops cs (a++b)=Jq ops cs a++Jq ops cs b:=by simp[Jq]
theorem qi2{cs:List Cls}{i:Nat}(ho:ops[i]?=some o)(b:List Nat):Jq ops cs (i::b)=(o,cs.getD i (.hvy none))::Jq ops cs b:=by simp[Jq,ho]
theorem Vx{cs:List Cls}{bs:List (List Nat)}{pre post:List Nat}{i:Nat}{st e:St}(ho:ops[i]?=some o)(hp:∀j∈pre,Ye ops cs bs j i=true∧j ∉ bs.getD i [])(h:K5 P ops (Jq ops cs (pre++i::post)) st e) :
  ∃u H' N',Eff P ops o st u H' N'∧(∀d,o.dst=some d→d<st.n)∧K5 P ops (Jq ops cs (pre++post)) (st.eff o.dst u H' N') e:=by
 rw[Xb,qi2 ho]at h;obtain⟨u,H',N',h1,h2,h3⟩:=front (Jq ops cs pre) (Jq ops cs post) st e (fun q hq=>by
  obtain⟨j,hj,hjq⟩:=List.mem_filterMap.1 hq;obtain⟨hk,hn⟩:=hp j hj;unfold Ye at hk;simp only[Option.map_eq_some_iff]at hjq;obtain⟨p,hjp,rfl⟩:=hjq;rw[hjp,ho]at hk;simp only[Bool.or_eq_true,Bool.and_eq_true]at hk;rcases hk with hk|hk
  ·exact absurd (by simpa using hk) hn
  ·exact hk) h
 rw[←Xb]at h3;exact⟨u,H',N',h1.eff,h2,h3⟩
def qp5(P:Program)(ops:Array Oper)(cs:List Cls)(bs:List (List Nat))(e:St)(L:List Nat)(st:St):Prop :=
 L.Nodup∧(∀k∈L,k<ops.size)∧L.Pairwise (fun i j=>Ye ops cs bs i j=true)∧K5 P ops (Jq ops cs L) st e
theorem W9{pre post:List Nat}{i:Nat}(h:(pre++i::post).Nodup):∀k,k∈pre++post↔k∈pre++i::post∧k≠i:=fun k=>by
 rw[List.nodup_append]at h;obtain⟨h1,h2,h3⟩:=h;rw[List.nodup_cons]at h2;constructor
 ·intro hk;rcases List.mem_append.1 hk with hk|hk
  ·exact⟨by simp[hk],fun e=>h3 k hk i (by simp) e⟩
  ·exact⟨by simp[hk],fun e=>h2.1 (e▸hk)⟩
 ·rintro⟨hk,hne⟩;simp only[List.mem_append,List.mem_cons]at hk⊢;rcases hk with hk|hk|hk
  ·exact .inl hk
  ·exact absurd hk hne
  ·exact .inr hk
theorem qp5.step{cs:List Cls}{bs:List (List Nat)}{e:St}{L:List Nat}{i:Nat}(h:qp5 P ops cs bs e L st)(hi:i∈L)(hb:∀j∈bs.getD i [],j ∉ L) :
  ∃o u H' N',ops[i]?=some o∧Eff P ops o st u H' N'∧(∀d,o.dst=some d→d<st.n)∧∃L',qp5 P ops cs bs e L' (st.eff o.dst u H' N')∧∀k,k∈L'↔k∈L∧k≠i:=by
 obtain⟨h1,h2,h3,h4⟩:=h;obtain⟨pre,post,rfl⟩:=List.append_of_mem hi;have hsz:=h2 i hi;obtain⟨u,H',N',g1,g2,g3⟩:=Vx (Array.getElem?_eq_getElem hsz) (fun j hj=>⟨(List.pairwise_append.1 h3).2.2 j hj i (by simp),fun hm=>hb j hm (by simp[hj])⟩) h4;have hsub:(pre++post).Sublist (pre++i::post):=List.Sublist.append (List.Sublist.refl _) (List.sublist_cons_self _ _);exact⟨ops[i],u,H',N',Array.getElem?_eq_getElem hsz,g1,g2,pre++post,⟨h1.sublist hsub,fun k hk=>h2 k (hsub.subset hk),h3.sublist hsub,g3⟩,W9 h1⟩
theorem Qm.two(hm:P.follows .mixedOrders=true){id:Nat}{cs cs2:List Cls}{bs:List (List Nat)}(hcert:qaj ops bs=true){pre post:List Nat}{A B:Nat}(hL:∀k,k∈pre++A::B::post↔k<ops.size)(hn:(pre++A::B::post).Nodup)
  (hpA:(pre++A::post).Pairwise fun i j=>Ye ops cs bs i j=true) (hpB:(pre++B::post).Pairwise fun i j=>Ye ops cs bs i j=true)
  (hpA2:(pre++A::post).Pairwise fun i j=>Ye ops cs2 bs i j=true) (hpB2:(pre++B::post).Pairwise fun i j=>Ye ops cs2 bs i j=true) (hcc:∀i∈pre,cs.getD i (.hvy none)=cs2.getD i (.hvy none)) (hpost:∀p∈post,A∈bs.getD p []∨B∈bs.getD p [])
  {s0 e1 e2:St} (h0:K5 P ops (Jq ops cs pre) st s0) (h1:K5 P ops (Jq ops cs (A::B::post)) s0 e1) (h2:K5 P ops (Jq ops cs2 (B::A::post)) s0 e2):Qm P id ops st fun s=>s=e1∨s=e2:=by
 let Inv:List Nat→St→Prop:=fun L s=>(∃pr,L=pr++A::B::post∧pr.Sublist pre∧K5 P ops (Jq ops cs pr) s s0)∨qp5 P ops cs bs e1 L s∨qp5 P ops cs2 bs e2 L s;have hsz:∀k∈pre++A::B::post,k<ops.size:=fun k hk=>(hL k).1 hk;have hA:A<ops.size:=hsz A (by simp);have hB:B<ops.size:=hsz B (by simp);refine Qm.inv (Inv:=Inv) hm hcert (fun L s i hi him hb=>?_) (fun s hi=>?_) hL (.inl ⟨pre,rfl,List.Sublist.refl _,h0⟩)
 ·rcases hi with⟨pr,rfl,hsub,hs⟩|hi|hi
  ·have hsubL:∀l:List Nat,(pr++l).Sublist (pre++l):=fun l=>List.Sublist.append hsub (List.Sublist.refl _);have hnd:(pr++A::B::post).Nodup:=hn.sublist (hsubL _);have hAm:A∈pr++A::B::post:=by simp
   have hBm:B∈pr++A::B::post:=by simp
   rcases List.mem_append.1 him with hip|hip
   ·obtain⟨p1,p2,rfl⟩:=List.append_of_mem hip;have hisz:=hsz i (by simp;exact .inl (hsub.subset (by simp)));have hpw:(p1++i::p2).Pairwise fun i j=>Ye ops cs bs i j=true:=(List.pairwise_append.1 (hpA.sublist (hsubL _))).1;obtain⟨u,H',N',g1,g2,g3⟩:=Vx (Array.getElem?_eq_getElem hisz) (fun j hj=>⟨(List.pairwise_append.1 hpw).2.2 j hj i (by simp),fun hm=>hb j hm (by simp[hj])⟩) hs;refine⟨ops[i],u,H',N',Array.getElem?_eq_getElem hisz,g1,g2,(p1++p2)++A::B::post,.inl ⟨p1++p2,rfl,(List.Sublist.append (List.Sublist.refl _) (List.sublist_cons_self _ _)).trans hsub,g3⟩,fun k=>?_⟩;have:=W9 (pre:=p1) (post:=p2++A::B::post) (i:=i) (by simpa using hnd) k;simpa using this
   ·rcases List.mem_cons.1 hip with rfl|hip
    ·have hst:K5 P ops (Jq ops cs (pr++i::B::post)) s e1:=by rw[Xb];exact hs.append h1
     obtain⟨u,H',N',g1,g2,g3⟩:=Vx (Array.getElem?_eq_getElem hA) (fun j hj=>⟨(List.pairwise_append.1 (hpA.sublist (hsubL _))).2.2 j hj i (by simp),fun hm=>hb j hm (by simp[hj])⟩) hst;exact⟨ops[i],u,H',N',Array.getElem?_eq_getElem hA,g1,g2,pr++B::post,.inr (.inl ⟨hnd.sublist (List.Sublist.append (List.Sublist.refl _) (List.sublist_cons_self _ _)),fun k hk=>hsz k (by have:(pr++B::post).Sublist (pre++i::B::post):=List.Sublist.append hsub (List.sublist_cons_self _ _);exact this.subset hk),hpB.sublist (hsubL _),g3⟩),W9 hnd⟩
    ·rcases List.mem_cons.1 hip with rfl|hip
     ·have hpr:Jq ops cs2 pr=Jq ops cs pr:=by
       have key:∀l:List Nat,(∀j∈l,j∈pre)→Jq ops cs2 l=Jq ops cs l:=fun l=>by
        induction l with
        | nil=>intro _;rfl
        | cons j l ih =>intro hl;have:=ih fun k hk=>hl k (by simp[hk]);simp only[Jq,List.filterMap_cons]at this⊢;rw[hcc j (hl j (by simp)),this]
       exact key pr fun j hj=>hsub.subset hj
      have hst:K5 P ops (Jq ops cs2 (pr++i::A::post)) s e2:=by rw[Xb,hpr];exact hs.append h2
      obtain⟨u,H',N',g1,g2,g3⟩:=Vx (Array.getElem?_eq_getElem hB) (fun j hj=>⟨(List.pairwise_append.1 (hpB2.sublist (hsubL _))).2.2 j hj i (by simp),fun hm=>hb j hm (by simp[hj])⟩) hst;have hsl:(pr++A::post).Sublist (pr++A::i::post):=List.Sublist.append (List.Sublist.refl _) (List.Sublist.cons_cons _ (List.sublist_cons_self _ _));refine⟨ops[i],u,H',N',Array.getElem?_eq_getElem hB,g1,g2,pr++A::post,.inr (.inr ⟨hnd.sublist hsl,fun k hk=>hsz k ((hsl.trans (hsubL _)).subset hk),hpA2.sublist (hsubL _),g3⟩),fun k=>?_⟩;have:=W9 (pre:=pr++[A]) (post:=post) (i:=i) (by simpa using hnd) k;simpa using this
     ·exfalso;rcases hpost i hip with h|h
      ·exact hb A h hAm
      ·exact hb B h hBm
  ·obtain⟨o,u,H',N',g1,g2,g3,L',g4,g5⟩:=hi.step him hb;exact⟨o,u,H',N',g1,g2,g3,L',.inr (.inl g4),g5⟩
  ·obtain⟨o,u,H',N',g1,g2,g3,L',g4,g5⟩:=hi.step him hb;exact⟨o,u,H',N',g1,g2,g3,L',.inr (.inr g4),g5⟩
 ·rcases hi with⟨pr,h,_⟩|hi|hi
  ·simp at h
  ·have:=hi.2.2.2;simp only[Jq,List.filterMap_nil]at this;cases this;exact .inl rfl
  ·have:=hi.2.2.2;simp only[Jq,List.filterMap_nil]at this;cases this;exact .inr rfl
end
def ZE(old:List (List AV))(off:Nat)(new:List (List AV)):List (List AV):=old.take off++new++old.drop (off+new.length)
def acopy(P:Program)(H:Qf)(t:TypeId)(d s:AV):Option (AV×Option (Nat×Blk)) :=
 match P.underlying t,d,QA H s with
 | some (.slice e),.ref id sz off len _,some es =>
  if ZQ P e=true∧P.cellsOf e=1∧sz=1∧Zp 1 es=true∧Zb es=true then
   (if min es.length len=0 then some (.v (.int .i64 0),none)else
    match H id with
    | some b=>if b.fz=false∧b.sz=1∧off+min es.length len≤b.es.length then some (.v (.int .i64 (min es.length len:Nat)),some (id,{ b with es:=ZE b.es off (es.take (min es.length len)) }))else none
    | none=>none)
  else none
 | some (.slice e),.v (.slice none 0 0),some es=>if ZQ P e=true∧P.cellsOf e=1∧Zp 1 es=true then some (.v (.int .i64 0),none)else none
 | _,_,_=>none
def Qf.qhj(H:Qf)(q:Option (Nat×Blk)):Qf:=match q with|none=>H|some (id,b)=>H.set id b
theorem qiv{es:List (List AV)}{n i j:Nat}{x:AV}(h:QZ (es.take n) i j=some x):QZ es i j=some x:=by
 simp only[QZ,List.getElem?_take]at h⊢;split at h
 ·rename_i e he;split at he
  ·rw[he];exact h
  ·cases he
 ·cases h
theorem Qw.copy{P:Program}{st:St}{o:Oper}{cl:Call}{d s:Operand}{t t':TypeId}{u:AV}{q:Option (Nat×Blk)}(ho:o.op=.call cl)(hcl:cl.callee=.builtin .copy)(ha:cl.args=#[d,s])(hat:cl.argTypes=#[t,t'])
  (h:acopy P st.H t (ev st d) (ev st s)=some (u,q)):Qw P st o u { st with H:=st.H.qhj q }:=fun E B w0 a w hr=>by
 have hexec:∀y w',(Builtin.copy_ #[t,t'] o.type #[a.eval d,a.eval s]).run P w=.ok y w'→(execOp a.eval o).run P w=.ok (.value y) w':=fun y w' hrun=>by simp only[execOp,ho,resolve,hcl,ha,hat,invoke,builtin,Sem.run_bind,Sem.run_pure,Result.andThen_ok,List.map_toArray,List.map_cons,List.map_nil,hrun]
 have hdd:=hr.ev d;have hds:=hr.ev s;unfold acopy at h;split at h
 ·rename_i e id sz off len mx es hu hd hes;split at h
  ·rename_i hc;obtain⟨ht,hce,hsz,hok,hone⟩:=hc;subst hsz;have hinfo:(P.info? e).map (·.size)=some 1:=by simp only[ZQ,Bool.and_eq_true,Option.isSome_iff_exists]at ht;obtain⟨_,i,hi⟩:=ht;rw[hi];simp only[Option.map_some,Option.some.injEq];rw[←Wb hi];exact hce
   obtain⟨A,c',hy,hcell⟩:=Ks hr.h hds hes hok;rw[hd]at hdd;generalize hqd:a.eval d=qd at hdd;cases hdd with
   | ref _ _ _ _ _ A2 c2 hid hc2 hle2 hlen2 hA2 hs2 =>
   split at h
   ·rename_i hz;simp only[Option.some.injEq,Prod.mk.injEq]at h;obtain⟨rfl,rfl⟩:=h;refine⟨_,w,E,hexec _ _ ?_,Env.le.refl E,QD.refl E w,hr,.v _⟩;rw[hqd,hy];exact run_copy_none w t t' o.type e A2 A len c2 es.length c' hu hinfo hz
   ·rename_i hz;split at h
    ·rename_i b hb;split at h
     ·rename_i hcond;obtain⟨hfz,hbs,hfit⟩:=hcond;simp only[Option.some.injEq,Prod.mk.injEq]at h;obtain⟨rfl,rfl⟩:=h;generalize hn:min es.length len=n at hz hfit;have hn1:n≤es.length:=by omega
      have hn2:n≤len:=by omega
      obtain⟨ad,rfl,hcell2⟩:=hcell (by omega);have hr0:=hr.h.real hb (by omega);obtain⟨cur,z,h1,h2,h3,h4,h5,h6,h7,h8,h9⟩:=hr.h.blk id b hb hr0;have hA3:=hA2 (.inl (by omega));subst hA3;have htl:(es.take n).length=n:=by simp;omega
      have hok2:Zp 1 (es.take n)=true:=List.all_eq_true.2 fun q hq=>List.all_eq_true.1 hok q (List.mem_of_mem_take hq);have hone2:Zb (es.take n)=true:=List.all_eq_true.2 fun q hq=>List.all_eq_true.1 hone q (List.mem_of_mem_take hq);obtain⟨vs,v1,v2,v3,v4⟩:=Wc hok2 (Nat.one_pos) (fun i j u hu=>hcell2 i j u (qiv hu)) hone2;have hvl:vs.length=n:=by rw[v1,htl,Nat.mul_one]
      have hcur:cur.size=E.κ id:=by rw[h2,hbs];omega
      have hrow:=run_copy_row (P:=P) w t t' o.type e (E.η id) off len c2 ad es.length c' cur b.ty vs hu hinfo h1 (by rw[hvl,←hn]) v2 (by rw[hvl,hcur];omega) v3;refine⟨_,_,E,hexec _ _ (by rw[hqd,hy,Nat.mul_one];exact hrow),Env.le.refl E,?_⟩;let cur':Array Value:=(cur.toList.take off++vs++cur.toList.drop (off+vs.length)).toArray;have hcs:cur'.size=cur.size:=by simp[cur',hvl];omega
      have hpl:(ZE b.es off (es.take n)).length=b.es.length:=by simp[ZE,htl];omega
      have hget:∀k,cur'[k]?=if k<off then cur[k]? else if k<off+n then vs[k-off]? else cur[k]?:=fun k=>by
       have hm:min off cur.size=off:=by omega
       simp only[cur',List.getElem?_toArray,List.getElem?_append,List.length_append,List.length_take,Array.length_toList,hm,List.getElem?_take,List.getElem?_drop,Array.getElem?_toList,hvl];by_cases q1:k<off
       ·rw[if_pos (by omega),if_pos q1,if_pos q1,if_pos q1]
       ·rw[if_neg q1];by_cases q2:k<off+n
        ·rw[if_pos q2,if_neg q1,if_pos q2]
        ·rw[if_neg q2,if_neg q2,show off+n+(k-(off+n))=k by omega,if_neg q1]
      have hupd:=hr.h.upd (b':={ b with es:=ZE b.es off (es.take n) }) (cur':=cur') hb hr0 hfz rfl rfl rfl hfz h1 hcs (by rw[hpl];exact h3) (List.all_eq_true.2 fun q hq=>by
       simp only[ZE,List.mem_append]at hq;rcases hq with(hq|hq)|hq
       ·simpa using h6 q (List.mem_of_mem_take hq)
       ·rw[hbs];exact List.all_eq_true.1 hok2 q hq
       ·simpa using h6 q (List.mem_of_mem_drop hq)) (fun i j u hu=>by
       rw[hbs];have hj:j=0:=by
        have:j<1:=qbq (sz:=1) (es:=ZE b.es off (es.take n)) (fun q hq=>by
         simp only[ZE,List.mem_append]at hq;rcases hq with(hq|hq)|hq
         ·rw[h6 q (List.mem_of_mem_take hq),hbs]
         ·have:=List.all_eq_true.1 hok2 q hq;simpa using this
         ·rw[h6 q (List.mem_of_mem_drop hq),hbs]) hu
        omega
       subst hj;rw[Nat.mul_one,Nat.add_zero,hget];simp only[QZ,ZE,List.getElem?_append,List.length_append,List.length_take,htl,show min off b.es.length=off by omega,List.getElem?_take,List.getElem?_drop]at hu;by_cases q1:i<off
       ·rw[if_pos q1];rw[if_pos (by omega),if_pos q1,if_pos q1]at hu;have hg:QZ b.es i 0=some u:=hu;have:=h8 i 0 u hg;rw[hbs]at this;exact⟨_,by simpa using this,h9 i 0 u hg⟩
       ·rw[if_neg q1];by_cases q2:i<off+n
        ·rw[if_pos q2];rw[if_pos q2,if_neg q1,if_pos (by omega)]at hu;have hg:QZ (es.take n) (i-off) 0=some u:=by simp only[QZ,List.getElem?_take,if_pos (show i-off<n by omega)];exact hu
         obtain⟨zz,g1,g2⟩:=v4 _ _ _ hg;exact⟨zz,by simpa using g1,g2⟩
        ·rw[if_neg q2];rw[if_neg q2,show off+n+(i-(off+n))=i by omega]at hu;have hg:QZ b.es i 0=some u:=hu;have:=h8 i 0 u hg;rw[hbs]at this;exact⟨_,by simpa using this,h9 i 0 u hg⟩)
      refine⟨hupd.1,?_,by rw[hvl];exact .v _⟩;have:=hr.le (Env.le.refl E) hupd.1 hupd.2 (N':=st.N) hr.N;exact this
     ·cases h
    ·cases h
  ·cases h
 ·rename_i e es hu hd hes;split at h
  ·rename_i hc;obtain⟨ht,hce,hok⟩:=hc;simp only[Option.some.injEq,Prod.mk.injEq]at h;obtain⟨rfl,rfl⟩:=h;have hinfo:(P.info? e).map (·.size)=some 1:=by simp only[ZQ,Bool.and_eq_true,Option.isSome_iff_exists]at ht;obtain⟨_,i,hi⟩:=ht;rw[hi];simp only[Option.map_some,Option.some.injEq];rw[←Wb hi];exact hce
   obtain⟨A,c',hy,hcell⟩:=Ks hr.h hds hes hok;rw[hd]at hdd;generalize hqd:a.eval d=qd at hdd;cases hdd;refine⟨_,w,E,hexec _ _ ?_,Env.le.refl E,QD.refl E w,hr,.v _⟩;rw[hqd,hy];exact run_copy_none w t t' o.type e none A 0 0 es.length c' hu hinfo (Nat.min_zero _)
  ·cases h
 ·cases h
section
variable{P:Program}{E:Env}{B:Nat}{w0 w:World}{H:Qf}
theorem Zm.ZE(h:Zm E B w0 H w){id:Nat}{b:Blk}(hb:H id=some b)(hr0:b.cap≠some 0)(hfz:b.fz=false){cur:Array Value}(hcur:w.heap[E.η id]?=some (.cells cur b.ty (0,0)))(off:Nat)(new:List (List AV))(vs:List Value)(hvl:vs.length=new.length*b.sz)
  (hfit:off+new.length≤b.es.length) (hok:Zp b.sz new=true) (hv:∀i j u,QZ new i j=some u→∃z,vs[i*b.sz+j]?=some z∧Den E w u z) :
  QD E w (w.setRow (E.η id) (cur.toList.take (off*b.sz)++vs++cur.toList.drop (off*b.sz+vs.length)).toArray) ∧
   Zm E B w0 (H.set id { b with es:=ZE b.es off new }) (w.setRow (E.η id) (cur.toList.take (off*b.sz)++vs++cur.toList.drop (off*b.sz+vs.length)).toArray):=by
 obtain⟨cur0,z,h1,h2,h3,h4,h5,h6,h7,h8,h9⟩:=h.blk id b hb hr0;rw[hcur]at h1;simp only[Option.some.injEq,Obj.cells.injEq,and_true]at h1;subst h1;have hend:off*b.sz+vs.length≤cur.size:=by rw[hvl,h2,←Nat.add_mul];exact Nat.mul_le_mul_right _ (by omega)
 generalize hcd:(cur.toList.take (off*b.sz)++vs++cur.toList.drop (off*b.sz+vs.length)).toArray=cur';have hcs:cur'.size=cur.size:=by rw[←hcd];simp;omega
 have hpl:(AX.ZE b.es off new).length=b.es.length:=by simp[AX.ZE];omega
 have hnew:∀q∈new,q.length=b.sz:=fun q hq=>by have:=List.all_eq_true.1 hok q hq;simpa using this
 have hall:∀q∈AX.ZE b.es off new,q.length=b.sz:=fun q hq=>by
  simp only[AX.ZE,List.mem_append]at hq;rcases hq with(hq|hq)|hq
  ·exact h6 q (List.mem_of_mem_take hq)
  ·exact hnew q hq
  ·exact h6 q (List.mem_of_mem_drop hq)
 have hget:∀k,cur'[k]?=if k<off*b.sz then cur[k]? else if k<off*b.sz+vs.length then vs[k-off*b.sz]? else cur[k]?:=fun k=>by
  have hm:min (off*b.sz) cur.size=off*b.sz:=by omega
  rw[←hcd];simp only[List.getElem?_toArray,List.getElem?_append,List.length_append,List.length_take,Array.length_toList,hm,List.getElem?_take,List.getElem?_drop,Array.getElem?_toList];by_cases q1:k<off*b.sz
  ·rw[if_pos (by omega),if_pos q1,if_pos q1,if_pos q1]
  ·rw[if_neg q1];by_cases q2:k<off*b.sz+vs.length
   ·rw[if_pos q2,if_neg q1,if_pos q2]
   ·rw[if_neg q2,if_neg q2,show off*b.sz+vs.length+(k-(off*b.sz+vs.length))=k by omega,if_neg q1]
 refine h.upd (b':={ b with es:=AX.ZE b.es off new }) (cur':=cur') hb hr0 hfz rfl rfl rfl hfz hcur hcs (by rw[hpl];exact h3) (List.all_eq_true.2 fun q hq=>by simpa using hall q hq) (fun i j u hu=>?_);have hj:j<b.sz:=qbq hall hu;rw[hget];simp only[QZ,AX.ZE,List.getElem?_append,List.length_append,List.length_take,show min off b.es.length=off by omega,List.getElem?_take,List.getElem?_drop]at hu;by_cases q1:i<off
 ·have:(i+1)*b.sz≤off*b.sz:=Nat.mul_le_mul_right _ q1;rw[Nat.add_mul]at this;rw[if_pos (by omega)];rw[if_pos (by omega),if_pos q1,if_pos q1]at hu;have hg:QZ b.es i j=some u:=hu;exact⟨_,h8 i j u hg,h9 i j u hg⟩
 ·have hio:off*b.sz≤i*b.sz:=Nat.mul_le_mul_right _ (by omega);rw[if_neg (by omega)];by_cases q2:i<off+new.length
  ·have:(i+1)*b.sz≤(off+new.length)*b.sz:=Nat.mul_le_mul_right _ q2;rw[Nat.add_mul,Nat.add_mul]at this;rw[if_pos (by rw[hvl];omega)];rw[if_pos q2,if_neg q1]at hu;have hg:QZ new (i-off) j=some u:=hu;obtain⟨zz,g1,g2⟩:=hv _ _ _ hg;refine⟨zz,?_,g2⟩;rw[show i*b.sz+j-off*b.sz=(i-off)*b.sz+j by rw[Nat.sub_mul];omega];exact g1
  ·have:(off+new.length)*b.sz≤i*b.sz:=Nat.mul_le_mul_right _ (by omega);rw[Nat.add_mul]at this;rw[if_neg (by rw[hvl];omega)];rw[if_neg q2,show off+new.length+(i-(off+new.length))=i by omega]at hu;have hg:QZ b.es i j=some u:=hu;exact⟨_,h8 i j u hg,h9 i j u hg⟩
def Xl(P:Program)(H:Qf)(t:TypeId)(s x:AV):Option (AV×Nat×Blk) :=
 match P.underlying t,s,QA H x with
 | some (.slice e),.ref id sz 0 n none,some news =>
  (match H id with
  | some b=>if ZQ P e=true∧zlen P e=true∧0<P.cellsOf e∧Zp (P.cellsOf e) news=true∧Zb news=true∧0<news.length∧sz=P.cellsOf e∧b.fz=false∧b.ty=e∧b.sz=P.cellsOf e∧n+news.length≤b.es.length then
    some (.ref id sz 0 (n+news.length) none,id,{ b with es:=ZE b.es n news })else none
  | none=>none)
 | _,_,_=>none
theorem Qw.qkw{st:St}{o:Oper}{cl:Call}{s x:Operand}{t:TypeId}{u:AV}{id:Nat}{b':Blk}(ho:o.op=.call cl)(hcl:cl.callee=.builtin .append)(ha:cl.args=#[s,x])(hat:cl.argTypes=#[t,t])
  (h:Xl P st.H t (ev st s) (ev st x)=some (u,id,b')):Qw P st o u { st with H:=st.H.set id b' }:=fun E B w0 a w hr=>by
 have hexec:∀y w',(Builtin.append_ #[t,t] o.type #[a.eval s,a.eval x]).run P w=.ok y w'→(execOp a.eval o).run P w=.ok (.value y) w':=fun y w' hrun=>by simp only[execOp,ho,resolve,hcl,ha,hat,invoke,builtin,Sem.run_bind,Sem.run_pure,Result.andThen_ok,List.map_toArray,List.map_cons,List.map_nil,hrun]
 have hds:=hr.ev s;have hdx:=hr.ev x;unfold Xl at h;split at h
 ·rename_i e id0 sz n news hu hs hel;split at h
  ·rename_i b hb;split at h
   ·rename_i hc;obtain⟨ht,hzl,hpos,hok,hone,hnl,hsz,hfz,hty,hbs,hfit⟩:=hc;simp only[Option.some.injEq,Prod.mk.injEq]at h;obtain⟨rfl,rfl,rfl⟩:=h;obtain⟨i,z,hi,hz,hzs,hsize,hby⟩:=qdu hzl;obtain⟨A,c',hy,hcell⟩:=Ks hr.h hdx hel hok;obtain⟨ad,rfl,hcell2⟩:=hcell hnl;obtain⟨vs,v1,v2,v3,v4⟩:=Wc hok hpos hcell2 hone;have hr0:=hr.h.real hb (by omega);obtain⟨cur,zz,h1,h2,h3,h4,h5,h6,h7,h8,h9⟩:=hr.h.blk id0 b hb hr0;rw[hs]at hds;generalize hqs:a.eval s=qs at hds;cases hds with
    | ref _ _ _ _ _ A2 c2 hid hc2 hle2 hlen2 hA2 hs2 =>
    have hA3:=hA2 (.inr ⟨rfl,by omega⟩);subst hA3;have hc3:c2=E.κ id0:=by simpa using hc2
    have hput:=hr.h.ZE hb hr0 hfz h1 n news vs (by rw[v1,hbs]) hfit (by rw[hbs];exact hok) (by rw[hbs];exact v4);have hrun:=run_append_room (P:=P) w t o.type e i hu hi (E.η id0) n c2 cur (by rw[←hty];exact h1) ad news.length c' vs (by rw[v1,hsize]) v2 v3 (by omega) (by rw[hsize,v1,h2,hbs,←Nat.add_mul];exact Nat.mul_le_mul_right _ (by omega))
    refine⟨_,_,E,hexec _ _ (by rw[hqs,hy,Nat.zero_mul];exact hrun),Env.le.refl E,?_⟩;rw[hsize,←hbs];refine⟨hput.1,?_,?_⟩
    ·have:=hr.le (Env.le.refl E) hput.1 hput.2 (N':=st.N) hr.N;exact this
    ·have:=Den.ref (E:=E) (w:=w.setRow (E.η id0) (cur.toList.take (n*b.sz)++vs++cur.toList.drop (n*b.sz+vs.length)).toArray) id0 sz 0 (n+news.length) none (some ⟨E.η id0,0*sz,none⟩) c2 hid hc2 hle2 (by omega) (fun _=>rfl) (fun _=>rfl);rw[Nat.zero_mul]at this;exact this
   ·cases h
  ·cases h
 ·cases h
end
section
variable{P:Program}{E:Env}{B:Nat}{w0 w:World}{H:Qf}
def aclear(P:Program)(H:Qf)(t:TypeId)(x:AV):Option (Option (Nat×Blk)) :=
 match P.underlying t,x with
 | some (.slice e),.ref id sz off len _ =>
  if len=0 then some none else
  (match H id,azero P e with
  | some b,some z=>if b.fz=false∧b.sz=P.cellsOf e∧sz=P.cellsOf e∧z.length=P.cellsOf e∧off+len≤b.es.length∧z.all AV.one=true then some (some (id,{ b with es:=ZE b.es off (List.replicate len z) }))else none
  | _,_=>none)
 | some (.slice _),.v (.slice none 0 0)=>some none
 | _,_=>none
theorem Qw.clear{st:St}{o:Oper}{cl:Call}{x:Operand}{t:TypeId}{q:Option (Nat×Blk)}(ho:o.op=.call cl)(hcl:cl.callee=.builtin .clear)(ha:cl.args=#[x])(hat:cl.argTypes=#[t])
  (h:aclear P st.H t (ev st x)=some q):Qw P st o (.v (.tuple #[])) { st with H:=st.H.qhj q }:=fun E B w0 a w hr=>by
 have hexec:∀y w',(Builtin.clear_ #[t] o.type #[a.eval x]).run P w=.ok y w'→(execOp a.eval o).run P w=.ok (.value y) w':=fun y w' hrun=>by simp only[execOp,ho,resolve,hcl,ha,hat,invoke,builtin,Sem.run_bind,Sem.run_pure,Result.andThen_ok,List.map_toArray,List.map_cons,List.map_nil,hrun]
 have hdx:=hr.ev x;unfold aclear at h;split at h
 ·rename_i e id sz off len mx hu hx;rw[hx]at hdx;generalize hqx:a.eval x=qx at hdx;cases hdx with
  | ref _ _ _ _ _ A c hid hc hle hlen hA hs =>
  split at h
  ·rename_i hl0;subst hl0;injection h with h;subst h;refine⟨_,w,E,hexec _ _ ?_,Env.le.refl E,QD.refl E w,hr,.v _⟩;rw[hqx];cases A<;>simp[Builtin.clear_,run_underlying hu]
  ·rename_i hl0;split at h
   ·rename_i b z hb hz;split at h
    ·rename_i hcond;obtain⟨hfz,hbs,hsz,hzl,hfit,hone⟩:=hcond;injection h with h;subst h;obtain⟨zv,z1,z2,z3⟩:=JE hz;have hr0:=hr.h.real hb (by omega);obtain⟨cur,zz,h1,h2,h3,h4,h5,h6,h7,h8,h9⟩:=hr.h.blk id b hb hr0;have hA3:=hA (.inl (by omega));subst hA3;have hzz:zv.cells.size=b.sz:=by rw[z2,hzl,hbs]
     let vs:List Value:=(Builtin.zeroCells zv.cells len).toList;have hvl:vs.length=len*b.sz:=by simp[vs,Builtin.zeroCells,hzz]
     have hvg:∀k,k<len*b.sz→vs[k]?=some (zv.cells.getD (k%b.sz) undef):=fun k hk=>by
      have hpos:0<b.sz:=by
       rcases Nat.eq_zero_or_pos b.sz with h0|h0
       ·rw[h0,Nat.mul_zero]at hk;omega
       ·exact h0
      have hm:k%b.sz<zv.cells.size:=by rw[hzz];exact Nat.mod_lt _ hpos
      simp[vs,Builtin.zeroCells,hzz,hk,Array.getD_eq_getD_getElem?,Array.getElem?_eq_getElem hm,getElem!_def]
     have hrl:(List.replicate len z).length=len:=by simp
     have hput:=hr.h.ZE hb hr0 hfz h1 off (List.replicate len z) vs (by rw[hvl,hrl]) (by rw[hrl];exact hfit) (List.all_eq_true.2 fun q hq=>by rw[List.eq_of_mem_replicate hq];simp[hzl,hbs]) (fun i j u hu=>by
      obtain⟨hi,hj⟩:=VS hu;have hjl:j<b.sz:=by rw[hbs,←hzl];exact(List.getElem?_eq_some_iff.1 hj).1
      have hlt:i*b.sz+j<len*b.sz:=by have:(i+1)*b.sz≤len*b.sz:=Nat.mul_le_mul_right _ hi;rw[Nat.add_mul]at this;omega
      refine⟨_,hvg _ hlt,?_⟩;rw[Nat.mul_comm,Nat.mul_add_mod,Nat.mod_eq_of_lt hjl];exact z3 E w j u hj)
     have hst:=run_storeCells_at P (E.η id) (off*sz) b.ty vs 0 cur w h1 (by
      rw[hvl,h2,Nat.add_zero,hsz,←hbs,←Nat.add_mul];exact Nat.mul_le_mul_right _ (by omega)) (fun v hv=>by
      obtain⟨k,hk⟩:=List.mem_iff_getElem?.1 hv;have hk2:k<len*b.sz:=by rw[←hvl];exact(List.getElem?_eq_some_iff.1 hk).1
      rw[hvg k hk2]at hk;injection hk with hk;subst hk;have hpos:0<b.sz:=by
       rcases Nat.eq_zero_or_pos b.sz with h0|h0
       ·rw[h0,Nat.mul_zero]at hk2;omega
       ·exact h0
      have hm:k%b.sz<z.length:=by rw[hzl,←hbs];exact Nat.mod_lt _ hpos
      exact(z3 E w _ _ (List.getElem?_eq_getElem hm)).qek (List.all_eq_true.1 hone _ (List.getElem_mem hm)))
     simp only[Nat.add_zero]at hst;refine⟨_,_,E,hexec (.tuple #[]) (w.setRow (E.η id) (cur.toList.take (off*sz)++vs++cur.toList.drop (off*sz+vs.length)).toArray) ?_,Env.le.refl E,?_⟩
     ·rw[hqx];have hl:¬len=0:=hl0;obtain⟨m,rfl⟩:∃m,len=m+1:=⟨len-1,by omega⟩;simp[Builtin.clear_,Sem.run_bind,run_underlying hu,Result.andThen_ok,z1];rw[hst,←List.append_assoc];rfl
     ·rw[hsz,←hbs];refine⟨hput.1,?_,.v _⟩;have:=hr.le (Env.le.refl E) hput.1 hput.2 (N':=st.N) hr.N;exact this
    ·cases h
   ·cases h
 ·rename_i e hu hx;injection h with h;subst h;rw[hx]at hdx;generalize hqx:a.eval x=qx at hdx;cases hdx;refine⟨_,w,E,hexec _ _ ?_,Env.le.refl E,QD.refl E w,hr,.v _⟩;rw[hqx];simp[Builtin.clear_,run_underlying hu]
 ·cases h
end
section
variable{P:Program}{E:Env}{B:Nat}{w0 w:World}{H:Qf}
def Env.lay(E:Env)(k:Nat):Env:={ E with S:=fun c=>E.S c∨c=k }
theorem Zm.lay(h:Zm E B w0 H w){w':World}(hos:w'.os=w.os)(htp:w'.tape=w.tape)(hout:w'.output=w.output)(hsz:w'.heap.size=w.heap.size+1)(hold:∀k,k<w.heap.size→w'.heap[k]?=w.heap[k]?) :
  E.le (E.lay w.heap.size)∧QD E w w'∧Zm (E.lay w.heap.size) B w0 H w':=by
 have hle:E.le (E.lay w.heap.size):=⟨Nat.le_refl _,fun _ _=>rfl,fun _ _=>rfl,fun c hc=>.inl hc,rfl,fun _ h=>h,rfl⟩;have hkp:QD E w w':=fun c hc=>hold c (h.slt c hc);have hlt:∀{c:Nat} {q:Obj},w.heap[c]?=some q→c<w.heap.size:=fun hq=>(Array.getElem?_eq_some_iff.1 hq).1;have hob:=h.objs (L:=H.L) hle (fun c hc=>hc) hkp (fun c q hq _=>hold c (hlt hq)) (fun c hc=>by
  rcases hc with hc|hc
  ·exact .inl hc
  ·subst hc;exact .inr fun q hq=>absurd (hlt hq) (Nat.lt_irrefl _)) (fun _ _ h=>h)
 refine⟨hle,hkp,h.lt,h.gst,fun id b hb hc0=>?_,h.inj,fun id b hb hc0 hf hs=>?_,fun id b hb hc0 hf=>.inl (h.frz id b hb hc0 hf),fun c hc=>?_,fun c hc=>?_,by rw[hsz];have:=h.bas;omega,h.bel.trans ⟨hos,htp,hout,by rw[hsz];omega,fun k hk=>hold k (Nat.lt_of_lt_of_le hk h.bas)⟩,hob.1,hob.2.1,hob.2.2.1,hob.2.2.2.1,hob.2.2.2.2⟩
 ·obtain⟨cur,z,q1,q2,q3,q4,q5,q6,q7,q8,q9⟩:=h.blk id b hb hc0;exact⟨cur,z,(hold _ (hlt q1)).trans q1,q2,q3,q4,q5,q6,q7,q8,fun i j x hx=>(q9 i j x hx).mono hle hkp⟩
 ·rcases hs with hs|hs
  ·exact h.mu id b hb hc0 hf hs
  ·have:=h.le_size hb hc0;have hs:E.η id=w.heap.size:=hs;omega
 ·rw[hsz];rcases hc with hc|hc
  ·have:=h.slt c hc;omega
  ·have hc:c=w.heap.size:=hc;omega
 ·rcases hc with hc|hc
  ·exact h.so c hc
  ·exact .inr (by rw[hc];exact h.bas)
theorem Rel.lay{st:St}{a:Act}(hr:Rel E B w0 st a w){w':World}(hos:w'.os=w.os)(htp:w'.tape=w.tape)(hout:w'.output=w.output)(hsz:w'.heap.size=w.heap.size+1)(hold:∀k,k<w.heap.size→w'.heap[k]?=w.heap[k]?) :
  E.le (E.lay w.heap.size)∧QD E w w'∧Rel (E.lay w.heap.size) B w0 st a w':=by
 obtain⟨h1,h2,h3⟩:=hr.h.lay hos htp hout hsz hold;exact⟨h1,h2,hr.dle h1,hr.n,fun i=>(hr.t i).mono h1 h2,h3,hr.N⟩
theorem Qw.lit{st:St}{o:Oper}{t e:TypeId}{len:Nat}{parts:Array (Nat×Operand)}{es:List (List AV)}(ho:o.op=.buildSlice t len parts)(h:Qz P t len (parts.toList.map fun(i,x)=>(i,ev st x))=some (e,es)) :
  Qw P st o (.ro es) st:=fun E B w0 a w hr=>by
 unfold Qz at h;split at h
 ·rename_i e' hu;split at h
  ·rename_i hc;obtain⟨ht,haz,hm,hlen,hs,hbig,hbig2⟩:=hc;simp only[Option.some.injEq,Prod.mk.injEq]at h;obtain⟨rfl,rfl⟩:=h;obtain⟨zc,hzc⟩:=Option.isSome_iff_exists.1 haz;obtain⟨z,z1,z2,z3⟩:=JE hzc;let parts1:List (Nat×AV):=parts.toList.map fun(i,x)=>(i,ev st x);let parts2:List (Nat×Value):=parts.toList.map fun(i,x)=>(i,a.eval x);let zero:Array Value:=if len*P.cellsOf e'=0 then #[]else z.cells
   let zs:Array Value:=(Array.range (len*P.cellsOf e')).map (zero[·%zero.size]!);have hsz:zs.size=len*P.cellsOf e':=by simp[zs]
   have hlp1:parts1.length=len:=hlen;have hfill:=qb9 (P.cellsOf e') parts1 0 (zs.toList.map .v) (by rw[hm,hlen]) hs (by simp only[Nat.zero_mul,Nat.zero_add,List.length_map,Array.length_toList,hsz,hlp1];exact Nat.le_refl _);simp only[Nat.zero_mul,Nat.zero_add,List.take_zero,List.nil_append]at hfill;rw[List.drop_eq_nil_of_le (by simp only[List.length_map,Array.length_toList,hsz,hlp1];exact Nat.le_refl _),List.append_nil]at hfill;obtain⟨zs',f1,f2,f3⟩:=Vo (E:=E) (w:=w) _ parts1 parts2 _ _ zs hfill (by simp[parts1,parts2,Function.comp_def]) (fun k i x hk=>by
    simp only[parts1,List.getElem?_map,Option.map_eq_some_iff]at hk;obtain⟨⟨i',q⟩,hq,he⟩:=hk;simp only[Prod.mk.injEq]at he;obtain⟨rfl,rfl⟩:=he;exact⟨a.eval q,by simp only[parts2,List.getElem?_map,hq,Option.map_some],hr.ev q⟩) (by simp) (fun j x hx=>by
    simp only[List.getElem?_map,Option.map_eq_some_iff]at hx;obtain⟨q,hq,rfl⟩:=hx;have:zs[j]?=some q:=by simpa using hq
    simp only[Array.getD_eq_getD_getElem?,this,Option.getD_some];exact .v q)
   have hes:∀q∈(parts1.map fun p=>acells p.2),q.length=P.cellsOf e':=fun q hq=>by obtain⟨p,hp,rfl⟩:=List.mem_map.1 hq;exact hs p hp
   obtain⟨l1,l2⟩:=XD _ hes;have hlp:(parts1.map fun p=>acells p.2).length=len:=by rw[List.length_map];exact hlen
   obtain⟨g1,g2,g3⟩:=hr.lay (w':=w.alloc (.cells zs' e')) rfl rfl rfl (by simp) (fun k hk=>heap_alloc_old w _ hk);refine⟨.slice (some ⟨w.heap.size,0,none⟩) len len,_,_,?_,g1,g2,g3,?_⟩
   ·have hng:¬len*P.cellsOf e'>2^24:=by simp only[Nat.reducePow];omega
    have hpp2:(parts.map fun(p:Nat×Operand)=>(p.1,a.eval p.2)).toList=parts2:=by simp[parts2]
    have hf2:Instr.fill (fun i=>some (i*P.cellsOf e',P.cellsOf e')) ((Array.range (len*P.cellsOf e')).map (zero[·%zero.size]!)) (parts.map fun(p:Nat×Operand)=>(p.1,a.eval p.2)).toList=some zs':=by rw[hpp2];exact f1
    simp only[execOp,ho,Instr.buildSlice,Sem.run_bind,run_underlying hu,Result.andThen_ok,QG ht,if_neg hng,Sem.run_pure];by_cases h0:len*P.cellsOf e'=0
    ·simp only[zero,if_pos h0]at hf2;rw[if_pos h0];simp only[Sem.run_bind,Sem.run_pure,Result.andThen_ok];rw[hf2];simp[newRow]
    ·simp only[zero,if_neg h0]at hf2;rw[if_neg h0];simp only[Sem.run_bind,Sem.run_pure,Result.andThen_ok,z1];rw[hf2];simp[newRow]
   ·have hd:=Den.ro (E:=E.lay w.heap.size) (w:=w.alloc (.cells zs' e')) (parts1.map fun p=>acells p.2) (some ⟨w.heap.size,0,none⟩) len (P.cellsOf e') (fun i j=>zs'.getD (i*P.cellsOf e'+j) undef) (by rw[hlp];exact Nat.le_refl _) (by rw[hlp];simp only[maxLen];omega) hes
     (fun hp=>⟨_,rfl,.inr rfl,fun i j x hx=>by
      have:=l2 i j x hx;have hlt:i*P.cellsOf e'+j<zs'.size:=by rw[f2];exact(List.getElem?_eq_some_iff.1 this).1
      rw[Zn,cell_of_row _ _ _ zs' e' (0,0) (heap_alloc_new w _),Nat.zero_add];simp[Array.getD_eq_getD_getElem?,Array.getElem?_eq_getElem hlt]⟩)
     (fun i j x hx=>by have:=l2 i j x hx;exact(f3 _ _ this).mono g1 g2)
    rw[hlp]at hd;exact hd
  ·cases h
 ·cases h
def sbytes(s:ByteArray):List (List AV):=s.data.toList.map fun b=>[.v (.int .u8 b.toNat)]
def Wn(P:Program)(t:TypeId):Option TypeId:=match P.underlying t with|some (.slice e)=>(match P.underlying e with|some (.int .u8)=>some e|_=>none)|_=>none
theorem Kx{t e:TypeId}(h:Wn P t=some e):P.underlying t=some (.slice e)∧P.underlying e=some (.int .u8):=by
 unfold Wn at h;split at h
 ·rename_i e' hu;split at h
  ·rename_i he;injection h with h;subst h;exact⟨hu,he⟩
  ·cases h
 ·cases h
theorem Qw.qpF{st:St}{o:Oper}{s t e:TypeId}{x:Operand}{z:ByteArray}(ho:o.op=.convert s t x)(hs:(P.underlying s).isSome=true)(ht:Wn P t=some e)(hx:ev st x=.v (.string z))(hl:z.size≤maxLen):Qw P st o (.ro (sbytes z)) st:=fun E B w0 a w hr=>by
 obtain⟨t1,t2⟩:=Kx ht;obtain⟨u,hu⟩:=Option.isSome_iff_exists.1 hs;have hdx:=hr.ev x;rw[hx]at hdx;generalize hq:a.eval x=q at hdx;cases hdx;obtain⟨g1,g2,g3⟩:=hr.lay (w':=Lib.bytesWorld w e z) (by simp[Lib.bytesWorld,World.freeze,World.alloc,World.drew,-World.alloc_eq,-World.drew_eq]) (by simp[Lib.bytesWorld,World.freeze,World.alloc,World.drew,-World.alloc_eq,-World.drew_eq]) (by simp[Lib.bytesWorld,World.freeze,World.alloc,World.drew,-World.alloc_eq,-World.drew_eq]) (Lib.bytesWorld_size w e z) (fun k hk=>Lib.bytesWorld_at_old w e z k hk);have hlen:(sbytes z).length=z.size:=by simp[sbytes]
 refine⟨.slice (some ⟨w.heap.size,0,none⟩) z.size (grownCap w z.size 0 e),_,_,?_,g1,g2,g3,?_⟩
 ·simp only[execOp,ho,hq,Sem.run_bind,Lib.run_convert_string_bytes (P:=P) w s t e z hu t1 t2,Result.andThen_ok,Sem.run_pure]
 ·have hd:=Den.ro (E:=E.lay w.heap.size) (w:=Lib.bytesWorld w e z) (sbytes z) (some ⟨w.heap.size,0,none⟩) (grownCap w z.size 0 e) 1 (fun i _=>.int .u8 (z.data.toList.getD i 0).toNat) (by
    rw[hlen];have:=grownCap_ge w z.size 0 e;omega) (by rw[hlen];exact hl) (fun q hq=>by
    simp only[sbytes,List.mem_map]at hq;obtain⟨b,_,rfl⟩:=hq;rfl)
   (fun hp=>⟨_,rfl,.inr rfl,fun i j y hy=>?_⟩) (fun i j y hy=>?_)
  ·rw[hlen]at hd;exact hd
  ·have hi:i<z.size∧j=0:=by
    unfold QZ at hy;split at hy
    ·rename_i e' he;simp only[sbytes,List.getElem?_map,Option.map_eq_some_iff]at he;obtain⟨b,hb,rfl⟩:=he;have h1:=(List.getElem?_eq_some_iff.1 hb).1;have h2:=(List.getElem?_eq_some_iff.1 hy).1;exact⟨by simpa using h1,by simpa using h2⟩
    ·cases hy
   obtain⟨hi,rfl⟩:=hi;rw[Zn];simpa using Lib.bytesWorld_cell w e z i hi
  ·unfold QZ at hy;split at hy
   ·rename_i e' he;simp only[sbytes,List.getElem?_map,Option.map_eq_some_iff]at he;obtain⟨b,hb,rfl⟩:=he;cases j with
    | zero =>
     simp at hy;subst hy;have:z.data.toList.getD i 0=b:=by rw[List.getD_eq_getElem?_getD,hb];rfl
     rw[this];exact .v _
    | succ j=>simp at hy
   ·cases hy
end
def QF(P:Program)(f:FuncId)(args:List AV)(st:St)(K:Cls→AV→Qf→Nat→Prop):Prop :=
 ∃c u H' N',K c u H' N'∧match c with
  | .flo=>H'=st.H∧N'=st.N∧∀H N,qki P f args H N u H N
  | .lod rs=>H'=st.H∧N'=st.N∧(∀id∈rs,id<st.N)∧∀H N,(∀id∈rs,id<N→H id=st.H id)→qki P f args H N u H N
  | .hvy none=>qki P f args st.H st.N u H' N'
  | .hvy (some ws)=>qki P f args st.H st.N u H' N'∧st.N≤N'∧∀id,id<st.N→id ∉ ws→H' id=st.H id
def sdP(st:St)(dst:Option Tmp)(K:List Cls→St→Prop)(cs:List Cls)(c:Cls)(u:AV)(H:Qf)(N:Nat):Prop:=match dst with
 | some d=>if d<st.n then K (c::cs) ⟨st.n,upd st.env d u,H,N⟩else False
 | none=>K (c::cs) ⟨st.n,st.env,H,N⟩
def sdV(u:Option AV)(st:St)(K:Cls→AV→Qf→Nat→Prop)(c:Cls):Prop:=match u with|some u=>K c u st.H st.N|none=>False
def sdS(r:Option (AV×St))(K:Cls→AV→Qf→Nat→Prop)(c:Cls):Prop:=match r with|some (u,s1)=>K c u s1.H s1.N|none=>False
def sdN(r:Option St)(st:St)(K:Cls→AV→Qf→Nat→Prop)(c:Cls):Prop:=match r with|some s1=>K c (.v undef) s1.H st.N|none=>False
def qdx(P:Program)(t:TypeId)(len:Nat)(parts:List (Nat×AV)):Option AV:=match Qz P t len parts with|some (_,es)=>some (.ro es)|none=>none
def qko(P:Program)(lit:Nat→Bool)(o:Oper)(st:St)(K:Cls→AV→Qf→Nat→Prop):Prop :=
 match o.op with
 | .load t x=>(∀id∈Q0 (ev st x),id<st.N)∧sdV (aload P st t (ev st x)) st K (.lod (Q0 (ev st x)))
 | .store t p x=>sdN (astore P st t (ev st p) (ev st x)) st K (.hvy (some (Q0 (ev st p))))
 | .buildSlice t len parts=>if lit (o.dst.getD 0)=true then sdV (qdx P t len (parts.toList.map fun(i,x)=>(i,ev st x))) st K .flo else sdS (astep P st o) K (.hvy (some []))
 | .alloc _|.box _ _|.makeSlice _ _ _=>sdS (astep P st o) K (.hvy (some []))
 | .call c=>match c.callee with
  | .value x=>match ev st x with
   | .fn (.func f) fs cs=>QF P f (fs++c.args.toList.map (ev st)++cs) st K
   | _=>False
  | .builtin .append=>sdS (astep P st o) K (.hvy none)
  | _=>if flo o.op=true then sdV (avalue P st o) st K .flo else False
 | _=>if flo o.op=true then sdV (avalue P st o) st K .flo else False
def QT(P:Program)(lit:Nat→Bool)(ops:Array Oper):List Oper→(List Cls→St→Prop)→List Cls→St→Prop
 | [],Q,cs,st=>Q cs st
 | o::l,Q,cs,st=>match wanted st ops o with
  | some true=>qko P lit o st (sdP st o.dst (QT P lit ops l Q) cs)
  | some false=>sdP st o.dst (QT P lit ops l Q) cs .flo (.v undef) st.H st.N
  | none=>False
section
variable{P:Program}{lit:Nat→Bool}{ops:Array Oper}{st:St}{o:Oper}
theorem qdI{st st2:St}(h:flo o.op=true)(ha:∀x∈o.op.operands.toList,ev st2 x=ev st x):avalue P st2 o=avalue P st o:=by
 obtain⟨dst,op,ty,pos,aft,grd⟩:=o;simp only at h ha;have hmap:∀xs:List Operand,(∀x∈xs,x∈op.operands.toList)→xs.map (ev st2)=xs.map (ev st):=fun xs hx=>List.map_congr_left fun x hm=>ha x (hx x hm);cases op<;>simp only[flo]at h<;>(try cases h)<;>simp only[Op.operands]at ha;case move x=>simp only[avalue];rw[ha x (by simp)]
 case assign x=>simp only[avalue];rw[ha x (by simp)]
 case pick a b c=>simp only[avalue];rw[ha a (by simp),ha b (by simp),ha c (by simp)]
 case nilCheck x=>simp only[avalue];rw[ha x (by simp)]
 case binOp op t x y yt=>simp only[avalue];rw[ha x (by simp),ha y (by simp)]
 case unOp op t x=>simp only[avalue];rw[ha x (by simp)]
 case convert s t x=>simp only[avalue];rw[ha x (by simp)]
 case makeFunc f fs cs=>simp only[avalue];rw[hmap fs.toList (fun x hx=>by simp only[Op.operands];simp;exact .inl (by simpa using hx)),hmap cs.toList (fun x hx=>by simp only[Op.operands];simp;exact .inr (by simpa using hx))]
 case field t x f=>simp only[avalue];rw[ha x (by simp)]
 case extract x i=>simp only[avalue];rw[ha x (by simp)]
 case index t x i=>simp only[avalue];rw[ha x (by simp),ha i (by simp)]
 case indexAddr t x i =>simp only[avalue];rw[ha x (by simp),ha i (by simp)];rfl
 case fieldAddr t x f=>simp only[avalue];rw[ha x (by simp)]
 case slice t x lo hi mx =>
  cases mx with
  | some m=>rfl
  | none =>
   simp only[avalue];rw[ha x (by simp)];cases lo<;>cases hi<;>simp only[Option.map_some,Option.map_none]
   ·rename_i y;rw[ha y (by simp)]
   ·rename_i y;rw[ha y (by simp)]
   ·rename_i y z;rw[ha y (by simp),ha z (by simp)]
 case build t parts =>simp only[avalue];congr 1;refine List.map_congr_left fun p hp=>?_;obtain⟨i,x⟩:=p;simp only;rw[ha x (by simp;exact⟨i,by simpa using hp⟩)]
 case call c =>simp only[avalue];cases hc:c.callee<;>simp only[hc]at h⊢;rename_i b;rw[hmap c.args.toList (fun x hx=>by simp only[Op.operands,Call.operands,hc];simpa using hx)]
theorem Evd.qqW{u:AV}(hg:wanted st ops o=some true)(hf:flo o.op=true)(h:avalue P st o=some u):Evd P ops o .flo st u st.H st.N :=
 Evd.qnd hg fun st2 ha=>by rw[qdI hf ha.2.1];exact h
theorem Evd.litl{u:AV}{t:TypeId}{len:Nat}{parts:Array (Nat×Operand)}(ho:o.op=.buildSlice t len parts)(hg:wanted st ops o=some true)(h:qdx P t len (parts.toList.map fun(i,x)=>(i,ev st x))=some u):Evd P ops o .flo st u st.H st.N :=
 ⟨rfl,rfl,fun H N=>Eff.J4 (st:=st.mem H N) hg fun st2 ha hH hN=>by
  rw[VG (H:=H) (N:=N) hH hN];unfold qdx at h;split at h
  ·rename_i e es hb;cases h;have hm:(parts.toList.map fun(i,x)=>(i,ev st2 x))=parts.toList.map fun(i,x)=>(i,ev st x):=List.map_congr_left fun q hq=>by obtain⟨i,x⟩:=q;have:=ha.2.1 x (by rw[ho];simp only[Op.operands];simp;exact⟨i,by simpa using hq⟩);simp only[this];cases x<;>rfl
   exact Qw.lit ho (by rw[hm];exact hb)
  ·cases h⟩
theorem qf0{st2:St}(t:TypeId)(p x:AV)(hH:st2.H=st.H):astore P st2 t p x=(astore P st t p x).map fun s=>st2.mem s.H st2.N:=by
 unfold astore;rw[hH];cases p<;>try rfl
 rename_i id sz i off;simp only;cases st.H id with
 | none=>rfl
 | some b =>
  simp only;split
  ·cases b.es[i]?<;>rfl
  ·rfl
theorem Xm{st2:St}(t:TypeId)(s x:AV)(hH:st2.H=st.H)(hN:st2.N=st.N):aappend P st2 t s x=(aappend P st t s x).map fun q=>(q.1,st2.mem q.2.H q.2.N):=by
 have hb:∀(e:TypeId) (H:Qf) (es:List (List AV)) (cap:Option Nat),Qs P { st2 with H:=H } e es cap=st2.mem (Qs P { st with H:=H } e es cap).H (Qs P { st with H:=H } e es cap).N:=fun e H es cap=>by simp[Qs,St.mem,hN]
 have hb2:∀(e:TypeId) (es:List (List AV)) (cap:Option Nat),Qs P st2 e es cap=st2.mem (Qs P st e es cap).H (Qs P st e es cap).N:=fun e es cap=>by simp[Qs,St.mem,hN,hH]
 have hm:st2=st2.mem st.H st.N:=by cases st2;simp only[St.mem]at hH hN⊢;subst hH hN;rfl
 unfold aappend;rw[hH];cases P.underlying t with
 | none=>rfl
 | some d =>
  cases d<;>try rfl
  rename_i e;simp only;cases QA st.H x with
  | none=>rfl
  | some es =>
   cases es with
   | nil =>
    simp only;split
    ·simp only[Option.map_some];rw[←hm]
    ·rfl
   | cons c es =>
    simp only;split
    ·cases s<;>try rfl
     ·rename_i v;cases v<;>try rfl
      rename_i a l cc;cases a with
      | some a=>rfl
      | none =>
       cases l with
       | succ l=>rfl
       | zero =>
        cases cc with
        | succ cc=>rfl
        | zero =>
         simp only;split
         ·simp only[Option.map_some];rw[hb2,hN]
         ·rfl
     ·rename_i id sz off n mx;cases off with
      | succ off=>rfl
      | zero =>
       cases mx with
       | some m=>rfl
       | none =>
        simp only;cases st.H id with
        | none=>rfl
        | some b =>
         simp only;split
         ·simp only[Option.map_some];rw[hb,hN]
         ·rfl
    ·rfl
theorem qph{K:Cls→AV→Qf→Nat→Prop}(hg:wanted st ops o=some true)(h:qko P lit o st K):∃c u H' N',K c u H' N'∧Evd P ops o c st u H' N':=by
 have hval:∀(hf:flo o.op=true),sdV (avalue P st o) st K .flo→∃c u H' N',K c u H' N'∧Evd P ops o c st u H' N':=fun hf h=>by
  unfold sdV at h;split at h
  ·rename_i u hu;exact⟨_,u,_,_,h,Evd.qqW hg hf hu⟩
  ·cases h
 have hagr:∀(st2:St),Agr ops o st st2→∀x∈o.op.operands.toList,ev st2 x=ev st x:=fun st2 ha=>ha.2.1;have hnew:∀(r:Option (AV×St)),(∀u s1,r=some (u,s1)→∃t es cap,s1=Qs P st t es cap∧∀st2,Agr ops o st st2→st2.H=st.H→st2.N=st.N→astep P st2 o=some (u,Qs P st2 t es cap))→sdS r K (.hvy (some []))→∃c u H' N',K c u H' N'∧Evd P ops o c st u H' N':=fun r hr h=>by
  unfold sdS at h;split at h
  ·rename_i u s1;obtain⟨t,es,cap,rfl,h2⟩:=hr u s1 rfl;exact⟨_,u,_,_,h,Evd.qrl hg h2⟩
  ·cases h
 unfold qko at h;split at h
 ·rename_i t x ho;obtain⟨h1,h2⟩:=h;unfold sdV at h2;split at h2
  ·rename_i u hu;exact⟨_,u,_,_,h2,Evd.load ho hg (fun id sz i off hq=>h1 id (by rw[hq];simp[Q0])) hu⟩
  ·cases h2
 ·rename_i t p x ho;unfold sdN at h;split at h
  ·rename_i s1 hs;refine⟨_,_,_,_,h,?_,Nat.le_refl _,?_⟩
   ·exact Eff.store ho hg fun st2 hH=>by rw[qf0 t _ _ hH,hs];rfl
   ·intro id hid hm;unfold astore at hs;split at hs
    ·rename_i id' sz i off hp;split at hs
     ·rename_i b hb;split at hs
      ·split at hs
       ·cases hs;have:id≠id':=fun e=>hm (by rw[hp,e];simp[Q0]);simp[Qf.set,this]
       ·cases hs
      ·cases hs
     ·cases hs
    ·cases hs
  ·cases h
 ·rename_i t len parts ho;split at h
  ·unfold sdV at h;split at h
   ·rename_i u hu;exact⟨_,u,_,_,h,Evd.litl ho hg hu⟩
   ·cases h
  ·refine hnew _ (fun u s1 hr=>?_) h;have hm:∀st2,Agr ops o st st2→(parts.toList.map fun(i,x)=>(i,ev st2 x))=parts.toList.map fun(i,x)=>(i,ev st x):=fun st2 ha=>List.map_congr_left fun q hq=>by obtain⟨i,x⟩:=q;simp only[ha.2.1 x (by rw[ho];simp only[Op.operands];simp;exact⟨i,by simpa using hq⟩)]
   unfold astep at hr;rw[ho]at hr;simp only at hr;split at hr
   ·rename_i e es hb;simp only[Option.some.injEq,Prod.mk.injEq]at hr;obtain⟨rfl,rfl⟩:=hr;refine⟨e,es,some len,rfl,fun st2 ha hH hN=>?_⟩;unfold astep;rw[ho];simp only;rw[hm st2 ha,hb,hN]
   ·cases hr
 ·rename_i t ho;refine hnew _ (fun u s1 hr=>?_) h;unfold astep at hr;rw[ho]at hr;simp only at hr;split at hr
  ·rename_i cs hz;unfold aptr at hr;split at hr
   ·rename_i hl;simp only[Option.some.injEq,Prod.mk.injEq]at hr;obtain⟨rfl,rfl⟩:=hr;refine⟨t,[cs],some 1,rfl,fun st2 ha hH hN=>?_⟩;unfold astep aptr;rw[ho];simp only[hz,hl,if_true,hN]
   ·cases hr
  ·cases hr
 ·rename_i t x ho;refine hnew _ (fun u s1 hr=>?_) h;unfold astep at hr;rw[ho]at hr;simp only at hr;unfold aptr at hr;split at hr
  ·rename_i hl;simp only[Option.some.injEq,Prod.mk.injEq]at hr;obtain⟨rfl,rfl⟩:=hr;refine⟨t,[acells (ev st x)],some 1,rfl,fun st2 ha hH hN=>?_⟩;unfold astep aptr;rw[ho];have:ev st2 x=ev st x:=ha.2.1 x (by rw[ho];simp[Op.operands]);simp only[this,hl,if_true,hN]
  ·cases hr
 ·rename_i t l c ho;refine hnew _ (fun u s1 hr=>?_) h;unfold astep at hr;rw[ho]at hr;simp only at hr;split at hr
  ·rename_i e ln cn z hm;simp only[Option.some.injEq,Prod.mk.injEq]at hr;obtain⟨rfl,rfl⟩:=hr;refine⟨e,List.replicate ln z,some cn,rfl,fun st2 ha hH hN=>?_⟩;unfold astep;rw[ho];have h1:ev st2 l=ev st l:=ha.2.1 l (by rw[ho];simp[Op.operands]);have h2:ev st2 c=ev st c:=ha.2.1 c (by rw[ho];simp[Op.operands]);simp only[h1,h2,hm,hN]
  ·cases hr
 ·rename_i c ho;split at h
  ·rename_i x hcl;split at h
   ·rename_i f fs cs hf;obtain⟨cl,u,H',N',hK,hc⟩:=h;refine⟨cl,u,H',N',hK,?_⟩;have e:∀H N y,ev (st.mem H N) y=ev st y:=fun H N y=>by cases y<;>rfl
    have e2:∀H N,c.args.toList.map (ev (st.mem H N))=c.args.toList.map (ev st):=fun H N=>List.map_congr_left fun y _=>e H N y;rcases cl with _|rs|⟨_|ws⟩
    ·obtain⟨rfl,rfl,hr⟩:=hc;exact⟨rfl,rfl,fun H N=>Eff.X0 (st:=st.mem H N) hg ho hcl ((e H N x).trans hf) (by rw[e2];exact hr H N)⟩
    ·obtain⟨rfl,rfl,hid,hr⟩:=hc;exact⟨rfl,rfl,hid,fun H N hs=>Eff.X0 (st:=st.mem H N) hg ho hcl ((e H N x).trans hf) (by rw[e2];exact hr H N hs)⟩
    ·exact Eff.X0 hg ho hcl hf hc
    ·exact⟨Eff.X0 hg ho hcl hf hc.1,hc.2⟩
   ·cases h
  ·rename_i hcl;unfold sdS at h;split at h
   ·rename_i u s1 hr;refine⟨_,u,_,_,h,Eff.qfq hg fun st2 ha hH hN=>?_⟩;unfold astep at hr⊢;rw[ho]at hr⊢;simp only[hcl]at hr⊢;split at hr
    ·rename_i s x t t' h1 h2;split at hr
     ·rename_i ht;have g1:ev st2 s=ev st s:=ha.2.1 s (by rw[ho];simp only[Op.operands,Call.operands,hcl];simp[h1]);have g2:ev st2 x=ev st x:=ha.2.1 x (by rw[ho];simp only[Op.operands,Call.operands,hcl];simp[h1]);simp only[ht,if_true,g1,g2];rw[Xm t' _ _ hH hN,←ht,hr];rfl
     ·cases hr
    ·cases hr
   ·cases h
  ·rename_i hcl;split at h
   ·rename_i hf;exact hval hf h
   ·cases h
 ·split at h
  ·rename_i hf;exact hval hf h
  ·cases h
theorem Xd{Q:List Cls→St→Prop}:∀(l:List Oper) (cs:List Cls) (st:St),QT P lit ops l Q cs st→∃cl e,cl.length=l.length∧K5 P ops (l.zip cl) st e∧Q (cl.reverse++cs) e:=by
 intro l;induction l with
 | nil=>intro cs st h;exact⟨[],st,rfl,.nil st,h⟩
 | cons o l ih =>
  intro cs st h;have put:∀c u H N,sdP st o.dst (QT P lit ops l Q) cs c u H N→Evd P ops o c st u H N→∃cl e,cl.length=(o::l).length∧K5 P ops ((o::l).zip cl) st e∧Q (cl.reverse++cs) e:=fun c u H N h hE=>by
   have:(∀d,o.dst=some d→d<st.n)∧QT P lit ops l Q (c::cs) (st.eff o.dst u H N):=by
    unfold sdP at h;split at h
    ·rename_i d hd;split at h
     ·rename_i hlt;exact⟨fun d' hd'=>by rw[hd]at hd';injection hd' with hd';subst hd';exact hlt,by rw[hd];exact h⟩
     ·cases h
    ·rename_i hd;exact⟨(fun d hd'=>by rw[hd]at hd';cases hd'),by rw[hd];exact h⟩
   obtain⟨cl,e,g1,g2,g3⟩:=ih _ _ this.2;exact⟨c::cl,e,by simp[g1],.cons o c _ st e u H N hE this.1 g2,by simpa using g3⟩
  unfold QT at h;split at h
  ·rename_i hw;obtain⟨c,u,H',N',hK,hE⟩:=qph hw h;exact put c u H' N' hK hE
  ·rename_i hw;exact put .flo _ _ _ h (Evd.pass hw)
  ·cases h
theorem qfr(cl:List Cls)(hl:cl.length=ops.size):Jq ops cl (List.range ops.size)=ops.toList.zip cl:=by
 unfold Jq;apply List.ext_getElem?;intro k;have key:∀m,m≤ops.size→(List.range m).filterMap (fun i=>(ops[i]?).map fun o=>(o,cl.getD i (.hvy none)))=(ops.toList.zip cl).take m:=fun m=>by
  induction m with
  | zero=>intro _;simp
  | succ m ih =>
   intro hm;have hz:(ops.toList.zip cl)[m]?=some (ops[m],cl[m]'(by omega)):=by rw[List.getElem?_eq_getElem (by simp;omega)];simp
   have e1:([m]:List Nat).filterMap (fun i=>(ops[i]?).map fun o=>(o,cl.getD i (.hvy none)))=[(ops[m],cl[m]'(by omega))]:=by simp[Array.getElem?_eq_getElem (show m<ops.size by omega),List.getD_eq_getElem?_getD,List.getElem?_eq_getElem (show m<cl.length by omega)]
   rw[List.range_succ,List.filterMap_append,ih (by omega),e1,List.take_add_one,hz];rfl
 rw[key _ (Nat.le_refl _),List.take_of_length_le (by simp;omega)]
def Zg(ops:Array Oper)(cs:List Cls):Prop:=∃bs,J9 ops cs.reverse bs=true
theorem Zg.of{ops:Array Oper}{cs:List Cls}(h:J9 ops cs.reverse (befores ops ops.toList [])=true):Zg ops cs:=⟨_,h⟩
def qsb(ops:Array Oper)(Q:St→Prop):List Cls→St→Prop:=fun cs e=>Zg ops cs∧Q e
theorem qk9(ops:Array Oper)(Q:St→Prop)(cs:List Cls)(e:St):qsb ops Q cs e=(Zg ops cs∧Q e):=id rfl
theorem Qm.walk(lit:Nat→Bool)(hm:P.follows .mixedOrders=true){id:Nat}{Q:St→Prop}(h:QT P lit ops ops.toList (qsb ops Q) [] st):Qm P id ops st Q:=by
 obtain⟨cl,e,h1,h2,⟨bs,h3⟩,h4⟩:=Xd _ _ _ h;simp only[List.append_nil,List.reverse_reverse]at h3;intro pl R hR;refine Qm.steps hm h3 (e:=e) ?_ pl R fun s hs=>by subst hs;exact hR _ h4
 rw[qfr cl (by simpa using h1)];exact h2
end
section
variable(P:Program)(lit:Nat→Bool)(ops:Array Oper)(d:Nat)(ty:TypeId)(pos:String)(aft:Array Edge)(l:List Oper)(Q:List Cls→St→Prop)(cs:List Cls)(st:St)
theorem ql3(st:St)(d:Nat)(K:List Cls→St→Prop)(cs:List Cls)(c:Cls)(u:AV)(H:Qf)(N:Nat):sdP st (some d) K cs c u H N=if d<st.n then K (c::cs) ⟨st.n,upd st.env d u,H,N⟩else False:=id rfl
theorem ql2(st:St)(K:List Cls→St→Prop)(cs:List Cls)(c:Cls)(u:AV)(H:Qf)(N:Nat):sdP st none K cs c u H N=K (c::cs) ⟨st.n,st.env,H,N⟩:=id rfl
theorem ql6(u:AV)(st:St)(K:Cls→AV→Qf→Nat→Prop)(c:Cls):sdV (some u) st K c=K c u st.H st.N:=id rfl
theorem ql5(u:AV)(s1:St)(K:Cls→AV→Qf→Nat→Prop)(c:Cls):sdS (some (u,s1)) K c=K c u s1.H s1.N:=id rfl
theorem ql4(s1 st:St)(K:Cls→AV→Qf→Nat→Prop)(c:Cls):sdN (some s1) st K c=K c (.v undef) s1.H st.N:=id rfl
theorem qrH:QT P lit ops [] Q cs st=Q cs st:=id rfl
theorem Yw(o:Oper)(hg:o.guard=none):QT P lit ops (o::l) Q cs st=qko P lit o st (sdP st o.dst (QT P lit ops l Q) cs):=by
 have:wanted st ops o=some true:=by simp[wanted,hg]
 simp only[QT,this]
theorem Qa(dst:Option Tmp)(op:Op)(j:Nat)(want:Bool):QT P lit ops (⟨dst,op,ty,pos,aft,some (j,want)⟩::l) Q cs st =
  qm4 (grd st ops j want) (QT P lit ops (⟨dst,op,ty,pos,aft,none⟩::l) Q cs st) (sdP st dst (QT P lit ops l Q) cs .flo (.v undef) st.H st.N):=by
 rw[Yw P lit ops l Q cs st ⟨dst,op,ty,pos,aft,none⟩ rfl];have hw:wanted st ops ⟨dst,op,ty,pos,aft,some (j,want)⟩=grd st ops j want:=rfl;have hv:∀K,qko P lit ⟨dst,op,ty,pos,aft,some (j,want)⟩ st K=qko P lit ⟨dst,op,ty,pos,aft,none⟩ st K:=fun _=>rfl;simp only[QT,hw,hv];rcases grd st ops j want with _|_|_<;>simp[qm4]
theorem Js(op:Op)(u:Option AV)(h:∀K,qko P lit ⟨some d,op,ty,pos,aft,none⟩ st K=sdV u st K .flo):QT P lit ops (⟨some d,op,ty,pos,aft,none⟩::l) Q cs st=sdV u st (sdP st (some d) (QT P lit ops l Q) cs) .flo:=by rw[Yw P lit ops l Q cs st _ rfl,h]
theorem qpk(x:Operand):QT P lit ops (⟨some d,.move x,ty,pos,aft,none⟩::l) Q cs st=sdV (some (ev st x)) st (sdP st (some d) (QT P lit ops l Q) cs) .flo:=Js P lit ops d ty pos aft l Q cs st _ _ fun _=>rfl
theorem qjw(x:Operand):QT P lit ops (⟨some d,.assign x,ty,pos,aft,none⟩::l) Q cs st=sdV (some (ev st x)) st (sdP st (some d) (QT P lit ops l Q) cs) .flo:=Js P lit ops d ty pos aft l Q cs st _ _ fun _=>rfl
theorem ql8(op:BinOp)(t:TypeId)(x y:Operand)(yt:TypeId):QT P lit ops (⟨some d,.binOp op t x y yt,ty,pos,aft,none⟩::l) Q cs st=sdV (abinop P op t (ev st x) (ev st y)) st (sdP st (some d) (QT P lit ops l Q) cs) .flo:=Js P lit ops d ty pos aft l Q cs st _ _ fun _=>rfl
theorem qpm(op:UnOp)(t:TypeId)(x:Operand):QT P lit ops (⟨some d,.unOp op t x,ty,pos,aft,none⟩::l) Q cs st=sdV (aunop op (ev st x)) st (sdP st (some d) (QT P lit ops l Q) cs) .flo:=Js P lit ops d ty pos aft l Q cs st _ _ fun _=>rfl
theorem qmb(t:TypeId)(x i:Operand):QT P lit ops (⟨some d,.index t x i,ty,pos,aft,none⟩::l) Q cs st=sdV (match idx (ev st i)with|some j=>aindex P t (ev st x) j|none=>none) st (sdP st (some d) (QT P lit ops l Q) cs) .flo:=Js P lit ops d ty pos aft l Q cs st _ _ fun _=>rfl
theorem qde(t:TypeId)(x i:Operand):QT P lit ops (⟨some d,.indexAddr t x i,ty,pos,aft,none⟩::l) Q cs st=sdV (match idx (ev st i)with|some j=>Qh P st t (ev st x) j|none=>none) st (sdP st (some d) (QT P lit ops l Q) cs) .flo:=Js P lit ops d ty pos aft l Q cs st _ _ fun _=>rfl
theorem qdd(t:TypeId)(x:Operand)(f:Nat):QT P lit ops (⟨some d,.fieldAddr t x f,ty,pos,aft,none⟩::l) Q cs st=sdV (Qk P t (ev st x) f) st (sdP st (some d) (QT P lit ops l Q) cs) .flo:=Js P lit ops d ty pos aft l Q cs st _ _ fun _=>rfl
theorem qmc(t:TypeId)(x:Operand)(lo hi:Option Operand):QT P lit ops (⟨some d,.slice t x lo hi none,ty,pos,aft,none⟩::l) Q cs st=sdV (aslice P t (ev st x) (lo.map (ev st)) (hi.map (ev st))) st (sdP st (some d) (QT P lit ops l Q) cs) .flo:=Js P lit ops d ty pos aft l Q cs st _ _ fun _=>rfl
theorem qgL(x:Operand)(i:Nat):QT P lit ops (⟨some d,.extract x i,ty,pos,aft,none⟩::l) Q cs st=sdV (match V1 (ev st x)with|some vs=>vs[i]?|none=>none) st (sdP st (some d) (QT P lit ops l Q) cs) .flo:=Js P lit ops d ty pos aft l Q cs st _ _ fun _=>rfl
theorem ql9(t:TypeId)(parts:List (Nat×Operand)):QT P lit ops (⟨some d,.build t parts.toArray,ty,pos,aft,none⟩::l) Q cs st=sdV (abuild P t (parts.map fun(i,x)=>(i,ev st x))) st (sdP st (some d) (QT P lit ops l Q) cs) .flo:=Js P lit ops d ty pos aft l Q cs st _ _ fun _=>rfl
theorem qpl(c a b:Operand):QT P lit ops (⟨some d,.pick c a b,ty,pos,aft,none⟩::l) Q cs st=sdV (match ev st c with|.v (.bool t)=>some (if t then ev st a else ev st b)|_=>none) st (sdP st (some d) (QT P lit ops l Q) cs) .flo:=Js P lit ops d ty pos aft l Q cs st _ _ fun _=>rfl
theorem qet(x:Operand):QT P lit ops (⟨some d,.nilCheck x,ty,pos,aft,none⟩::l) Q cs st=sdV (match ev st x with|.ptr id sz i off=>some (.ptr id sz i off)|.rop cs=>some (.rop cs)|.fn (.func f) fs cs=>some (.fn (.func f) fs cs)|_=>none) st (sdP st (some d) (QT P lit ops l Q) cs) .flo:=Js P lit ops d ty pos aft l Q cs st _ _ fun _=>rfl
theorem qes(f:Fn)(fs cl:List Operand):QT P lit ops (⟨some d,.makeFunc f fs.toArray cl.toArray,ty,pos,aft,none⟩::l) Q cs st=sdV (some (.fn f (fs.map (ev st)) (cl.map (ev st)))) st (sdP st (some d) (QT P lit ops l Q) cs) .flo:=Js P lit ops d ty pos aft l Q cs st _ _ fun _=>rfl
theorem qrG(x:Operand)(t:TypeId):QT P lit ops (⟨some d,.call ⟨.builtin .len,#[x],#[t]⟩,ty,pos,aft,none⟩::l) Q cs st=sdV (alen P t (ev st x)) st (sdP st (some d) (QT P lit ops l Q) cs) .flo:=Js P lit ops d ty pos aft l Q cs st _ _ fun _=>rfl
theorem qpj(t:TypeId)(x:Operand):QT P lit ops (⟨some d,.load t x,ty,pos,aft,none⟩::l) Q cs st=((∀id∈Q0 (ev st x),id<st.N)∧sdV (aload P st t (ev st x)) st (sdP st (some d) (QT P lit ops l Q) cs) (.lod (Q0 (ev st x)))):=by rw[Yw P lit ops l Q cs st _ rfl];rfl
theorem qmd(t:TypeId)(p x:Operand):QT P lit ops (⟨none,.store t p x,ty,pos,aft,none⟩::l) Q cs st=sdN (astore P st t (ev st p) (ev st x)) st (sdP st none (QT P lit ops l Q) cs) (.hvy (some (Q0 (ev st p)))):=by rw[Yw P lit ops l Q cs st _ rfl];rfl
theorem ql7(t:TypeId):QT P lit ops (⟨some d,.alloc t,ty,pos,aft,none⟩::l) Q cs st=sdS (match azero P t with|some cs=>aptr P st t cs|none=>none) (sdP st (some d) (QT P lit ops l Q) cs) (.hvy (some [])):=by rw[Yw P lit ops l Q cs st _ rfl];rfl
theorem qrF(t:TypeId)(x:Operand):QT P lit ops (⟨some d,.box t x,ty,pos,aft,none⟩::l) Q cs st=sdS (aptr P st t (acells (ev st x))) (sdP st (some d) (QT P lit ops l Q) cs) (.hvy (some [])):=by rw[Yw P lit ops l Q cs st _ rfl];rfl
theorem qdf(t:TypeId)(x c:Operand):QT P lit ops (⟨some d,.makeSlice t x c,ty,pos,aft,none⟩::l) Q cs st=sdS (match amake P t (ev st x) (ev st c)with|some (e,ln,cn,z)=>some (.ref st.N (P.cellsOf e) 0 ln none,Qs P st e (List.replicate ln z) (some cn))|none=>none) (sdP st (some d) (QT P lit ops l Q) cs) (.hvy (some [])):=by rw[Yw P lit ops l Q cs st _ rfl];rfl
theorem qbQ(t:TypeId)(len:Nat)(parts:List (Nat×Operand)):QT P lit ops (⟨some d,.buildSlice t len parts.toArray,ty,pos,aft,none⟩::l) Q cs st =
  (if lit d=true then sdV (qdx P t len (parts.map fun(i,x)=>(i,ev st x))) st (sdP st (some d) (QT P lit ops l Q) cs) .flo else sdS (match Qz P t len (parts.map fun(i,x)=>(i,ev st x))with|some (e,es)=>some (.ref st.N (P.cellsOf e) 0 len none,Qs P st e es (some len))|none=>none) (sdP st (some d) (QT P lit ops l Q) cs) (.hvy (some []))):=by
 rw[Yw P lit ops l Q cs st _ rfl];rfl
theorem qjv(s x:Operand)(t:TypeId):QT P lit ops (⟨some d,.call ⟨.builtin .append,#[s,x],#[t,t]⟩,ty,pos,aft,none⟩::l) Q cs st=sdS (aappend P st t (ev st s) (ev st x)) (sdP st (some d) (QT P lit ops l Q) cs) (.hvy none):=by rw[Yw P lit ops l Q cs st _ rfl];simp[qko,astep]
theorem qpi(f:FuncId)(args:List Operand)(ts:Array TypeId):QT P lit ops (⟨some d,.call ⟨.value (.func f),args.toArray,ts⟩,ty,pos,aft,none⟩::l) Q cs st=QF P f (args.map (ev st)) st (sdP st (some d) (QT P lit ops l Q) cs):=by rw[Yw P lit ops l Q cs st _ rfl];simp[qko,ev]
end
attribute [simp] qk9 Qa ql3 ql2 ql6 ql5 ql4 qrH qpk qjw ql8 qpm qmb qde qdd qmc qgL ql9 qpl qet qes qrG qpj qmd ql7 qrF qdf qbQ qjv qpi
@[congr] theorem qp0{b b':Option Bool}{K1 K2:Prop}(h:b=b'):qm4 b K1 K2=qm4 b' K1 K2:=by rw[h]
theorem QF.flo{P:Program}{f:FuncId}{args:List AV}{st:St}{K:Cls→AV→Qf→Nat→Prop}{u:AV}(h:∀H N,qki P f args H N u H N)(hk:K .flo u st.H st.N):QF P f args st K:=⟨.flo,u,_,_,hk,rfl,rfl,h⟩
theorem QF.pure{P:Program}{f:FuncId}{args:List AV}{st:St}{K:Cls→AV→Qf→Nat→Prop}{u:AV}{k:Nat}(h:Qg P f args u)(ha:args.all (Qu k)=true)(hu:Qu k u=true)(hk:K .flo u st.H st.N):QF P f args st K :=
 .flo (fun H N=>h.frame ha hu) hk
theorem Qc.pure{P:Program}{f:FuncId}{args:List AV}{H:Qf}{N:Nat}{Q:AV→Qf→Nat→Prop}{u:AV}{k:Nat}(h:Qg P f args u)(ha:args.all (Qu k)=true)(hu:Qu k u=true)(hk:Q u H N):Qc P f args H N Q:=by obtain⟨h1,h2⟩:=h.frame (H:=H) (N:=N) ha hu;exact⟨h1,h2.mono fun a b c ⟨e1,e2,e3⟩=>by subst e1 e2 e3;exact hk⟩
theorem Qc.pu{P:Program}{f:FuncId}{args:List AV}{H:Qf}{N:Nat}{Q:AV→Qf→Nat→Prop}{u:AV}(h:Qg P f args u)(hk:Q u H N)(ha:args.all (Qu 9)=true:=by rfl)(hu:Qu 9 u=true:=by rfl):Qc P f args H N Q:=Qc.pure h ha hu hk
theorem Qc.pv{P:Program}{f:FuncId}{args:List AV}{H:Qf}{N:Nat}{Q:AV→Qf→Nat→Prop}{u:AV}(h:Qg P f args u)(ha:args.all (Qu 9)=true)(hu:Qu 9 u=true)(hk:Q u H N):Qc P f args H N Q:=Qc.pure h ha hu hk
theorem qeG{P:Program}{ops:Array Oper}{l2:List Oper}{K K':St→Prop}(hK:∀st',K st'→Qx P ops l2 st' K'):∀(l1:List Oper) (st:St),QC P ops l1 K st→Qx P ops (l1++l2) st K':=by
 intro l;induction l with
 | nil=>intro st h;exact hK _ h
 | cons o l ih =>
  intro st h;rw[List.cons_append];unfold QC at h;split at h
  ·rename_i b hw;cases b with
   | false =>obtain⟨st',hp,hk⟩:=ZG (h.2 rfl);exact Qx.pass hw hp (ih _ hk)
   | true =>
    have h:=h.1 rfl;have hst:∀(h:(match astep P st o with|some (u,st1)=>Z7 st1 o.dst u (QC P ops l K)|none=>False)),Qx P ops (o::(l++l2)) st K':=fun h=>by
     split at h
     ·rename_i u st1 hs;obtain⟨st',hp,hk⟩:=ZG h;exact Qx.step hw (W5 hs) hp (ih _ hk)
     ·cases h
    unfold qac at h;split at h
    ·rename_i t p x ho;split at h
     ·rename_i st1 hs;obtain⟨st',hp,hk⟩:=ZG h;exact Qx.skip hw (JO.store ho hs) hp (ih _ hk)
     ·cases h
    ·rename_i c ho;split at h
     ·rename_i x hcl;split at h
      ·rename_i f fs cs hf;obtain⟨⟨fn,body,h1,h2,h3⟩,hc⟩:=h;refine Qx.call hw ho hcl hf h1 h2 h3 (hc.mono fun r H' N' hq=>?_);obtain⟨st',hp,hk⟩:=ZG hq;exact⟨st',hp,ih _ hk⟩
      ·cases h
     ·exact hst h
    ·exact hst h
  ·cases h
theorem Qe.QW{P:Program}{pl:Bool}{id:Nat}{ops:Array Oper}{st:St}{Q:Exit→St→Prop}{K:St→Prop}(n:Nat)(h1:QC P ops (ops.toList.take n) K st)(h2:∀st',K st'→Qx P ops (ops.toList.drop n) st' (Q .normal)):Qe P pl (.region id ops false) st Q:=by refine Qe.J7 ?_;have:=qeG (P:=P) (ops:=ops) h2 (ops.toList.take n) st h1;rwa[List.take_append_drop]at this
def Round(P:Program)(id:Nat)(r:Zw)(args:List AV)(H:Qf)(N:Nat)(K:Option Code→Qf→Nat→Prop):Prop :=
 Qe P false r.assign { n:=r.n,env:=XC r.env r.ps.toList args,H:=H,N:=N } fun e s1=>e=.normal∧s1.H.L id=some r ∧
   Qe P false r.body { s1 with H:=s1.H.Je id (some { r with busy:=true }) } fun e s2=>s2.H.L id=some { r with busy:=true }∧∃j,Ky e=some j∧K j (s2.H.Je id (some { r with pend:=j })) s2.N
def qny(P:Program)(g:FuncId)(cs:List AV)(ar:Nat)(ys:List (List AV)):Prop :=
 ∀(id:Nat) (r:Zw) (H:Qf) (N:Nat),r.pend=none→r.busy=false→H.L id=some r→r.ps.size=ar→(∀p∈r.ps.toList,p<r.n)→∀(I:Nat→Qf→Nat→Prop) (F:Option Code→Qf→Nat→Prop),I 0 H N →
  (∀(k:Nat) (hk:k<ys.length) (H:Qf) (N:Nat),I k H N→H.L id=some r→Round P id r ys[k] H N fun j H' N'=>if j=none then I (k+1) H' N' else F j H' N') →
  Qc P g (.yl id::cs) H N fun _ H' N'=>(I ys.length H' N'∧H'.L id=some r)∨∃j,j≠none∧F j H' N'∧H'.L id=some { r with pend:=j }
theorem Qf.WY(H:Qf)(id:Nat)(x:Option Zw):(H.Je id x).b=H.b:=rfl
theorem Qf.qsQ(H:Qf)(id:Nat)(x:Blk):(H.set id x).L=H.L:=rfl
theorem Qf.qq7(H:Qf)(id:Nat):(H.kill id).L=H.L:=rfl
def qse(I:Nat→Qf→Nat→Prop)(F:Code→Qf→Nat→Prop)(k:Nat)(H1:Qf):Exit→St→Prop:=fun e s2=>s2.H.L=H1.L∧match Ky e with|some none=>I (k+1) s2.H s2.N|some (some j)=>F j s2.H s2.N|none=>False
def asK(P:Program)(body:Code)(I:Nat→Qf→Nat→Prop)(F:Code→Qf→Nat→Prop)(k:Nat)(H:Qf):Exit→St→Prop:=fun e s1=>e=.normal∧s1.H.L=H.L∧∀H1,H1.b=s1.H.b→Zv P false body (qse I F k H1) { s1 with H:=H1 }
theorem qfZ(P:Program)(body:Code)(I:Nat→Qf→Nat→Prop)(F:Code→Qf→Nat→Prop)(k:Nat)(H:Qf)(s1:St):asK P body I F k H .normal s1=(s1.H.L=H.L∧∀H1,H1.b=s1.H.b→Zv P false body (qse I F k H1) { s1 with H:=H1 }):=by unfold asK;simp
theorem qen(I:Nat→Qf→Nat→Prop)(F:Code→Qf→Nat→Prop)(k:Nat)(H1:Qf)(s2:St):qse I F k H1 .normal s2=(s2.H.L=H1.L∧I (k+1) s2.H s2.N):=id rfl
theorem qlY(I:Nat→Qf→Nat→Prop)(F:Code→Qf→Nat→Prop)(k:Nat)(H1:Qf)(s2:St):qse I F k H1 .ret s2=(s2.H.L=H1.L∧F .ret s2.H s2.N):=id rfl
theorem qgm(env:Nat→AV)(p:Tmp)(ps:List Tmp)(x:AV)(xs:List AV):XC env (p::ps) (x::xs)=XC (upd env p x) ps xs:=id rfl
theorem qik(env:Nat→AV):XC env [] []=env:=id rfl
theorem Kn.iter{P:Program}{f:Operand}{ps:Array Tmp}{as1 body:Code}{st:St}{Q:Exit→St→Prop}{g:FuncId}{cs:List AV}{ys:List (List AV)}(hf:ev st f=.fn (.func g) [] cs)(hit:qny P g cs ps.size ys)(hps:∀p∈ps.toList,p<st.n)(hL0:st.H.L st.N=none)
  (I:Nat→Qf→Nat→Prop) (F:Code→Qf→Nat→Prop) (hI:∀k H N H',H'.b=H.b→I k H N→I k H' N) (hF:∀j H N H',H'.b=H.b→F j H N→F j H' N) (h0:I 0 st.H (st.N+1))
  (step:∀(k:Nat) (hk:k<ys.length) (H:Qf) (N:Nat),I k H N→Zv P false as1 (asK P body I F k H) ⟨st.n,XC st.env ps.toList ys[k],H,N⟩)
  (hend:∀H' N',H'.L=st.H.L→I ys.length H' N'→Q .normal ⟨st.n,st.env,H',N'⟩) (hj:∀j H' N',H'.L=st.H.L→F j H' N'→∃e,Ky e=some (some j)∧Q e ⟨st.n,st.env,H',N'⟩):Kn P true (.rangeFunc f ps as1 body) st Q:=by
 refine Qe.rangeFunc hf ?_;have hLL:∀H':Qf,(∀i,i≠st.N→H'.L i=st.H.L i)→(H'.Je st.N none).L=st.H.L:=fun H' h=>by
  funext i;simp only[Qf.Je];split
  ·rename_i e;subst e;exact hL0.symm
  ·rename_i e;exact h i e
 have:=hit st.N ⟨st.n,st.env,ps,as1,body,none,false⟩ (st.H.Je st.N (some ⟨st.n,st.env,ps,as1,body,none,false⟩)) (st.N+1) rfl rfl (if_pos rfl) rfl hps
  (fun k H N=>I k H N∧∀i,i≠st.N→H.L i=st.H.L i) (fun j H N=>(∃c,j=some c∧F c H N)∧∀i,i≠st.N→H.L i=st.H.L i)
  ⟨hI _ st.H _ _ rfl h0,fun i hi=>if_neg hi⟩ fun k hk H N ⟨h1,h2⟩ h3=>by
   unfold Round;refine(Qd _ _ _ (step k hk H N h1)).mono fun e s1 ⟨a1,a2,a3⟩=>⟨a1,by rw[a2];exact h3,?_⟩;refine(Qd _ _ _ (a3 _ (Qf.WY _ _ _))).mono fun e2 s2 ⟨b1,b2⟩=>?_;refine⟨by rw[b1];exact if_pos rfl,?_⟩;have hl:∀j i,i≠st.N→(s2.H.Je st.N j).L i=st.H.L i:=fun j i hi=>by rw[show(s2.H.Je st.N j).L i=s2.H.L i from if_neg hi,b1,show(s1.H.Je st.N _).L i=s1.H.L i from if_neg hi,a2];exact h2 i hi
   cases hje:Ky e2 with
   | none=>rw[hje]at b2;exact b2.elim
   | some j =>
    rw[hje]at b2;refine⟨j,rfl,?_⟩;cases j with
    | none=>rw[if_pos rfl];exact⟨hI _ s2.H _ _ rfl b2,hl _⟩
    | some c=>rw[if_neg (by simp)];exact⟨⟨c,rfl,hF _ s2.H _ _ rfl b2⟩,hl _⟩
 refine⟨this.1,this.2.mono fun r H' N' h=>?_⟩;rcases h with⟨⟨h1,h2⟩,h3⟩|⟨j,hj0,⟨⟨c,rfl,h1⟩,h2⟩,h3⟩
 ·exact⟨_,h3,rfl,.normal,rfl,hend _ _ (hLL _ h2) (hI _ H' _ _ rfl h1)⟩
 ·obtain⟨e,he,hq⟩:=hj c (H'.Je st.N none) N' (hLL _ h2) (hF _ H' _ _ rfl h1);exact⟨_,h3,rfl,e,he,hq⟩
attribute [simp] qfZ qen qlY qgm qik Qf.qsQ Qf.qq7
end Go.AX
namespace Go.Num
def dg(n:Nat):List UInt8:=if n<10 then[(48+n).toUInt8]else dg (n/10)++[(48+n%10).toUInt8]
termination_by n
decreasing_by omega
theorem QN{n:Nat}(h:n<10):dg n=[(48+n).toUInt8]:=by rw[dg];simp[h]
theorem JV{n:Nat}(h:10≤n):dg n=dg (n/10)++[(48+n%10).toUInt8]:=by rw[dg];simp[Nat.not_lt.2 h]
def val(l:List UInt8):Nat:=l.foldl (fun a b=>a*10+(b.toNat-48)) 0
theorem Kf(l:List UInt8)(b:UInt8):val (l++[b])=val l*10+(b.toNat-48):=by simp[val]
theorem ZT{k:Nat}(h:k<10):((48+k).toUInt8).toNat=48+k:=by simp[Nat.toUInt8,UInt8.toNat_ofNat];omega
theorem Kk(n:Nat):val (dg n)=n:=by
 induction n using Nat.strongRecOn with
 | _ n ih =>
  by_cases h:n<10
  ·rw[QN h];simp only[val,List.foldl_cons,List.foldl_nil];rw[ZT h];omega
  ·rw[JV (by omega),Kf,ih _ (by omega),ZT (by omega)];omega
theorem qia{a b:Nat}(h:dg a=dg b):a=b:=by rw[←Kk a,h,Kk]
theorem qod(n:Nat):dg n≠[]:=by rw[dg];split<;>simp
def isD(b:UInt8):Bool:=decide (48≤b.toNat)&&decide (b.toNat≤57)
theorem ZW{b:UInt8}:isD b=true↔48≤b.toNat∧b.toNat≤57:=by simp[isD]
theorem YA(n:Nat):∀b∈dg n,isD b=true:=by
 induction n using Nat.strongRecOn with
 | _ n ih =>
  intro b hb;by_cases h:n<10
  ·rw[QN h]at hb;simp only[List.mem_singleton]at hb;subst hb;rw[ZW,ZT h];omega
  ·rw[JV (by omega)]at hb;rcases List.mem_append.1 hb with hb|hb
   ·exact ih _ (by omega) b hb
   ·simp only[List.mem_singleton]at hb;subst hb;rw[ZW,ZT (by omega)];omega
theorem XA{n:Nat}(h:0<n):∃b l,dg n=b::l∧49≤b.toNat∧b.toNat≤57:=by
 induction n using Nat.strongRecOn with
 | _ n ih =>
  by_cases h':n<10
  ·exact⟨_,[],QN h',by rw[ZT h'];omega,by rw[ZT h'];omega⟩
  ·obtain⟨b,l,e,h1,h2⟩:=ih (n/10) (by omega) (by omega);exact⟨b,l++[(48+n%10).toUInt8],by rw[JV (by omega),e];rfl,h1,h2⟩
def nd(n:Nat):Nat:=(dg n).length
theorem YC(n:Nat):0<nd n:=List.length_pos_iff.2 (qod n)
theorem Zo{n:Nat}(h:n<10):nd n=1:=by simp[nd,QN h]
theorem qoN{n:Nat}(h:10≤n):nd n=nd (n/10)+1:=by simp[nd,JV h]
theorem YF{n k:Nat}(hk:0<k):nd n≤k↔n<10^k:=by
 induction k generalizing n with
 | zero=>omega
 | succ k ih =>
  by_cases h:n<10
  ·rw[Zo h];have:10^1≤10^(k+1):=Nat.pow_le_pow_right (by omega) (by omega);omega
  ·rw[qoN (by omega)];by_cases hk0:k=0
   ·subst hk0;have:=YC (n/10);omega
   ·have:=ih (n:=n/10) (by omega);have e:10^(k+1)=10^k*10:=Nat.pow_succ ..;rw[Nat.add_le_add_iff_right,this,e,Nat.div_lt_iff_lt_mul (by omega)]
theorem Zs{m n:Nat}(h:m≤n):nd m≤nd n:=(YF (YC n)).2 (Nat.lt_of_le_of_lt h ((YF (YC n)).1 (Nat.le_refl _)))
theorem XW(n:Nat):n<10^nd n:=(YF (YC n)).1 (Nat.le_refl _)
theorem qmX{l:List UInt8}(h:∀b∈l,isD b=true)(h1:∃b t,l=b::t∧(b.toNat≠48∨t=[])):dg (val l)=l:=by
 have key:∀(k:Nat) (l:List UInt8),l.length=k→(∀b∈l,isD b=true)→(∃b t,l=b::t∧(b.toNat≠48∨t=[]))→dg (val l)=l:=by
  intro k;induction k with
  | zero=>rintro l hl _ ⟨b,t,rfl,_⟩;simp at hl
  | succ k ih =>
   rintro l hl hd ⟨b,t,rfl,hb⟩;have hdb:=ZW.1 (hd b (by simp));rcases List.eq_nil_or_concat t with rfl|⟨t',c,rfl⟩
   ·have:val [b]=b.toNat-48:=by simp[val]
    rw[this,QN (by omega)];congr 1;rw[show 48+(b.toNat-48)=b.toNat by omega];simp[Nat.toUInt8]
   ·rw[List.concat_eq_append]at *;have hc:=ZW.1 (hd c (by simp));have hb':b.toNat≠48:=by rcases hb with h|h;exact h;simp at h
    have hv:val (b::(t'++[c]))=val (b::t')*10+(c.toNat-48):=by rw[←List.cons_append,Kf]
    have ih':=ih (b::t') (by simp at hl⊢;omega) (fun x hx=>hd x (by simp at hx⊢;rcases hx with h|h;exact .inl h;exact .inr (.inl h))) ⟨b,t',rfl,.inl hb'⟩;have hpos:0<val (b::t'):=by
     rcases Nat.eq_zero_or_pos (val (b::t'))with h0|h0
     ·rw[h0,QN (by omega)]at ih';injection ih' with e1 e2;have:=congrArg UInt8.toNat e1;rw[ZT (by omega)]at this;omega
     ·exact h0
    rw[hv,JV (by omega),show(val (b::t')*10+(c.toNat-48))/10=val (b::t') by omega,ih',show 48+(val (b::t')*10+(c.toNat-48))%10=c.toNat by omega];simp[Nat.toUInt8]
 exact key _ l rfl h h1
def bs(l:List UInt8):ByteArray:=⟨l.toArray⟩
theorem QB(l:List UInt8):(bs l).size=l.length:=by simp[bs,ByteArray.size]
theorem Z8{a b:List UInt8}:bs a=bs b↔a=b:=by
 constructor
 ·intro h;have:=congrArg (fun x:ByteArray=>x.data.toList) h;simpa[bs]using this
 ·rintro rfl;rfl
theorem JG(a b:List UInt8):bs a++bs b=bs (a++b):=by apply ByteArray.ext;simp[bs,ByteArray.data_append]
def il(z:Int):List UInt8:=if z<0 then 45::dg z.natAbs else dg z.natAbs
theorem JU{n:Nat}{l:List UInt8}:dg n≠45::l:=by intro h;have:=YA n 45 (by rw[h];simp);simp[isD]at this
theorem K7{a b:Int}(h:il a=il b):a=b:=by
 unfold il at h;split at h<;>split at h
 ·injection h with _ h;have:=qia h;omega
 ·exact absurd h.symm JU
 ·exact absurd h JU
 ·have:=qia h;omega
def lb(B n:Nat):List Nat:=if h:n=0∨B≤1 then[]else n%B::lb B (n/B)
termination_by n
decreasing_by exact Nat.div_lt_self (by omega) (by omega)
theorem Zh(B:Nat):lb B 0=[]:=by rw[lb];simp
theorem Zy{B n:Nat}(hB:1<B)(h:0<n):lb B n=n%B::lb B (n/B):=by rw[lb];simp[show ¬(n=0∨B≤1) by omega]
def lv(B:Nat):List Nat→Nat
 | []=>0
 | x::l=>x+B*lv B l
theorem Yo{B:Nat}(hB:1<B)(n:Nat):lv B (lb B n)=n:=by
 induction n using Nat.strongRecOn with
 | _ n ih =>
  by_cases h:n=0
  ·subst h;rw[Zh];rfl
  ·rw[Zy hB (by omega),lv,ih _ (Nat.div_lt_self (by omega) hB)];exact Nat.mod_add_div n B
theorem YN{B:Nat}(hB:1<B)(n:Nat):∀x∈lb B n,x<B:=by
 induction n using Nat.strongRecOn with
 | _ n ih =>
  intro x hx;by_cases h:n=0
  ·subst h;rw[Zh]at hx;cases hx
  ·rw[Zy hB (by omega)]at hx;rcases List.mem_cons.1 hx with rfl|hx
   ·exact Nat.mod_lt _ (by omega)
   ·exact ih _ (Nat.div_lt_self (by omega) hB) x hx
def cutz:List Nat→List Nat
 | []=>[]
 | x::l=>if x=0∧cutz l=[]then[]else x::cutz l
theorem qh4(B:Nat)(l:List Nat):lv B (cutz l)=lv B l:=by
 induction l with
 | nil=>rfl
 | cons x l ih =>
  unfold cutz;split
  ·rename_i h;rw[h.2]at ih;simp only[lv]at ih⊢;rw[←ih,h.1];simp
  ·simp only[lv,ih]
theorem ZO{B:Nat}(hB:1<B):∀l:List Nat,(∀x∈l,x<B)→cutz l=lb B (lv B l):=by
 intro l;induction l with
 | nil=>intro _;rw[show lv B []=0 from rfl,Zh];rfl
 | cons x l ih =>
  intro h;have hx:=h x (by simp);have ih:=ih fun y hy=>h y (by simp[hy]);unfold cutz;split
  ·rename_i he;have h0:lv B l=0:=by rw[←qh4,he.2];rfl
   simp[lv,h0,Zh,he.1]
  ·rename_i hne;rw[ih]at hne⊢;have hpos:0<x+B*lv B l:=by
    rcases Nat.eq_zero_or_pos x with rfl|h'
    ·rcases Nat.eq_zero_or_pos (lv B l)with h0|h0
     ·rw[h0,Zh]at hne;exact absurd ⟨rfl,rfl⟩ hne
     ·have:=Nat.mul_pos (show 0<B by omega) h0;omega
    ·omega
   simp only[lv];rw[Zy hB hpos,Nat.add_mul_mod_self_left,Nat.mod_eq_of_lt hx,Nat.add_mul_div_left _ _ (by omega),Nat.div_eq_of_lt hx,Nat.zero_add]
theorem ZM(B:Nat)(a b:List Nat):lv B (a++b)=lv B a+B^a.length*lv B b:=by
 induction a with
 | nil=>simp[lv]
 | cons x a ih=>simp only[List.cons_append,lv,ih,List.length_cons,Nat.pow_succ];rw[Nat.mul_add,←Nat.mul_assoc,Nat.mul_comm B (B^a.length),Nat.add_assoc]
theorem Wq{B:Nat}(l:List Nat)(h:∀x∈l,x<B):lv B l<B^l.length:=by
 induction l with
 | nil=>simp[lv]
 | cons x l ih =>have h1:=ih fun y hy=>h y (by simp[hy]);have hx:=h x (by simp);simp only[lv,List.length_cons,Nat.pow_succ];have:=Nat.mul_le_mul_left B (show lv B l+1≤B^l.length from h1);rw[Nat.mul_add,Nat.mul_one]at this;rw[Nat.mul_comm (B^l.length) B];omega
end Go.Num
namespace Go.AX.Run
open Go.RowKit Go.Proofs Go.AX Go.Num Tryz
section
def nl(xs:List Nat):List (List AV):=xs.map fun x:Nat=>[.v (.int .i64 (x:Int))]
theorem QJ(xs:List Nat):(nl xs).length=xs.length:=by simp[nl]
theorem K8(xs:List Nat)(i:Nat)(h:i<xs.length):(nl xs)[i]?=some [.v (.int .i64 (xs[i]:Int))]:=by simp[nl,h]
theorem Q7(xs:List Nat)(i:Nat)(h:i<(nl xs).length):(nl xs)[i]=[.v (.int .i64 ((xs[i]'(by simpa[nl]using h):Nat):Int))]:=by simp[nl]
theorem Jy(xs:List Nat)(n:Nat):(nl xs).take n=nl (xs.take n):=by simp[nl,List.map_take]
theorem Qo(xs:List Nat):Qu 9 (.ro (nl xs))=true:=by simp[Qu,nl]
theorem KC{H:Qf}{F G:Nat→Prop}{xs:List Nat}:∀q∈nl xs,∀c∈q,Frz H F G c c:=by intro q hq c hc;obtain⟨x,_,rfl⟩:=List.mem_map.1 hq;simp at hc;subst hc;exact .v _
theorem qaI:ZQ prog 3=true:=by kernel_rfl
theorem qaH:prog.cellsOf 3=1:=by kernel_rfl
theorem qhi:Jm prog 3=false:=by kernel_rfl
theorem qai:prog.underlying 82=some (.slice 3):=by kernel_rfl
theorem qgs:azero prog 3=some [.v (.int .i64 0)]:=by kernel_rfl
theorem qdw:prog.bytesOf 3=8:=by kernel_rfl
theorem qd8:zlen prog 3=true:=by kernel_rfl
attribute [local simp] qaI qaH qhi qai qgs qdw qd8 alen Qh aload at_ QJ Q7
theorem wrapn{n:Nat}(h:n<9223372036854775808):IntKind.i64.wrap (n:Int)=n:=Ql (by omega) (by omega)
def WJ(xs:List Nat):Nat→Nat
 | 0=>0
 | n+1=>if xs.getD n 0=0 then WJ xs n else n+1
theorem qn9(xs:List Nat)(n:Nat):WJ xs n≤n:=by induction n with|zero=>exact Nat.le_refl _|succ n ih=>simp only[WJ];split<;>omega
theorem qmu(xs:List Nat)(hx:xs.length≤1000000000):Qg prog 177 [.ro (nl xs)] (.ro (nl (xs.take (WJ xs xs.length)))):=by
 refine Qc.body func177 ntmps177 ?_;simp;refine Qp.of (fun(n:Nat) st=>n≤xs.length∧WJ xs xs.length=WJ xs n∧∃env,st=⟨21,env,QQ,0⟩∧env 0=.ro (nl (xs.take n))) (fun n=>n) xs.length ⟨Nat.le_refl _,rfl,_,rfl,by simp⟩ ?_;rintro n _ ⟨hn,hc,env,rfl,h0⟩;cases n with
 | zero =>simp[h0,hc,WJ]
 | succ n =>
  have e0:(xs.take (n+1)).length=n+1:=by simp;omega
  have e1:IntKind.i64.wrap (((n+1:Nat):Int)-1)=n:=by rw[Ql (by omega) (by omega)];omega
  have e2:(0:Int)<((n+1:Nat):Int):=by omega
  have hsl:aslice prog 82 (.ro (nl (xs.take (n+1)))) none (some (.v (.int .i64 (n:Int))))=some (.ro (nl (xs.take n))):=by rw[Xt (e:=3) (l:=0) (h:=n) qai qaI (by intro c hc;rw[Jy ..|>.symm]at hc;simp[nl]at hc;obtain⟨_,_,rfl⟩:=List.mem_map.1 (List.mem_of_mem_take hc);rfl) (V5 rfl (by rw[QJ];omega))];simp[Jy,List.take_take]
  have hm:min (n+1) xs.length=n+1:=by omega
  have hn':n<xs.length:=by omega
  by_cases hz:xs[n]=0
  ·simp[-Int.natCast_add,h0,hm,e1,hz,hsl];exact⟨n,⟨by omega,by rw[hc];simp only[WJ];rw[if_pos (by simp[hn',hz])],rfl⟩,by omega⟩
  ·have hz':¬((xs[n]:Nat):Int)=0:=by omega
   simp[-Int.natCast_add,h0,hm,e1,hz,hsl,hc,WJ,hn']
theorem qh6(xs:List Nat)(x:Nat):cutz (xs++[x])=if x=0 then cutz xs else xs++[x]:=by
 induction xs with
 | nil=>simp[cutz]
 | cons y xs ih =>simp only[List.cons_append,cutz,ih];by_cases h:x=0<;>simp[h]
theorem JM(xs:List Nat):∀n,n≤xs.length→xs.take (WJ xs n)=cutz (xs.take n):=by
 intro n;induction n with
 | zero=>simp[WJ,cutz]
 | succ n ih =>
  intro h;have ih:=ih (by omega);rw[List.take_succ_eq_append_getElem (by omega),qh6];simp only[WJ];have:xs.getD n 0=xs[n]:=by simp[show n<xs.length by omega]
  rw[this];split
  ·exact ih
  ·rw[List.take_succ_eq_append_getElem (by omega)]
theorem Kd(xs:List Nat)(hx:xs.length≤1000000000):Qg prog 177 [.ro (nl xs)] (.ro (nl (cutz xs))):=by have:=qmu xs hx;rwa[JM xs _ (Nat.le_refl _),List.take_length]at this
end
section
attribute [local simp] qaI qaH qhi qai qgs qdw qd8 alen Qh aload at_ QJ Q7
theorem _root_.Go.AX.Qc.frz{P:Program}{f:FuncId}{args args':List AV}{H:Qf}{N:Nat}{Q:AV→Qf→Nat→Prop}{u:AV}{k:Nat}(h:Qg P f args' u)(F:Nat→Prop)[DecidablePred F](hl:args'.length=args.length)
  (ha:∀(j:Nat) (x x':AV),args[j]?=some x→args'[j]?=some x'→Frz H F (fun _=>True) x x') (hd:args'.all (Qu k)=true) (hu:Qu k u=true) (hk:Q u (H.fr F) N):Qc P f args H N Q:=by
 have h2:=h.frame (H:=H.fr F) (N:=N) hd hu;exact⟨h2.1,Qv.args F hl ha (h2.2.mono fun r H' N' ⟨a,b,c⟩=>by subst a b c;exact hk)⟩
theorem K9(xs:List Nat)(i x:Nat):(nl xs).set i [.v (.int .i64 (x:Int))]=nl (xs.set i x):=by simp[nl,List.map_set]
theorem VI(n:Nat):List.replicate n [AV.v (.int .i64 0)]=nl (List.replicate n 0):=by simp[nl]
theorem Zu{n:Nat}{env:Nat→AV}{H:Qf}{N id i v:Nat}{ty:TypeId}{xs:List Nat}{cap:Option Nat}(hH:H.b id=some ⟨ty,1,nl xs,false,cap⟩)(hi:i<xs.length) :
  astore prog ⟨n,env,H,N⟩ 3 (.ptr id 1 i 0) (.v (.int .i64 (v:Int)))=some ⟨n,env,H.set id ⟨ty,1,nl (xs.set i v),false,cap⟩,N⟩:=by
 have hg:(nl xs)[i]?=some [.v (.int .i64 (xs[i]:Int))]:=K8 xs i hi;simp only[astore,hH,qaI,qaH,hg,acells];rw[if_pos ⟨trivial,trivial,trivial,rfl,by simp,by simp[AV.one,Value.oneCell']⟩];simp[WA,K9]
theorem QH{a:Nat}(h:a+1<9223372036854775808):IntKind.i64.wrap ((a:Int)+1)=((a+1:Nat):Int):=by rw[Ql (by omega) (by omega)];rfl
theorem tmn(s:Nat):((s:Nat):Int).tmod 1000000000=((s%1000000000:Nat):Int):=rfl
theorem edn(s:Nat):((s:Nat):Int)/1000000000=((s/1000000000:Nat):Int):=rfl
theorem wadd{a b:Nat}(h:a+b<9223372036854775808):IntKind.i64.wrap ((a:Int)+(b:Int))=((a+b:Nat):Int):=by rw[←Int.natCast_add,wrapn h]
def pc(x y:List Nat):Nat→Nat
 | 0=>0
 | i+1=>(pc x y i+x.getD i 0+y.getD i 0)/1000000000
def po(x y:List Nat)(i:Nat):List Nat:=(List.range i).map fun k=>(pc x y k+x.getD k 0+y.getD k 0)%1000000000
theorem KG(x y:List Nat)(i:Nat):(po x y i).length=i:=by simp[po]
theorem qja(x y:List Nat)(i:Nat):po x y (i+1)=po x y i++[(pc x y i+x.getD i 0+y.getD i 0)%1000000000]:=by simp[po,List.range_succ]
theorem qng(x y:List Nat)(n i:Nat)(h:i<n):(po x y i++List.replicate (n-i) 0).set i ((pc x y i+x.getD i 0+y.getD i 0)%1000000000)=po x y (i+1)++List.replicate (n-(i+1)) 0:=by
 rw[List.set_append_right,KG,qja,Nat.sub_self,show n-i=(n-(i+1))+1 by omega,List.replicate_succ,List.set_cons_zero]
 ·simp
 ·rw[KG];exact Nat.le_refl _
theorem qoX(x y:List Nat)(hx:∀i,x.getD i 0<1000000000)(hy:∀i,y.getD i 0<1000000000)(i:Nat):pc x y i≤1:=by
 induction i with
 | zero=>simp[pc]
 | succ i ih=>simp only[pc];have:=hx i;have:=hy i;omega
theorem JP(m:Int)(h0:0≤m)(h:m≤10000000000):amake prog 82 (.v (.int .i64 m)) (.v (.int .i64 m))=some (3,m.toNat,m.toNat,[.v (.int .i64 0)]):=by simp only[amake,qai,qgs];rw[if_pos ⟨qaI,h0,Int.le_refl _,qaH.symm,by rw[qdw];omega,by omega⟩]
theorem qfs(x y:List Nat)(hx:∀i,x.getD i 0<1000000000)(hy:∀i,y.getD i 0<1000000000)(hl:y.length≤x.length)(hn:x.length≤100000000)(sw:Bool)(hsw:sw=true→y.length<x.length):Qg prog 186 (if sw=true then[.ro (nl y),.ro (nl x)]else[.ro (nl x),.ro (nl y)]) (.ro (nl (cutz (po x y (x.length+1))))):=by
 refine⟨⟨_,_,func186,by kernel_rfl,rfl⟩,(Qv.data (Q:=fun r=>r=(.ro (nl (cutz (po x y (x.length+1)))))) (Qv.QM func186 rfl (by cases sw<;>simp[ntmps186]) (Qd _ _ _ ?_))).mono fun r H N h=>h.2.2⟩;have e1:∀m:Int,0≤m→m≤4000000000→IntKind.i64.wrap m=m:=fun m q1 q2=>Ql (by omega) (by omega);rcases sw with _|_
 ·simp[Nat.not_lt.2 hl,Qs,JP ((x.length:Int)+1) (by omega) (by omega),VI,e1 ((x.length:Int)+1) (by omega) (by omega)];refine Qp.of (fun(i:Nat) st=>i≤x.length+1∧∃env H1,st=⟨54,env,H1,1⟩∧env 0=.ro (nl x)∧env 1=.ro (nl y)∧env 5=.ref 0 1 0 (x.length+1) none∧env 6=.v (.int .i64 (pc x y i:Nat))∧env 20=.v (.int .i64 ((x.length+1:Nat):Int))∧env 21=.v (.int .i64 i) ∧
    H1 0=some ⟨3,1,nl (po x y i++List.replicate (x.length+1-i) 0),false,some (x.length+1)⟩) (fun i=>x.length+1-i) 0
   ⟨by omega,_,_,rfl,rfl,rfl,rfl,rfl,by simp,rfl,by simp[Qf.set,po]⟩ ?_
  rintro i _ ⟨hi,env,H1,rfl,g0,g1,g5,g6,g20,g21,hH⟩;by_cases hiN:i<x.length+1
  ·have hcc:=qoX x y hx hy i;have hx':=hx i;have hy':=hy i;have hstep:∀s:Nat,s=pc x y i+x.getD i 0+y.getD i 0→(po x y i++List.replicate (x.length+1-i) 0).set i (s%1000000000)=po x y (i+1)++List.replicate (x.length+1-(i+1)) 0∧s/1000000000=pc x y (i+1):=by rintro s rfl;exact⟨qng x y _ i hiN,rfl⟩
   have hi1:i+1<9223372036854775808:=by omega
   have hln:i<(po x y i++List.replicate (x.length+1-i) 0).length:=by simp[KG];omega
   by_cases ha:i<x.length
   ·have xa:x.getD i 0=x[i]:=by simp[ha]
    rw[xa]at hstep hx';by_cases hb:i<y.length
    ·have ya:y.getD i 0=y[i]:=by simp[hb]
     rw[ya]at hstep hy';simp[-Int.natCast_add,-Int.natCast_emod,-Int.natCast_ediv,g0,g1,g5,g6,g20,g21,hiN,ha,hb,wadd (show pc x y i+x[i]<9223372036854775808 by omega),wadd (show pc x y i+x[i]+y[i]<9223372036854775808 by omega),wrapn (show(pc x y i+x[i]+y[i])/1000000000<9223372036854775808 by omega),Zj,Ze,tmn,edn,QH hi1,Zu hH hln];obtain⟨q1,q2⟩:=hstep (pc x y i+x[i]+y[i]) (by simp);exact⟨i+1,⟨by omega,_,_,⟨rfl,rfl⟩,by simpa using g0,by simpa using g1,by simpa using g5,congrArg (fun t:Nat=>AV.v (.int .i64 (t:Int))) q2,by simpa using g20,rfl,by rw[←q1];rfl⟩,by omega⟩
    ·have ya:y.getD i 0=0:=by simp[hb]
     rw[ya]at hstep;simp[-Int.natCast_add,-Int.natCast_emod,-Int.natCast_ediv,g0,g1,g5,g6,g20,g21,hiN,ha,hb,wadd (show pc x y i+x[i]<9223372036854775808 by omega),wrapn (show(pc x y i+x[i])/1000000000<9223372036854775808 by omega),Zj,Ze,tmn,edn,QH hi1,Zu hH hln];obtain⟨q1,q2⟩:=hstep (pc x y i+x[i]) (by simp);exact⟨i+1,⟨by omega,_,_,⟨rfl,rfl⟩,by simpa using g0,by simpa using g1,by simpa using g5,congrArg (fun t:Nat=>AV.v (.int .i64 (t:Int))) q2,by simpa using g20,rfl,by rw[←q1];rfl⟩,by omega⟩
   ·have hb:¬i<y.length:=by omega
    have xa:x.getD i 0=0:=by simp[ha]
    have ya:y.getD i 0=0:=by simp[hb]
    rw[xa,ya]at hstep;simp[-Int.natCast_add,-Int.natCast_emod,-Int.natCast_ediv,g0,g1,g5,g6,g20,g21,hiN,ha,hb,wrapn (show(pc x y i)/1000000000<9223372036854775808 by omega),Zj,Ze,tmn,edn,QH hi1,Zu hH hln];obtain⟨q1,q2⟩:=hstep (pc x y i) (by simp);exact⟨i+1,⟨by omega,_,_,⟨rfl,rfl⟩,by simpa using g0,by simpa using g1,by simpa using g5,congrArg (fun t:Nat=>AV.v (.int .i64 (t:Int))) q2,by simpa using g20,rfl,by rw[←q1];rfl⟩,by omega⟩
  ·have hi':i=x.length+1:=by omega
   subst hi';simp[-Int.natCast_add,g0,g1,g5,g6,g20,g21];refine Qc.frz (k:=9) (args':=[.ro (nl (po x y (x.length+1)))]) (Kd _ (by rw[KG];omega)) (fun id=>True) rfl (fun j a a' h1 h2=>?_) (by simp[Qo]) (Qo _) ?_
   ·cases j with
    | zero =>simp at h1 h2;subst h1;subst h2;have:=Frz.KB (H:=H1) (F:=fun _=>True) (G:=fun _=>True) (id:=0) (sz:=1) (off:=0) (len:=x.length+1) (mx:=none) trivial hH rfl (by simp[QJ,KG]) (fun e he=>KC e (List.mem_of_mem_take (by simpa using he)));simpa[Jy,KG,List.take_of_length_le]using this
    | succ j=>simp at h1
   ·simp;exact .dat _ 9 (Qo _)
 ·have hl2:=hsw rfl;simp[hl2,Qs,JP ((x.length:Int)+1) (by omega) (by omega),VI,e1 ((x.length:Int)+1) (by omega) (by omega)];refine Qp.of (fun(i:Nat) st=>i≤x.length+1∧∃env H1,st=⟨54,env,H1,1⟩∧env 0=.ro (nl x)∧env 1=.ro (nl y)∧env 5=.ref 0 1 0 (x.length+1) none∧env 6=.v (.int .i64 (pc x y i:Nat))∧env 20=.v (.int .i64 ((x.length+1:Nat):Int))∧env 21=.v (.int .i64 i) ∧
    H1 0=some ⟨3,1,nl (po x y i++List.replicate (x.length+1-i) 0),false,some (x.length+1)⟩) (fun i=>x.length+1-i) 0
   ⟨by omega,_,_,rfl,rfl,rfl,rfl,rfl,by simp,rfl,by simp[Qf.set,po]⟩ ?_
  rintro i _ ⟨hi,env,H1,rfl,g0,g1,g5,g6,g20,g21,hH⟩;by_cases hiN:i<x.length+1
  ·have hcc:=qoX x y hx hy i;have hx':=hx i;have hy':=hy i;have hstep:∀s:Nat,s=pc x y i+x.getD i 0+y.getD i 0→(po x y i++List.replicate (x.length+1-i) 0).set i (s%1000000000)=po x y (i+1)++List.replicate (x.length+1-(i+1)) 0∧s/1000000000=pc x y (i+1):=by rintro s rfl;exact⟨qng x y _ i hiN,rfl⟩
   have hi1:i+1<9223372036854775808:=by omega
   have hln:i<(po x y i++List.replicate (x.length+1-i) 0).length:=by simp[KG];omega
   by_cases ha:i<x.length
   ·have xa:x.getD i 0=x[i]:=by simp[ha]
    rw[xa]at hstep hx';by_cases hb:i<y.length
    ·have ya:y.getD i 0=y[i]:=by simp[hb]
     rw[ya]at hstep hy';simp[-Int.natCast_add,-Int.natCast_emod,-Int.natCast_ediv,g0,g1,g5,g6,g20,g21,hiN,ha,hb,wadd (show pc x y i+x[i]<9223372036854775808 by omega),wadd (show pc x y i+x[i]+y[i]<9223372036854775808 by omega),wrapn (show(pc x y i+x[i]+y[i])/1000000000<9223372036854775808 by omega),Zj,Ze,tmn,edn,QH hi1,Zu hH hln];obtain⟨q1,q2⟩:=hstep (pc x y i+x[i]+y[i]) (by simp);exact⟨i+1,⟨by omega,_,_,⟨rfl,rfl⟩,by simpa using g0,by simpa using g1,by simpa using g5,congrArg (fun t:Nat=>AV.v (.int .i64 (t:Int))) q2,by simpa using g20,rfl,by rw[←q1];rfl⟩,by omega⟩
    ·have ya:y.getD i 0=0:=by simp[hb]
     rw[ya]at hstep;simp[-Int.natCast_add,-Int.natCast_emod,-Int.natCast_ediv,g0,g1,g5,g6,g20,g21,hiN,ha,hb,wadd (show pc x y i+x[i]<9223372036854775808 by omega),wrapn (show(pc x y i+x[i])/1000000000<9223372036854775808 by omega),Zj,Ze,tmn,edn,QH hi1,Zu hH hln];obtain⟨q1,q2⟩:=hstep (pc x y i+x[i]) (by simp);exact⟨i+1,⟨by omega,_,_,⟨rfl,rfl⟩,by simpa using g0,by simpa using g1,by simpa using g5,congrArg (fun t:Nat=>AV.v (.int .i64 (t:Int))) q2,by simpa using g20,rfl,by rw[←q1];rfl⟩,by omega⟩
   ·have hb:¬i<y.length:=by omega
    have xa:x.getD i 0=0:=by simp[ha]
    have ya:y.getD i 0=0:=by simp[hb]
    rw[xa,ya]at hstep;simp[-Int.natCast_add,-Int.natCast_emod,-Int.natCast_ediv,g0,g1,g5,g6,g20,g21,hiN,ha,hb,wrapn (show(pc x y i)/1000000000<9223372036854775808 by omega),Zj,Ze,tmn,edn,QH hi1,Zu hH hln];obtain⟨q1,q2⟩:=hstep (pc x y i) (by simp);exact⟨i+1,⟨by omega,_,_,⟨rfl,rfl⟩,by simpa using g0,by simpa using g1,by simpa using g5,congrArg (fun t:Nat=>AV.v (.int .i64 (t:Int))) q2,by simpa using g20,rfl,by rw[←q1];rfl⟩,by omega⟩
  ·have hi':i=x.length+1:=by omega
   subst hi';simp[-Int.natCast_add,g0,g1,g5,g6,g20,g21];refine Qc.frz (k:=9) (args':=[.ro (nl (po x y (x.length+1)))]) (Kd _ (by rw[KG];omega)) (fun id=>True) rfl (fun j a a' h1 h2=>?_) (by simp[Qo]) (Qo _) ?_
   ·cases j with
    | zero =>simp at h1 h2;subst h1;subst h2;have:=Frz.KB (H:=H1) (F:=fun _=>True) (G:=fun _=>True) (id:=0) (sz:=1) (off:=0) (len:=x.length+1) (mx:=none) trivial hH rfl (by simp[QJ,KG]) (fun e he=>KC e (List.mem_of_mem_take (by simpa using he)));simpa[Jy,KG,List.take_of_length_le]using this
    | succ j=>simp at h1
   ·simp;exact .dat _ 9 (Qo _)
theorem qsH(x y:List Nat)(i:Nat):lv 1000000000 (po x y i)+1000000000^i*pc x y i=lv 1000000000 (x.take i)+lv 1000000000 (y.take i):=by
 induction i with
 | zero=>simp[po,pc,lv]
 | succ i ih =>
  have key:∀z:List Nat,lv 1000000000 (z.take (i+1))=lv 1000000000 (z.take i)+1000000000^i*z.getD i 0:=by
   intro z;by_cases h:i<z.length
   ·rw[List.take_succ_eq_append_getElem h,ZM];simp[lv,h,Nat.min_eq_left (Nat.le_of_lt h)]
   ·rw[List.take_of_length_le (by omega),List.take_of_length_le (by omega)];simp[h]
  rw[qja,ZM,KG,key,key];simp only[lv,pc,Nat.mul_zero,Nat.add_zero];have:=Nat.mod_add_div (pc x y i+x.getD i 0+y.getD i 0) 1000000000;generalize (pc x y i+x.getD i 0+y.getD i 0)%1000000000=r at *;generalize hq:(pc x y i+x.getD i 0+y.getD i 0)/1000000000=q at *;have e:1000000000^(i+1)*q=1000000000^i*(1000000000*q):=by rw[Nat.pow_succ,Nat.mul_assoc]
  have e2:1000000000^i*r+1000000000^i*(1000000000*q)=1000000000^i*pc x y i+1000000000^i*x.getD i 0+1000000000^i*y.getD i 0:=by rw[←Nat.mul_add,this,Nat.mul_add,Nat.mul_add]
  omega
theorem YR(n i:Nat):(lb 1000000000 n).getD i 0<1000000000:=by
 by_cases h:i<(lb 1000000000 n).length
 ·simp only[List.getD_eq_getElem?_getD,List.getElem?_eq_getElem h,Option.getD_some];exact YN (by decide) n _ (List.getElem_mem h)
 ·simp[h]
theorem qoY(x y:List Nat)(hx:∀i,x.getD i 0<1000000000)(hy:∀i,y.getD i 0<1000000000)(hl:y.length≤x.length):pc x y (x.length+1)=0:=by have:=qoX x y hx hy x.length;simp only[pc];rw[show x.getD x.length 0=0 by simp,show y.getD x.length 0=0 by simp[hl]];omega
theorem qh5(a b:Nat)(hl:(lb 1000000000 b).length≤(lb 1000000000 a).length):cutz (po (lb 1000000000 a) (lb 1000000000 b) ((lb 1000000000 a).length+1))=lb 1000000000 (a+b):=by
 rw[ZO (B:=1000000000) (by decide)]
 ·have h:=qsH (lb 1000000000 a) (lb 1000000000 b) ((lb 1000000000 a).length+1);rw[qoY _ _ (YR a) (YR b) hl,List.take_of_length_le (by omega),List.take_of_length_le (by omega),Yo (by decide),Yo (by decide)]at h;rw[←h,Nat.mul_zero];rfl
 ·intro z hz;simp only[po,List.mem_map]at hz;obtain⟨k,_,rfl⟩:=hz;exact Nat.mod_lt _ (by decide)
def lbs(n:Nat):AV:=.ro (nl (lb 1000000000 n))
def nlb(n:Nat):Nat:=(lb 1000000000 n).length
theorem qi9(a b:Nat)(ha:nlb a≤100000000)(hb:nlb b≤100000000):Qg prog 186 [lbs a,lbs b] (lbs (a+b)):=by
 by_cases hl:nlb b≤nlb a
 ·have:=qfs _ _ (YR a) (YR b) hl ha false (by simp);rw[qh5 a b hl]at this;exact this
 ·have:=qfs _ _ (YR b) (YR a) (by unfold nlb at hl;omega) hb true (fun _=>by unfold nlb at hl;omega);rw[qh5 b a (by unfold nlb at hl;omega),Nat.add_comm b a]at this;exact this
end
section
attribute [local simp] qaI qaH qhi qai qgs qdw qd8 alen Qh aload at_ QJ Q7
def mb(x y:List Nat):Nat→Nat
 | 0=>0
 | i+1=>if x.getD i 0<mb x y i+y.getD i 0 then 1 else 0
def mo(x y:List Nat)(i:Nat):List Nat:=(List.range i).map fun k=>if x.getD k 0<mb x y k+y.getD k 0 then x.getD k 0+1000000000-(mb x y k+y.getD k 0)else x.getD k 0-(mb x y k+y.getD k 0)
theorem WT(x y:List Nat)(i:Nat):(mo x y i).length=i:=by simp[mo]
theorem qiR(x y:List Nat)(i:Nat):mo x y (i+1)=mo x y i++[if x.getD i 0<mb x y i+y.getD i 0 then x.getD i 0+1000000000-(mb x y i+y.getD i 0)else x.getD i 0-(mb x y i+y.getD i 0)]:=by simp[mo,List.range_succ]
theorem qrf(x y:List Nat)(n i:Nat)(h:i<n):(mo x y i++List.replicate (n-i) 0).set i (if x.getD i 0<mb x y i+y.getD i 0 then x.getD i 0+1000000000-(mb x y i+y.getD i 0)else x.getD i 0-(mb x y i+y.getD i 0))=mo x y (i+1)++List.replicate (n-(i+1)) 0:=by
 rw[List.set_append_right,WT,qiR,Nat.sub_self,show n-i=(n-(i+1))+1 by omega,List.replicate_succ,List.set_cons_zero]
 ·simp
 ·rw[WT];exact Nat.le_refl _
theorem qlE(x y:List Nat)(i:Nat):mb x y i≤1:=by
 cases i with
 | zero=>simp[mb]
 | succ i=>simp only[mb];split<;>omega
theorem qiQ(x y:List Nat)(hx:∀i,x.getD i 0<1000000000)(hy:∀i,y.getD i 0<1000000000)(hn:x.length≤100000000)(hny:y.length≤100000000):Qg prog 190 [.ro (nl x),.ro (nl y)] (.ro (nl (cutz (mo x y x.length)))):=by
 refine Qg.body func190 ntmps190 ?_;simp[Qs,JP (x.length:Int) (by omega) (by omega),VI];refine Qp.of (fun(i:Nat) st=>i≤x.length∧∃env H1,st=⟨44,env,H1,1⟩∧env 0=.ro (nl x)∧env 1=.ro (nl y)∧env 5=.ref 0 1 0 x.length none∧env 6=.v (.int .i64 (mb x y i:Nat))∧env 13=.v (.int .i64 ((x.length:Nat):Int))∧env 14=.v (.int .i64 i) ∧
   H1 0=some ⟨3,1,nl (mo x y i++List.replicate (x.length-i) 0),false,some x.length⟩) (fun i=>x.length-i) 0
  ⟨by omega,_,_,rfl,rfl,rfl,rfl,rfl,by simp,rfl,by simp[Qf.set,mo]⟩ ?_
 rintro i _ ⟨hi,env,H1,rfl,g0,g1,g5,g6,g13,g14,hH⟩;by_cases hiN:i<x.length
 ·have hcc:=qlE x y i;have hx':=hx i;have hy':=hy i;have hi1:i+1<9223372036854775808:=by omega
  have hln:i<(mo x y i++List.replicate (x.length-i) 0).length:=by simp[WT];omega
  have xa:x.getD i 0=x[i]:=by simp[hiN]
  have w1:IntKind.i64.wrap ((x[i]:Int)-(mb x y i:Int))=(x[i]:Int)-(mb x y i:Int):=Ql (by omega) (by omega);have hset:=qrf x y _ i hiN;have hmb:mb x y (i+1)=if x.getD i 0<mb x y i+y.getD i 0 then 1 else 0:=rfl
  have w2:IntKind.i64.wrap ((x[i]:Int)-(mb x y i:Int)-(y.getD i 0:Int))=(x[i]:Int)-(mb x y i:Int)-(y.getD i 0:Int):=Ql (by omega) (by omega);have w3:IntKind.i64.wrap ((x[i]:Int)-(mb x y i:Int)-(y.getD i 0:Int)+1000000000)=(x[i]:Int)-(mb x y i:Int)-(y.getD i 0:Int)+1000000000:=Ql (by omega) (by omega);have w4:IntKind.i64.wrap ((x[i]:Int)-(mb x y i:Int)+1000000000)=(x[i]:Int)-(mb x y i:Int)+1000000000:=Ql (by omega) (by omega);rw[xa]at hset hmb;by_cases hb:i<y.length
  ·have ya:y.getD i 0=y[i]:=by simp[hb]
   rw[ya]at hset hmb hy' w2 w3;by_cases hlt:x[i]<mb x y i+y[i]
   ·have c1:(x[i]:Int)-(mb x y i:Int)-(y[i]:Int)<0:=by omega
    have c2:(x[i]:Int)-(mb x y i:Int)-(y[i]:Int)+1000000000=((x[i]+1000000000-(mb x y i+y[i]):Nat):Int):=by omega
    rw[if_pos hlt]at hset hmb;simp[-Int.natCast_add,g0,g1,g5,g6,g13,g14,hiN,hb,w1,w2,w3,c1];rw[c2];simp[-Int.natCast_add,g14,QH hi1,Zu hH hln];exact⟨i+1,⟨by omega,_,_,⟨rfl,rfl⟩,by simpa using g0,by simpa using g1,by simpa using g5,by rw[hmb];rfl,by simpa using g13,rfl,by rw[←hset];rfl⟩,by omega⟩
   ·have c1:¬(x[i]:Int)-(mb x y i:Int)-(y[i]:Int)<0:=by omega
    have c2:(x[i]:Int)-(mb x y i:Int)-(y[i]:Int)=((x[i]-(mb x y i+y[i]):Nat):Int):=by omega
    rw[if_neg hlt]at hset hmb;simp[-Int.natCast_add,g0,g1,g5,g6,g13,g14,hiN,hb,w1,w2,w3,c1];rw[c2];simp[-Int.natCast_add,g14,QH hi1,Zu hH hln];exact⟨i+1,⟨by omega,_,_,⟨rfl,rfl⟩,by simpa using g0,by simpa using g1,by simpa using g5,by rw[hmb];rfl,by simpa using g13,rfl,by rw[←hset];rfl⟩,by omega⟩
  ·have ya:y.getD i 0=0:=by simp[hb]
   rw[ya]at hset hmb;by_cases hlt:x[i]<mb x y i+0
   ·have c1:(x[i]:Int)-(mb x y i:Int)<0:=by omega
    have c2:(x[i]:Int)-(mb x y i:Int)+1000000000=((x[i]+1000000000-(mb x y i+0):Nat):Int):=by omega
    rw[if_pos hlt]at hset hmb;simp[-Int.natCast_add,g0,g1,g5,g6,g13,g14,hiN,hb,w1,w4,c1];rw[c2];simp[-Int.natCast_add,g14,QH hi1,Zu hH hln];exact⟨i+1,⟨by omega,_,_,⟨rfl,rfl⟩,by simpa using g0,by simpa using g1,by simpa using g5,by rw[hmb];rfl,by simpa using g13,rfl,by rw[←hset];rfl⟩,by omega⟩
   ·have c1:¬(x[i]:Int)-(mb x y i:Int)<0:=by omega
    have c2:(x[i]:Int)-(mb x y i:Int)=((x[i]-(mb x y i+0):Nat):Int):=by omega
    rw[if_neg hlt]at hset hmb;simp[-Int.natCast_add,g0,g1,g5,g6,g13,g14,hiN,hb,w1,w4,c1];rw[c2];simp[-Int.natCast_add,g14,QH hi1,Zu hH hln];exact⟨i+1,⟨by omega,_,_,⟨rfl,rfl⟩,by simpa using g0,by simpa using g1,by simpa using g5,by rw[hmb];rfl,by simpa using g13,rfl,by rw[←hset];rfl⟩,by omega⟩
 ·have hi':i=x.length:=by omega
  subst hi';simp[-Int.natCast_add,g0,g5,g13,g14];refine Qc.frz (k:=9) (args':=[.ro (nl (mo x y x.length))]) (Kd _ (by rw[WT];omega)) (fun id=>True) rfl (fun j a a' h1 h2=>?_) (by simp[Qo]) (Qo _) ?_
  ·cases j with
   | zero =>simp at h1 h2;subst h1;subst h2;have:=Frz.KB (H:=H1) (F:=fun _=>True) (G:=fun _=>True) (id:=0) (sz:=1) (off:=0) (len:=x.length) (mx:=none) trivial hH rfl (by simp[QJ,WT]) (fun e he=>KC e (List.mem_of_mem_take (by simpa using he)));simpa[Jy,WT,List.take_of_length_le]using this
   | succ j=>simp at h1
  ·simp;exact .dat _ 9 (Qo _)
theorem qsG(x y:List Nat)(hx:∀i,x.getD i 0<1000000000)(hy:∀i,y.getD i 0<1000000000)(i:Nat):lv 1000000000 (mo x y i)+lv 1000000000 (y.take i)=lv 1000000000 (x.take i)+1000000000^i*mb x y i:=by
 induction i with
 | zero=>simp[mo,mb,lv]
 | succ i ih =>
  have key:∀z:List Nat,lv 1000000000 (z.take (i+1))=lv 1000000000 (z.take i)+1000000000^i*z.getD i 0:=by
   intro z;by_cases h:i<z.length
   ·rw[List.take_succ_eq_append_getElem h,ZM];simp[lv,h,Nat.min_eq_left (Nat.le_of_lt h)]
   ·rw[List.take_of_length_le (by omega),List.take_of_length_le (by omega)];simp[h]
  rw[qiR,ZM,WT,key,key];simp only[lv,mb,Nat.mul_zero,Nat.add_zero];have hxi:=hx i;have hyi:=hy i;have hm:=qlE x y i;generalize hd:(if x.getD i 0<mb x y i+y.getD i 0 then x.getD i 0+1000000000-(mb x y i+y.getD i 0)else x.getD i 0-(mb x y i+y.getD i 0))=d;generalize hc:(if x.getD i 0<mb x y i+y.getD i 0 then 1 else 0)=c;have e0:d+y.getD i 0+mb x y i=x.getD i 0+1000000000*c:=by rw[←hd,←hc];split<;>omega
  have e:=congrArg (1000000000^i*·) e0;simp only[Nat.mul_add]at e;rw[Nat.pow_succ,Nat.mul_assoc];omega
theorem qob(a b:Nat)(hab:b≤a)(hl:(lb 1000000000 b).length≤(lb 1000000000 a).length):cutz (mo (lb 1000000000 a) (lb 1000000000 b) (lb 1000000000 a).length)=lb 1000000000 (a-b):=by
 have hmem:∀z∈mo (lb 1000000000 a) (lb 1000000000 b) (lb 1000000000 a).length,z<1000000000:=by intro z hz;simp only[mo,List.mem_map]at hz;obtain⟨k,_,rfl⟩:=hz;have h1:=YR a k;have h2:=YR b k;have h3:=qlE (lb 1000000000 a) (lb 1000000000 b) k;split<;>omega
 rw[ZO (B:=1000000000) (by decide) _ hmem];have h:=qsG (lb 1000000000 a) (lb 1000000000 b) (YR a) (YR b) (lb 1000000000 a).length;rw[List.take_of_length_le (Nat.le_refl _),List.take_of_length_le hl,Yo (by decide),Yo (by decide)]at h;have hb:=Wq (B:=1000000000) _ hmem;rw[WT]at hb;have hm:=qlE (lb 1000000000 a) (lb 1000000000 b) (lb 1000000000 a).length;rcases Nat.lt_or_ge 0 (mb (lb 1000000000 a) (lb 1000000000 b) (lb 1000000000 a).length)with h1|h1
 ·have:mb (lb 1000000000 a) (lb 1000000000 b) (lb 1000000000 a).length=1:=by omega
  rw[this]at h;omega
 ·rw[Nat.le_zero.1 h1]at h;rw[show a-b=lv 1000000000 (mo (lb 1000000000 a) (lb 1000000000 b) (lb 1000000000 a).length) by omega]
theorem Vh{B a b:Nat}(hB:1<B)(h:a≤b):(lb B a).length≤(lb B b).length:=by
 induction b using Nat.strongRecOn generalizing a with
 | _ b ih =>
  by_cases ha:a=0
  ·subst ha;rw[Zh];simp
  ·rw[Zy (n:=a) hB (by omega),Zy (n:=b) hB (by omega)];have hb0:0<b:=by omega
   have:=ih (b/B) (Nat.div_lt_self hb0 hB) (a:=a/B) (Nat.div_le_div_right (c:=B) h);simp only[List.length_cons];exact Nat.add_le_add_right this 1
theorem qbA(a b:Nat)(hab:b≤a)(ha:nlb a≤100000000):Qg prog 190 [lbs a,lbs b] (lbs (a-b)):=by have hl:=Vh (B:=1000000000) (by decide) hab;have:=qiQ _ _ (YR a) (YR b) ha (Nat.le_trans hl ha);rw[qob a b hab hl]at this;exact this
end
section
attribute [local simp] qaI qaH qhi qai qgs qdw qd8 alen Qh at_ QJ Q7
theorem XV{n:Nat}{env:Nat→AV}{H:Qf}{N id i:Nat}{ty:TypeId}{xs:List Nat}{cap:Option Nat}{fz:Bool}(hH:H.b id=some ⟨ty,1,nl xs,fz,cap⟩)(hi:i<xs.length) :
  aload prog ⟨n,env,H,N⟩ 3 (.ptr id 1 i 0)=some (.v (.int .i64 (xs[i]:Int))):=by
 simp[aload,hH,hi]
theorem ZP{n:Nat}{env:Nat→AV}{H:Qf}{N:Nat}{x:Value}:aload prog ⟨n,env,H,N⟩ 3 (.rop [.v x])=some (.v x):=by simp[aload]
theorem XX{B:Nat}(o:List Nat)(k v:Nat)(h:k<o.length):lv B (o.set k v)+B^k*o[k]=lv B o+B^k*v:=by
 induction o generalizing k with
 | nil=>simp at h
 | cons x o ih =>
  cases k with
  | zero=>simp[lv];omega
  | succ k =>have:=ih k (by simpa using h);simp only[List.set_cons_succ,lv,List.getElem_cons_succ,Nat.pow_succ];have e:=congrArg (B*·) this;simp only[Nat.mul_add]at e;rw[Nat.mul_comm (B^k) B,Nat.mul_assoc,Nat.mul_assoc];omega
theorem Yi{B:Nat}(z:List Nat)(i:Nat)(h:i<z.length):lv B (z.take (i+1))=lv B (z.take i)+B^i*z[i]:=by rw[List.take_succ_eq_append_getElem h,ZM];simp[lv,Nat.min_eq_left (Nat.le_of_lt h)]
theorem qbz{B:Nat}(n:Nat):lv B (List.replicate n 0)=0:=by
 induction n with
 | zero=>rfl
 | succ n ih=>simp[List.replicate_succ,lv,ih]
theorem X7{o:List Nat}{k v B:Nat}(h:∀z∈o,z<B)(hv:v<B):∀z∈o.set k v,z<B:=by
 intro z hz;rcases List.mem_or_eq_of_mem_set hz with h1|h1
 ·exact h z h1
 ·subst h1;exact hv
theorem Jt{o:List Nat}{k v m:Nat}(h:k≠m):(o.set k v).getD m 0=o.getD m 0:=by simp[List.getD_eq_getElem?_getD,List.getElem?_set_ne h]
theorem wmul{a b:Nat}(h:a*b<9223372036854775808):IntKind.i64.wrap ((a:Int)*(b:Int))=((a*b:Nat):Int):=by rw[←Int.natCast_mul,wrapn h]
def tI1(x y:List Nat)(i:Nat)(st:St):Prop:=i≤x.length∧∃env H1 o,st=⟨63,env,H1,1⟩∧env 0=.ro (nl x)∧env 1=.ro (nl y)∧env 5=.ref 0 1 0 (x.length+y.length) none∧env 17=.ro (nl x)∧env 18=.v (.int .i64 ((x.length:Nat):Int))∧env 19=.v (.int .i64 i) ∧
   H1.b 0=some ⟨3,1,nl o,false,some (x.length+y.length)⟩∧o.length=x.length+y.length∧(∀z∈o,z<1000000000)∧lv 1000000000 o=lv 1000000000 (x.take i)*lv 1000000000 y∧∀k,i+y.length≤k→o.getD k 0=0
def tI2(x y:List Nat)(i a:Nat)(j:Nat)(st:St):Prop:=j≤y.length∧∃env H1 o c,st=⟨63,env,H1,1⟩∧env 0=.ro (nl x)∧env 1=.ro (nl y)∧env 5=.ref 0 1 0 (x.length+y.length) none∧env 17=.ro (nl x)∧env 18=.v (.int .i64 ((x.length:Nat):Int))∧env 19=.v (.int .i64 i) ∧
    env 6=.v (.int .i64 i)∧env 7=.v (.int .i64 (a:Nat))∧env 8=.v (.int .i64 (c:Nat))∧env 24=.ro (nl y)∧env 25=.v (.int .i64 ((y.length:Nat):Int))∧env 26=.v (.int .i64 j) ∧
    H1.b 0=some ⟨3,1,nl o,false,some (x.length+y.length)⟩∧o.length=x.length+y.length∧(∀z∈o,z<1000000000)∧c<1000000000 ∧
    lv 1000000000 o+1000000000^(i+j)*c=lv 1000000000 (x.take i)*lv 1000000000 y+1000000000^i*(a*lv 1000000000 (y.take j))∧∀k,i+y.length≤k→o.getD k 0=0
theorem qjP(x y:List Nat)(hx:∀z∈x,z<1000000000)(hy:∀z∈y,z<1000000000)(hn:x.length≤100000000)(hny:y.length≤100000000):Qg prog 151 [.ro (nl x),.ro (nl y)] (lbs (lv 1000000000 x*lv 1000000000 y)):=by
 refine Qg.body func151 ntmps151 ?_;have hs:IntKind.i64.wrap ((x.length:Int)+(y.length:Int))=((x.length+y.length:Nat):Int):=wadd (by omega);simp[-Int.natCast_add,Qs,hs,JP ((x.length+y.length:Nat):Int) (by omega) (by omega),VI];refine Qp.of (tI1 x y) (fun i=>x.length-i) 0
  ⟨by omega,_,_,List.replicate (x.length+y.length) 0,rfl,rfl,rfl,rfl,rfl,rfl,rfl,by simp[Qf.set],by simp,by simp,?_,?_⟩ ?_
 ·simp only[List.take_zero,lv,Nat.zero_mul];exact qbz _
 ·intro k hk;simp[List.getD_eq_getElem?_getD,List.getElem?_replicate];split<;>rfl
 rintro i _ ⟨hi,env,H1,o,rfl,g0,g1,g5,g17,g18,g19,hH,ho,hob,hv,hz⟩;by_cases hiN:i<x.length
 ·simp[-Int.natCast_add,g1,g5,g17,g18,g19,hiN,ZP];refine Qp.of (tI2 x y i x[i]) (fun j=>y.length-j) 0
   ⟨by omega,_,_,o,0,rfl,by simpa using g0,by simpa using g1,by simpa using g5,by simpa using g17,by simpa using g18,by simpa using g19,rfl,rfl,rfl,by simp,rfl,rfl,hH,ho,hob,by omega,by simp[lv,hv],hz⟩ ?_
  rintro j _ ⟨hj,env,H1,o,c,rfl,g0,g1,g5,g17,g18,g19,g6,g7,g8,g24,g25,g26,hH,ho,hob,hc,hv,hz⟩;have hxi:x[i]<1000000000:=hx _ (List.getElem_mem _);by_cases hjN:j<y.length
  ·have hyj:y[j]<1000000000:=hy _ (List.getElem_mem _);have hij:i+j<o.length:=by omega
   have hoi:o[i+j]<1000000000:=hob _ (List.getElem_mem _);have hm:x[i]*y[j]≤999999999*999999999:=Nat.mul_le_mul (by omega) (by omega);have hij':i+j<x.length+y.length:=by omega
   have hs:c+(o[i+j]+x[i]*y[j])<9223372036854775808:=by omega
   simp[-Int.natCast_add,-Int.natCast_mul,-Int.natCast_emod,-Int.natCast_ediv,g1,g5,g6,g7,g8,g24,g25,g26,hjN,ZP,wadd (show i+j<9223372036854775808 by omega),hij',XV hH hij,wmul (show x[i]*y[j]<9223372036854775808 by omega),wadd (show o[i+j]+x[i]*y[j]<9223372036854775808 by omega),wadd hs,
    Zj,Ze,tmn,edn,wrapn (show(c+(o[i+j]+x[i]*y[j]))/1000000000<9223372036854775808 by omega),Zu hH hij,QH (show j+1<9223372036854775808 by omega)]
   refine⟨j+1,⟨by omega,_,_,o.set (i+j) ((c+(o[i+j]+x[i]*y[j]))%1000000000),(c+(o[i+j]+x[i]*y[j]))/1000000000,rfl,by simpa using g0,by simpa using g1,by simpa using g5,by simpa using g17,by simpa using g18,by simpa using g19,by simpa using g6,by simpa using g7,rfl,by simpa using g24,by simpa using g25,rfl,rfl,by simpa using ho,X7 hob (Nat.mod_lt _ (by decide)),?_,?_,fun k hk=>by rw[Jt (by omega)];exact hz k hk⟩,by omega⟩
   ·have:(c+(o[i+j]+x[i]*y[j]))<1000000000*1000000000:=by omega
    exact Nat.div_lt_of_lt_mul this
   ·have h1:=XX (B:=1000000000) o (i+j) ((c+(o[i+j]+x[i]*y[j]))%1000000000) hij;have h2:=Nat.mod_add_div (c+(o[i+j]+x[i]*y[j])) 1000000000;rw[Yi _ _ hjN];generalize (c+(o[i+j]+x[i]*y[j]))%1000000000=r at *;generalize (c+(o[i+j]+x[i]*y[j]))/1000000000=q at *;have e:=congrArg (1000000000^(i+j)*·) h2;simp only[Nat.mul_add]at e;have e2:1000000000^(i+(j+1))*q=1000000000^(i+j)*(1000000000*q):=by rw[←Nat.add_assoc,Nat.pow_succ,Nat.mul_assoc]
    have e3:1000000000^i*(x[i]*(lv 1000000000 (y.take j)+1000000000^j*y[j]))=1000000000^i*(x[i]*lv 1000000000 (y.take j))+1000000000^(i+j)*(x[i]*y[j]):=by rw[Nat.mul_add,Nat.mul_add,Nat.pow_add];congr 1;rw[Nat.mul_left_comm x[i],Nat.mul_assoc]
    rw[e2,e3];omega
  ·have hj':j=y.length:=by omega
   subst hj';have hiy:i+y.length<o.length:=by omega
   have hiy':i+y.length<x.length+y.length:=by omega
   simp[-Int.natCast_add,g1,g5,g19,g6,g8,g24,g25,g26,wadd (show i+y.length<9223372036854775808 by omega),hiy',Zu hH hiy,QH (show i+1<9223372036854775808 by omega)];refine⟨i+1,⟨by omega,_,_,o.set (i+y.length) c,rfl,by simpa using g0,by simpa using g1,by simpa using g5,by simpa using g17,by simpa using g18,rfl,rfl,by simpa using ho,X7 hob hc,?_,fun k hk=>by rw[Jt (by omega)];exact hz k (by omega)⟩,by omega⟩;have h1:=XX (B:=1000000000) o (i+y.length) c hiy;have h0:=hz (i+y.length) (Nat.le_refl _);rw[List.getD_eq_getElem?_getD,List.getElem?_eq_getElem hiy,Option.getD_some]at h0;rw[h0,Nat.mul_zero,Nat.add_zero,hv,List.take_length]at h1;rw[h1,Yi _ _ hiN,Nat.add_mul,Nat.mul_assoc]
 ·have hi':i=x.length:=by omega
  subst hi';simp[-Int.natCast_add,g5,g17,g18,g19];have hcut:cutz o=lb 1000000000 (lv 1000000000 x*lv 1000000000 y):=by rw[ZO (by decide) _ hob,hv,List.take_length]
  have ht:=Kd o (by omega);rw[hcut]at ht;refine Qc.frz (k:=9) (args':=[.ro (nl o)]) ht (fun id=>True) rfl (fun j a a' h1 h2=>?_) (by simp[Qo]) (Qo _) ?_
  ·cases j with
   | zero =>simp at h1 h2;subst h1;subst h2;have:=Frz.KB (H:=H1) (F:=fun _=>True) (G:=fun _=>True) (id:=0) (sz:=1) (off:=0) (len:=x.length+y.length) (mx:=none) trivial hH rfl (by simp[QJ,ho]) (fun e he=>KC e (List.mem_of_mem_take (by simpa using he)));simpa[Jy,List.take_of_length_le,ho]using this
   | succ j=>simp at h1
  ·simp;exact .dat _ 9 (Qo _)
theorem qfJ(a b:Nat)(ha:nlb a≤100000000)(hb:nlb b≤100000000):Qg prog 151 [lbs a,lbs b] (lbs (a*b)):=by have:=qjP _ _ (YN (by decide) a) (YN (by decide) b) ha hb;rw[Yo (by decide),Yo (by decide)]at this;exact this
end
section
attribute [local simp] qaI qaH qhi qai qgs qdw qd8 alen Qh at_ QJ Q7 ZP
theorem qto:ZQ prog 82=true:=by kernel_rfl
theorem qtm:Jm prog 82=false:=by kernel_rfl
theorem qtn:prog.cellsOf 82=1:=by kernel_rfl
attribute [local simp] qto qtm qtn
def bwY(xs:List Nat):List (List AV):=(List.range xs.length).map fun k=>[.v (.int .i64 ((xs.length-1-k:Nat):Int)),.v (.int .i64 ((xs.getD (xs.length-1-k) 0:Nat):Int))]
theorem Kp(xs:List Nat):(bwY xs).length=xs.length:=by simp[bwY]
theorem qa7(xs:List Nat)(k:Nat)(h:k<(bwY xs).length):(bwY xs)[k]=[.v (.int .i64 ((xs.length-1-k:Nat):Int)),.v (.int .i64 ((xs.getD (xs.length-1-k) 0:Nat):Int))]:=by simp[bwY]
theorem JQ(xs:List Nat)(hx:xs.length≤1000000000):qny prog 209 [.rop [.ro (nl xs)]] 2 (bwY xs):=by
 intro id r H N hp hb hL hs hps I F h0 step;refine⟨⟨_,_,func209,by kernel_rfl,rfl⟩,Qv.QM func209 rfl (by simp[ntmps209]) (Qe.seq (Qd _ _ _ ?_))⟩;simp[aload];refine Qe.block (Qe.loop (fun(k:Nat) st=>∃env H N,st=⟨19,env,H,N⟩∧k≤xs.length∧env 0=.yl id∧env 1=.rop [.ro (nl xs)]∧env 3=.v (.int .i64 ((k:Int)-1))∧I (xs.length-k) H N∧H.L id=some r) (fun k=>k) xs.length ⟨_,_,_,rfl,Nat.le_refl _,rfl,rfl,by simp;exact Ql (by omega) (by omega),by rw[Nat.sub_self];exact h0,hL⟩ ?_);rintro k _ ⟨env,H,N,rfl,hk,g0,g1,g3,hI,hL⟩;refine Qe.seq (Qd _ _ _ ?_);cases k with
 | zero =>simp[g3];refine .inl ⟨?_,hL⟩;rw[Kp];exact hI
 | succ k =>
  have hk':k<xs.length:=by omega
  have e1:((k+1:Nat):Int)-1=k:=by omega
  rw[e1]at g3;simp[g3];refine Qe.seq (Qe.block (Qe.seq (Qe.QW (K:=fun st=>∃env,st=⟨19,env,H,N⟩∧env 0=.yl id∧env 1=.rop [.ro (nl xs)]∧env 3=.v (.int .i64 (k:Int))∧env 11=.yl id∧env 12=.v (.int .i64 (k:Int))∧env 16=.v (.int .i64 (xs[k]:Int))) 6 ?_ ?_)))
  ·simp[g0,g1,g3,hk',aload]
  ·rintro _ ⟨env,rfl,g0,g1,g3,g11,g12,g16⟩;simp;refine Qx.yield (id:=id) (r:=r) rfl rfl rfl g11 hL hp hb (by simp[hs]) hps ?_;have hst:=step (xs.length-(k+1)) (by rw[Kp];omega) H N hI hL;rw[qa7,show xs.length-1-(xs.length-(k+1))=k by omega,show xs.getD k 0=xs[k] by simp[hk'],show xs.length-(k+1)+1=xs.length-k by omega]at hst;unfold Round at hst;simp[g12,g16];refine hst.mono fun e s1 ⟨a1,a2,a3⟩=>⟨a1,a2,a3.mono fun e2 s2 ⟨b1,j,b2,b3⟩=>⟨b1,j,b2,?_⟩⟩;refine⟨_,rfl,Z0 _ _ _ ?_⟩;cases j with
   | none =>
    simp;refine Qe.cond (b:=false) rfl (Qe.skip ?_);refine Qd _ _ _ ?_;have hw:IntKind.i64.wrap ((k:Int)-1)=(k:Int)-1:=Ql (by omega) (by omega);have hr:({ r with pend:=none }:Zw)=r:=by cases r;simp at hp;subst hp;rfl
    rw[if_pos rfl]at b3;simp[g3,hw];exact⟨k,⟨_,_,_,⟨rfl,rfl,rfl⟩,by omega,by simpa using g0,by simpa using g1,rfl,b3,by simpa[Qf.Je]using hr⟩,by omega⟩
   | some j =>simp;refine Qe.cond (b:=true) rfl (Qe.ret ?_);rw[if_neg (by simp)]at b3;simp;exact .inr ⟨some j,by simp,b3,by simp[Qf.Je]⟩
def bwV(xs:List Nat):AV:=.fn (.func 209) [] [.rop [.ro (nl xs)]]
theorem qa6(xs:List Nat):Qu 9 (bwV xs)=true:=by simp[bwV,Qu,nl]
theorem JR(xs:List Nat):Qg prog 182 [.ro (nl xs)] (bwV xs):=by
 refine Qg.body func182 ntmps182 ?_;simp[aptr,Qs,acells];refine Frz.fn _ _ _ _ _ (fun _=>.v undef) (fun _=>.ptr 0 1 0 0) rfl rfl (fun j x' h=>by simp at h) (fun j x' h=>by simp at h) (fun j x' h=>?_) (fun j x' h=>?_)
 ·cases j with
  | zero=>simp
  | succ j=>simp at h
 ·cases j with
  | zero =>simp at h;subst h;exact .cell 0 1 0 0 ⟨82,1,[[.ro (nl xs)]],false,some 1⟩ [.ro (nl xs)] [.ro (nl xs)] trivial (by simp[Qf.set]) rfl rfl rfl (fun _=>.ro (nl xs)) (fun j x h=>by cases j<;>simp at h⊢ ;try exact h.symm) (fun j x h=>by cases j<;>simp at h;subst h;exact .dat _ 9 (Qo _))
  | succ j=>simp at h
end
end Go.AX.Run
namespace Go.AX.Run
open Go.RowKit Go.Proofs Go.AX Tryz
abbrev TyF(t:TypeId)(a:Bool)(c b:Nat):Prop:=ZQ prog t=true∧Jm prog t=a∧prog.cellsOf t=c∧prog.bytesOf t=b
abbrev TyZ(t:TypeId)(a:Bool)(c b:Nat)(z:List AV)(l:Bool):Prop:=ZQ prog t=true∧Jm prog t=a∧prog.cellsOf t=c∧prog.bytesOf t=b∧azero prog t=some z∧zlen prog t=l
theorem tyF{t:TypeId}{a:Bool}{c b:Nat}(h:(ZQ prog t,Jm prog t,prog.cellsOf t,prog.bytesOf t)=(true,a,c,b)):TyF t a c b:=by simp only[Prod.mk.injEq]at h;exact h
theorem tyZ{t:TypeId}{a:Bool}{c b:Nat}{z:List AV}{l:Bool}(h:(ZQ prog t,Jm prog t,prog.cellsOf t,prog.bytesOf t,azero prog t,zlen prog t)=(true,a,c,b,some z,l)):TyZ t a c b z l:=by simp only[Prod.mk.injEq]at h;exact h
theorem ty3:TyZ 3 false 1 8 [.v (.int .i64 0)] true:=tyZ (by kernel_rfl)
attribute [simp] ty3
theorem ty4:TyZ 4 false 1 1 [.v (.bool false)] true:=tyZ (by kernel_rfl)
attribute [simp] ty4
theorem ty5:TyZ 5 false 1 1 [.v (.int .u8 0)] true:=tyZ (by kernel_rfl)
attribute [simp] ty5
attribute [simp] underlying7
attribute [simp] underlying8
theorem ty9:TyZ 9 false 1 16 [.v (.string ByteArray.empty)] true:=tyZ (by kernel_rfl)
attribute [simp] ty9
attribute [simp] underlying13
attribute [simp] underlying14
attribute [simp] underlying18
attribute [simp] underlying19
theorem quv:TyZ 22 false 1 24 [.v (.slice none 0 0)] true:=tyZ (by kernel_rfl)
attribute [simp] quv underlying22
theorem quw:TyZ 23 false 1 16 [.v (.string ByteArray.empty)] true:=tyZ (by kernel_rfl)
attribute [simp] quw
attribute [simp] underlying24
theorem qux:TyZ 25 true 2 40 [.v (.slice none 0 0),.v (.string ByteArray.empty)] true:=tyZ (by kernel_rfl)
attribute [simp] qux underlying25
theorem quy:TyZ 26 false 1 24 [.v (.slice none 0 0)] true:=tyZ (by kernel_rfl)
attribute [simp] quy underlying26
attribute [simp] underlying32
theorem quz:TyZ 33 true 5 96 [.v (.int .i64 0),.v (.string ByteArray.empty),.v (.slice none 0 0),.v (.slice none 0 0),.v (.slice none 0 0)] true:=tyZ (by kernel_rfl)
attribute [simp] quz underlying33
theorem quA:TyZ 34 false 1 8 [.v (.int .i64 0)] true:=tyZ (by kernel_rfl)
attribute [simp] quA
theorem quB:TyZ 37 false 1 24 [.v (.slice none 0 0)] true:=tyZ (by kernel_rfl)
attribute [simp] quB underlying37
theorem quC:TyZ 38 false 1 16 [.v (.string ByteArray.empty)] true:=tyZ (by kernel_rfl)
attribute [simp] quC
attribute [simp] underlying39
theorem quD:TyZ 40 true 4 64 [.v (.int .i64 0),.v (.slice none 0 0),.v (.string ByteArray.empty),.v (.string ByteArray.empty)] true:=tyZ (by kernel_rfl)
attribute [simp] quD underlying40
attribute [simp] underlying44
theorem quE:TyZ 62 false 1 8 [.v (.pointer none)] true:=tyZ (by kernel_rfl)
attribute [simp] quE
attribute [simp] underlying63
theorem quF:TyZ 64 true 1 8 [.v (.int .i64 0)] true:=tyZ (by kernel_rfl)
attribute [simp] quF underlying64
attribute [simp] underlying67
attribute [simp] underlying69
theorem quG:TyZ 70 true 2 16 [.v (.int .i64 0),.v (.int .i64 0)] true:=tyZ (by kernel_rfl)
attribute [simp] quG underlying70
theorem quH:TyZ 82 false 1 24 [.v (.slice none 0 0)] true:=tyZ (by kernel_rfl)
attribute [simp] quH underlying82
theorem quI:TyF 83 false 1 8:=tyF (by kernel_rfl)
attribute [simp] quI
theorem quJ:TyZ 89 false 1 8 [.v (.pointer none)] true:=tyZ (by kernel_rfl)
attribute [simp] quJ
attribute [simp] underlying91
theorem quK:TyZ 92 true 6 104 [.v (.pointer none),.v (.int .i64 0),.v (.string ByteArray.empty),.v (.slice none 0 0),.v (.slice none 0 0),.v (.slice none 0 0)] true:=tyZ (by kernel_rfl)
attribute [simp] quK underlying92
attribute [simp] underlying93
theorem quL:TyZ 94 true 1 8 [.v (.int .i64 0)] true:=tyZ (by kernel_rfl)
attribute [simp] quL underlying94
theorem quM:TyZ 95 false 1 24 [.v (.slice none 0 0)] true:=tyZ (by kernel_rfl)
attribute [simp] quM underlying95
theorem quN:TyZ 96 false 1 24 [.v (.slice none 0 0)] true:=tyZ (by kernel_rfl)
attribute [simp] quN underlying96
attribute [simp] underlying97
theorem quO:TyZ 98 true 7 136 [.v (.int .i64 0),.v (.int .i64 0),.v (.slice none 0 0),.v (.slice none 0 0),.v (.slice none 0 0),.v (.slice none 0 0),.v (.slice none 0 0)] true:=tyZ (by kernel_rfl)
attribute [simp] quO underlying98
theorem qsW:TyF 106 false 1 8:=tyF (by kernel_rfl)
attribute [simp] qsW
theorem qsX:TyZ 116 false 1 24 [.v (.slice none 0 0)] true:=tyZ (by kernel_rfl)
attribute [simp] qsX underlying116
attribute [simp] underlying120
theorem qsY:TyZ 121 true 2 40 [.v (.string ByteArray.empty),.v (.slice none 0 0)] true:=tyZ (by kernel_rfl)
attribute [simp] qsY underlying121
theorem qsZ:TyZ 122 false 1 8 [.v (.pointer none)] true:=tyZ (by kernel_rfl)
attribute [simp] qsZ
attribute [simp] underlying136
theorem qs0:TyZ 137 true 2 32 [.v (.bool false),.v (.slice none 0 0)] true:=tyZ (by kernel_rfl)
attribute [simp] qs0 underlying137
attribute [simp] underlying163
theorem qrR:TyZ 164 true 256 256 [.v (.bool false),.v (.bool false),.v (.bool false),.v (.bool false),.v (.bool false),.v (.bool false),.v (.bool false),.v (.bool false),.v (.bool false),.v (.bool false),.v (.bool false),.v (.bool false),.v (.bool false),.v (.bool false),.v (.bool false),.v (.bool false),.v (.bool false),.v (.bool false),.v (.bool false),.v (.bool false),.v (.bool false),.v (.bool false),.v (.bool false),.v (.bool false),.v (.bool false),.v (.bool false),.v (.bool false),.v (.bool false),.v (.bool false),.v (.bool false),.v (.bool false),.v (.bool false),.v (.bool false),.v (.bool false),.v (.bool false),.v (.bool false),.v (.bool false),.v (.bool false),.v (.bool false),.v (.bool false),.v (.bool false),.v (.bool false),.v (.bool false),.v (.bool false),.v (.bool false),.v (.bool false),.v (.bool false),.v (.bool false),.v (.bool false),.v (.bool false),.v (.bool false),.v (.bool false),.v (.bool false),.v (.bool false),.v (.bool false),.v (.bool false),.v (.bool false),.v (.bool false),.v (.bool false),.v (.bool false),.v (.bool false),.v (.bool false),.v (.bool false),.v (.bool false),.v (.bool false),.v (.bool false),.v (.bool false),.v (.bool false),.v (.bool false),.v (.bool false),.v (.bool false),.v (.bool false),.v (.bool false),.v (.bool false),.v (.bool false),.v (.bool false),.v (.bool false),.v (.bool false),.v (.bool false),.v (.bool false),.v (.bool false),.v (.bool false),.v (.bool false),.v (.bool false),.v (.bool false),.v (.bool false),.v (.bool false),.v (.bool false),.v (.bool false),.v (.bool false),.v (.bool false),.v (.bool false),.v (.bool false),.v (.bool false),.v (.bool false),.v (.bool false),.v (.bool false),.v (.bool false),.v (.bool false),.v (.bool false),.v (.bool false),.v (.bool false),.v (.bool false),.v (.bool false),.v (.bool false),.v (.bool false),.v (.bool false),.v (.bool false),.v (.bool false),.v (.bool false),.v (.bool false),.v (.bool false),.v (.bool false),.v (.bool false),.v (.bool false),.v (.bool false),.v (.bool false),.v (.bool false),.v (.bool false),.v (.bool false),.v (.bool false),.v (.bool false),.v (.bool false),.v (.bool false),.v (.bool false),.v (.bool false),.v (.bool false),.v (.bool false),.v (.bool false),.v (.bool false),.v (.bool false),.v (.bool false),.v (.bool false),.v (.bool false),.v (.bool false),.v (.bool false),.v (.bool false),.v (.bool false),.v (.bool false),.v (.bool false),.v (.bool false),.v (.bool false),.v (.bool false),.v (.bool false),.v (.bool false),.v (.bool false),.v (.bool false),.v (.bool false),.v (.bool false),.v (.bool false),.v (.bool false),.v (.bool false),.v (.bool false),.v (.bool false),.v (.bool false),.v (.bool false),.v (.bool false),.v (.bool false),.v (.bool false),.v (.bool false),.v (.bool false),.v (.bool false),.v (.bool false),.v (.bool false),.v (.bool false),.v (.bool false),.v (.bool false),.v (.bool false),.v (.bool false),.v (.bool false),.v (.bool false),.v (.bool false),.v (.bool false),.v (.bool false),.v (.bool false),.v (.bool false),.v (.bool false),.v (.bool false),.v (.bool false),.v (.bool false),.v (.bool false),.v (.bool false),.v (.bool false),.v (.bool false),.v (.bool false),.v (.bool false),.v (.bool false),.v (.bool false),.v (.bool false),.v (.bool false),.v (.bool false),.v (.bool false),.v (.bool false),.v (.bool false),.v (.bool false),.v (.bool false),.v (.bool false),.v (.bool false),.v (.bool false),.v (.bool false),.v (.bool false),.v (.bool false),.v (.bool false),.v (.bool false),.v (.bool false),.v (.bool false),.v (.bool false),.v (.bool false),.v (.bool false),.v (.bool false),.v (.bool false),.v (.bool false),.v (.bool false),.v (.bool false),.v (.bool false),.v (.bool false),.v (.bool false),.v (.bool false),.v (.bool false),.v (.bool false),.v (.bool false),.v (.bool false),.v (.bool false),.v (.bool false),.v (.bool false),.v (.bool false),.v (.bool false),.v (.bool false),.v (.bool false),.v (.bool false),.v (.bool false),.v (.bool false),.v (.bool false),.v (.bool false),.v (.bool false),.v (.bool false),.v (.bool false),.v (.bool false),.v (.bool false),.v (.bool false),.v (.bool false),.v (.bool false),.v (.bool false),.v (.bool false),.v (.bool false),.v (.bool false),.v (.bool false),.v (.bool false),.v (.bool false),.v (.bool false),.v (.bool false),.v (.bool false),.v (.bool false),.v (.bool false),.v (.bool false),.v (.bool false)] true:=tyZ (by kernel_rfl)
attribute [simp] qrR underlying164
attribute [simp] underlying169
theorem qs1:TyF 172 false 1 8:=tyF (by kernel_rfl)
attribute [simp] qs1
attribute [simp] underlying173
theorem qs2:TyF 174 true 2 16:=tyF (by kernel_rfl)
attribute [simp] qs2 underlying174
theorem qs3:TyF 175 true 4 32:=tyF (by kernel_rfl)
attribute [simp] qs3 underlying175
theorem qs4:TyZ 205 false 1 8 [.v (.pointer none)] true:=tyZ (by kernel_rfl)
attribute [simp] qs4
attribute [simp] underlying206
theorem qs5:TyZ 207 true 2 32 [.v (.pointer none),.v (.slice none 0 0)] true:=tyZ (by kernel_rfl)
attribute [simp] qs5 underlying207
attribute [simp] underlying229
theorem qs6:TyZ 230 true 4 64 [.v (.string ByteArray.empty),.v (.string ByteArray.empty),.v (.string ByteArray.empty),.v (.string ByteArray.empty)] true:=tyZ (by kernel_rfl)
attribute [simp] qs6 underlying230
attribute [simp] underlying235
attribute [simp] underlying238
attribute [simp] underlying239
attribute [simp] underlying240
attribute [simp] underlying241
attribute [simp] underlying256
attribute [simp] underlying266
attribute [simp] underlying267
attribute [simp] underlying270
attribute [simp] underlying271
attribute [simp] underlying275
attribute [simp] underlying276
attribute [simp] underlying278
attribute [simp] underlying279
attribute [simp] underlying280
attribute [simp] underlying281
attribute [simp] underlying282
attribute [simp] underlying283
attribute [simp] underlying284
attribute [simp] underlying290
attribute [simp] underlying291
end Go.AX.Run
namespace Go.AX.Run
open Go.RowKit Go.Proofs Go.AX Go.Num Tryz
section
attribute [local simp] qaI qaH qhi qai qgs qdw qd8 alen Qh at_ QJ Q7 ZP qto qtm qtn
def qkm(x y:List Nat):Nat→Int
 | 0=>0
 | k+1=>if x.getD k 0=y.getD k 0 then qkm x y k else(x.getD k 0:Int)-y.getD k 0
def qoW(x y:List Nat):Int:=if x.length=y.length then qkm x y x.length else(x.length:Int)-y.length
theorem qi5(x y:List Nat)(hx:∀z∈x,z<1000000000)(hy:∀z∈y,z<1000000000)(hn:x.length≤100000000)(hny:y.length≤100000000):Qg prog 189 [.ro (nl x),.ro (nl y)] (.v (.int .i64 (qoW x y))):=by
 refine Qg.body func189 ntmps189 ?_;by_cases hl:x.length=y.length
 ·have hl':(x.length:Int)=y.length:=by omega
  simp[aptr,Qs,acells,aload,Qf.set,hl'];refine Qc.pv (JR x) (by simp[Qo]) (qa6 _) ?_;simp;refine Kn.iter (ys:=bwY x) rfl (JQ x (by omega)) (by simp) rfl
   (fun k H' N'=>(H'.b 0=some ⟨82,1,[[.ro (nl y)]],false,some 1⟩∧H'.b 1=some ⟨3,1,[[.v (.int .i64 0)]],false,some 1⟩)∧N'=3∧qkm x y x.length=qkm x y (x.length-k))
   (fun j H' N'=>j=.ret∧H'.b 1=some ⟨3,1,[[.v (.int .i64 (qkm x y x.length))]],false,some 1⟩∧N'=3) ?_ ?_ ?_ ?_ ?_ ?_
  ·rintro k H N H' hb ⟨⟨h1,h2⟩,h3⟩;exact⟨⟨by rw[hb];exact h1,by rw[hb];exact h2⟩,h3⟩
  ·rintro k H N H' hb ⟨h1,h2,h3⟩;exact⟨h1,by rw[hb];exact h2,h3⟩
  ·simp
  ·rintro k hk H N ⟨⟨h1,h2⟩,rfl,h3⟩;simp[qa7];intro H1 hb;have e0:=h1;rw[←hb]at e0;have e1:=h2;rw[←hb]at e1;rw[Kp]at hk;obtain⟨d,hd⟩:∃d,x.length-k=d+1:=⟨x.length-k-1,by omega⟩;have hd1:x.length-1-k=d:=by omega
   have hdx:d<x.length:=by omega
   have hdy:d<y.length:=by omega
   have hd2:x.length-(k+1)=d:=by omega
   rw[hd]at h3;simp only[qkm]at h3;rw[show x.getD d 0=x[d] by simp[hdx],show y.getD d 0=y[d] by simp[hdy]]at h3;have ax:x[d]<1000000000:=hx _ (List.getElem_mem hdx);have ay:y[d]<1000000000:=hy _ (List.getElem_mem hdy);have hw:IntKind.i64.wrap ((x[d]:Int)-y[d])=(x[d]:Int)-y[d]:=Ql (by omega) (by omega);by_cases he:x[d]=y[d]
   ·rw[if_pos he]at h3;simp[aload,e0,e1,hd1,hd2,hdx,hdy,he,h3]
   ·rw[if_neg he]at h3;have he':¬((x[d]:Int)=y[d]):=by omega
    simp[aload,e0,e1,hd1,hd2,hdx,hdy,he',h3,hw,astore,WA,AV.one,Value.oneCell',Qf.set,acells]
  ·rintro H' N' hL ⟨⟨h1,h2⟩,rfl,h3⟩;simp[astore,h2,WA,AV.one,Value.oneCell',Qf.set,acells];rw[Kp,Nat.sub_self]at h3;rw[show qoW x y=0 by rw[qoW,if_pos hl,h3];rfl];exact .dat _ 9 rfl
  ·rintro j H' N' hL ⟨rfl,h2,rfl⟩;refine⟨.ret,rfl,?_⟩;simp[h2];rw[qoW,if_pos hl];exact .dat _ 9 rfl
 ·have hl':¬(x.length:Int)=y.length:=by omega
  have hw:IntKind.i64.wrap ((x.length:Int)-y.length)=(x.length:Int)-y.length:=Ql (by omega) (by omega);simp[aptr,Qs,acells,aload,Qf.set,hl',hw,astore,WA,AV.one,Value.oneCell',qoW,hl];exact .dat _ 9 rfl
theorem YE(B:Nat)(l:List Nat)(x:Nat):lv B (l++[x])=lv B l+B^l.length*x:=by simp[ZM,lv]
theorem qi3(x y:List Nat)(hx:∀z∈x,z<1000000000)(hy:∀z∈y,z<1000000000):∀k,k≤x.length→k≤y.length→(qkm x y k<0↔lv 1000000000 (x.take k)<lv 1000000000 (y.take k))∧(qkm x y k=0↔lv 1000000000 (x.take k)=lv 1000000000 (y.take k)):=by
 intro k;induction k with
 | zero=>intro _ _;simp[qkm]
 | succ k ih =>
  intro h1 h2;obtain⟨i1,i2⟩:=ih (by omega) (by omega);rw[List.take_succ_eq_append_getElem (by omega),List.take_succ_eq_append_getElem (by omega),YE,YE];have l1:=Wq (B:=1000000000) (x.take k) fun z hz=>hx z (List.mem_of_mem_take hz);have l2:=Wq (B:=1000000000) (y.take k) fun z hz=>hy z (List.mem_of_mem_take hz);have e1:(x.take k).length=k:=by simp;omega
  have e2:(y.take k).length=k:=by simp;omega
  rw[e1]at l1⊢;rw[e2]at l2⊢;simp only[qkm];rw[show x.getD k 0=x[k] by simp[show k<x.length by omega],show y.getD k 0=y[k] by simp[show k<y.length by omega]];generalize lv 1000000000 (x.take k)=a at *;generalize lv 1000000000 (y.take k)=b at *;generalize 1000000000^k=p at *;generalize x[k]=u at *;generalize y[k]=v at *;by_cases huv:u=v
  ·subst huv;rw[if_pos rfl,i1,i2];constructor<;>omega
  ·rw[if_neg huv];rcases Nat.lt_or_gt_of_ne huv with h|h
   ·have:=Nat.mul_le_mul_left p (show u+1≤v from h);rw[Nat.mul_add,Nat.mul_one]at this;constructor<;>constructor<;>intro h'<;>omega
   ·have:=Nat.mul_le_mul_left p (show v+1≤u from h);rw[Nat.mul_add,Nat.mul_one]at this;constructor<;>constructor<;>intro h'<;>omega
theorem Jo{a b:Nat}(h:nlb a<nlb b):a<b:=by
 have h1:=Wq (B:=1000000000) _ (YN (by decide) a);rw[Yo (by decide)]at h1;have h2:∀(k n:Nat),k<nlb n→1000000000^k≤n:=by
  intro k;induction k with
  | zero=>intro n hn;rcases Nat.eq_zero_or_pos n with rfl|h;simp[nlb,Zh]at hn;omega
  | succ k ih =>
   intro n hn;rcases Nat.eq_zero_or_pos n with rfl|h
   ·simp[nlb,Zh]at hn
   ·rw[nlb,Zy (by decide) h,List.length_cons]at hn;have:=ih (n/1000000000) (by unfold nlb;omega);rw[Nat.le_div_iff_mul_le (by decide)]at this;rw[Nat.pow_succ];exact this
 have h3:=h2 (nlb a) b h;exact Nat.lt_of_lt_of_le h1 h3
def qkn(a b:Nat):Int:=qoW (lb 1000000000 a) (lb 1000000000 b)
theorem KE(a b:Nat):(qkn a b<0↔a<b)∧(qkn a b=0↔a=b):=by
 unfold qkn qoW;by_cases h:(lb 1000000000 a).length=(lb 1000000000 b).length
 ·rw[if_pos h];have:=qi3 _ _ (YN (by decide) a) (YN (by decide) b) _ (Nat.le_refl _) (by rw[h];exact Nat.le_refl _);rw[List.take_length,h,List.take_length,Yo (by decide),Yo (by decide),←h]at this;exact this
 ·rw[if_neg h];rcases Nat.lt_or_gt_of_ne h with h'|h'
  ·have:=Jo (a:=a) (b:=b) h';constructor<;>constructor<;>intro<;>omega
  ·have:=Jo (a:=b) (b:=a) h';constructor<;>constructor<;>intro<;>omega
theorem VN(a b:Nat)(ha:nlb a≤100000000)(hb:nlb b≤100000000):Qg prog 189 [lbs a,lbs b] (.v (.int .i64 (qkn a b))) :=
 qi5 _ _ (YN (by decide) a) (YN (by decide) b) ha hb
end
end Go.AX.Run
namespace Go.AX
open Go.RowKit
def Qf.only(H:Qf)(ids:List Nat):Qf:={ H with b:=fun id=>if id∈ids then H.b id else none }
theorem Frz.heap{H H':Qf}{F G:Nat→Prop}(hH:∀id b,H.b id=some b→H'.b id=some b){x x':AV}(h:Frz H F G x x'):Frz H' F G x x':=by
 induction h with
 | v x=>exact .v x
 | nil=>exact .nil
 | ro es es' p hs hp h ih=>exact .ro es es' p hs hp ih
 | agg cs cs' p hl hp h ih=>exact .agg cs cs' p hl hp ih
 | tup cs cs' p hl hp h ih=>exact .tup cs cs' p hl hp ih
 | old id sz off len mx hid=>exact .old id sz off len mx hid
 | new id sz off len mx b hid hb hsz hle es' p hs hp h ih=>exact .new id sz off len mx b hid (hH _ _ hb) hsz hle es' p hs hp ih
 | ptr id sz i off hid=>exact .ptr id sz i off hid
 | rc es es' h hl ih=>exact .rc es es' ih hl
 | dat x k h=>exact .dat x k h
 | fn f fs fs' cs cs' p q hl hl' hp h hq h' ih ih'=>exact .fn f fs fs' cs cs' p q hl hl' hp ih hq ih'
 | cell id sz i off b e cs' hid hb hsz he hl p hp h ih=>exact .cell id sz i off b e cs' hid (hH _ _ hb) hsz he hl p hp ih
theorem VK{H:Qf}{ids:List Nat}{id:Nat}{b:Blk}(h:(H.only ids).b id=some b):id∈ids∧H.b id=some b:=by
 simp only[Qf.only]at h;split at h
 ·rename_i hm;exact⟨hm,h⟩
 ·cases h
theorem qfj{α β:Type}{f:α→Option β}:∀{l:List α} {l':List β},l.mapM f=some l'→l'.length=l.length∧∀(j:Nat) (x:α) (x':β),l[j]?=some x→l'[j]?=some x'→f x=some x':=by
 intro l;induction l with
 | nil=>intro l' h;simp at h;subst h;exact⟨rfl,fun j x x' h=>by simp at h⟩
 | cons a l ih =>
  intro l' h;simp only[List.mapM_cons,Option.bind_eq_bind,Option.bind_eq_some_iff,Option.pure_def,Option.some.injEq]at h;obtain⟨b,hb,l2,hl2,rfl⟩:=h;obtain⟨h1,h2⟩:=ih hl2;refine⟨by simp[h1],fun j x x' h3 h4=>?_⟩;cases j with
  | zero=>simp at h3 h4;subst h3 h4;exact hb
  | succ j=>simp at h3 h4;exact h2 j x x' h3 h4
section
variable{P:Program}{f:FuncId}{args args':List AV}{H:Qf}{N k:Nat}{u:AV}
theorem Qc.fz{Q:AV→Qf→Nat→Prop}(ids:List Nat)(h:Qg P f args' u)(ha:args.mapM (Q3 k (H.only ids))=some args')(hu:Qu k u=true)(hk:Q u (H.fr (·∈ids)) N):Qc P f args H N Q:=by
 obtain⟨h1,h2⟩:=qfj ha;have hf:=fun(j:Nat) (x x':AV) (g1:args[j]?=some x) (g2:args'[j]?=some x')=>Ku (H:=H.only ids) (F:=(·∈ids)) (G:=fun _=>True) (fun id b hb=>(VK hb).1) k (h2 j x x' g1 g2);have hd:args'.all (Qu k)=true:=by rw[List.all_eq_true];intro x' hx';obtain⟨j,hj⟩:=List.mem_iff_getElem?.1 hx';have hj1:j<args'.length:=(List.getElem?_eq_some_iff.1 hj).1;exact(hf j args[j] x' (List.getElem?_eq_getElem (by omega)) hj).2
 have h3:=h.frame (H:=H.fr (·∈ids)) (N:=N) hd hu;exact⟨h3.1,Qv.args (·∈ids) h1 (fun j x x' g1 g2=>(hf j x x' g1 g2).1.heap fun id b hb=>(VK hb).2) (h3.2.mono fun r H' N' ⟨a,b,c⟩=>by subst a b c;exact hk)⟩
theorem Qc.fzc{Q:AV→Qf→Nat→Prop}(ids:List Nat)(ha:args.mapM (Q3 k (H.only ids))=some args')(h:Qc P f args' (H.fr (·∈ids)) N Q):Qc P f args H N Q:=by obtain⟨h1,h2⟩:=qfj ha;exact⟨h.1,Qv.args (·∈ids) h1 (fun j x x' g1 g2=>(Ku (H:=H.only ids) (F:=(·∈ids)) (G:=fun _=>True) (fun id b hb=>(VK hb).1) k (h2 j x x' g1 g2)).1.heap fun id b hb=>(VK hb).2) h.2⟩
theorem QF.fz{st:St}{K:Cls→AV→Qf→Nat→Prop}(ids:List Nat)(h:Qg P f args' u)(ha:args.mapM (Q3 k (st.H.only ids))=some args')(hu:Qu k u=true)(hk:K (.hvy (some ids)) u (st.H.fr (·∈ids)) st.N):QF P f args st K :=
 ⟨.hvy (some ids),u,_,_,hk,Qc.fz ids h ha hu ⟨rfl,rfl,rfl⟩,Nat.le_refl _,fun id _ hn=>by
  show(st.H.fr (·∈ids)).b id=st.H.b id;simp only[Qf.fr];cases st.H.b id with
  | none=>rfl
  | some b=>simp[hn]⟩
theorem qsw{F:Nat→Prop}[DecidablePred F](hz:∀id b,F id→H.b id=some b→b.fz=true):H.fr F=H:=by
 cases H with|mk hb hL =>
 simp only[Qf.fr];congr;funext id;cases hq:hb id with
 | none=>rfl
 | some b =>
  simp only[];by_cases hi:F id
  ·rw[if_pos hi];have:=hz id b hi hq;cases b;simp at this;subst this;rfl
  ·rw[if_neg hi]
theorem QF.rd{st:St}{K:Cls→AV→Qf→Nat→Prop}(ids:List Nat)(h:Qg P f args' u)(ha:args.mapM (Q3 k (st.H.only ids))=some args')(hz:∀id b,id∈ids→st.H.b id=some b→b.fz=true)(hu:Qu k u=true)(hk:K (.hvy (some [])) u st.H st.N):QF P f args st K :=
 ⟨.hvy (some []),u,_,_,hk,Qc.fz ids h ha hu (by rw[qsw hz];exact⟨rfl,rfl,rfl⟩),Nat.le_refl _,fun id _ _=>rfl⟩
theorem Qe.freeze{pl:Bool}{c:Code}{n:Nat}{env:Nat→AV}{Q:Exit→St→Prop}(F:Nat→Prop)[DecidablePred F](h:Qe P pl c ⟨n,env,H.fr F,N⟩ Q):Qe P pl c ⟨n,env,H,N⟩ Q :=
 Qe.weak (fun E B w0 a w hr=>by obtain⟨h1,h2,h3⟩:=hr.h.fr F;have h4:=hr.le h1 h2 h3 rfl;rw[hr.N]at h1 h4;exact⟨_,h1,h4⟩) h
theorem Qm.freeze{id:Nat}{ops:Array Oper}{n:Nat}{env:Nat→AV}{Q:St→Prop}(F:Nat→Prop)[DecidablePred F](h:Qm P id ops ⟨n,env,H.fr F,N⟩ Q):Qm P id ops ⟨n,env,H,N⟩ Q :=
 fun pl R hR=>Qe.freeze F (h pl R hR)
end
inductive qhe(H:Qf)(F G:Nat→Prop):List AV→List AV→Prop
 | nil:qhe H F G [] []
 | cons {a a':AV} {l l':List AV} (h:Frz H F G a a') (t:qhe H F G l l'):qhe H F G (a::l) (a'::l')
theorem qhe.get{H:Qf}{F G:Nat→Prop}{l l':List AV}(h:qhe H F G l l'):l'.length=l.length∧(∀(j:Nat) (x':AV),l'[j]?=some x'→l[j]?=some (l.getD j (.v undef)))∧∀(j:Nat) (x':AV),l'[j]?=some x'→Frz H F G (l.getD j (.v undef)) x':=by
 induction h with
 | nil=>exact⟨rfl,fun j x' h=>by simp at h,fun j x' h=>by simp at h⟩
 | cons h t ih =>
  obtain⟨h1,h2,h3⟩:=ih;refine⟨by simp[h1],fun j x' hj=>?_,fun j x' hj=>?_⟩
  ·cases j with
   | zero=>rfl
   | succ j=>simpa using h2 j x' (by simpa using hj)
  ·cases j with
   | zero=>simp at hj;subst hj;exact h
   | succ j=>simpa using h3 j x' (by simpa using hj)
theorem Wl{H:Qf}{F G:Nat→Prop}{l l':List AV}(h:qhe H F G l l'):Frz H F G (.tup l) (.tup l'):=.tup _ _ _ h.get.1 h.get.2.1 h.get.2.2
theorem qhh{H:Qf}{F:Nat→Prop}[DecidablePred F]{id:Nat}:(H.fr F).b id=match H.b id with|some b=>some (if F id then { b with fz:=true }else b)|none=>none:=rfl
theorem qtZ{H:Qf}{F:Nat→Prop}[DecidablePred F]:(H.fr F).L=H.L:=rfl
theorem qrp{H:Qf}{ids:List Nat}{id:Nat}:(H.only ids).b id=if id∈ids then H.b id else none:=rfl
theorem XY{α:Type}{f:α→Option α}:∀{l:List α},(∀x∈l,f x=some x)→l.mapM f=some l:=by
 intro l;induction l with
 | nil=>intro _;rfl
 | cons a l ih=>intro h;simp[h a (by simp),ih fun x hx=>h x (by simp[hx])]
theorem XF{H:Qf}:∀{k:Nat} {x:AV},Qu k x=true→Q3 k H x=some x:=by
 intro k;induction k with
 | zero=>intro x h;simp[Qu]at h
 | succ k ih =>
  have hes:∀es:List (List AV),(es.all fun e=>e.all (Qu k))=true→(es.mapM fun e=>e.mapM (Q3 k H))=some es:=fun es h=>XY fun e he=>XY fun x hx=>ih (List.all_eq_true.1 (List.all_eq_true.1 h e he) x hx);have hcs:∀cs:List AV,cs.all (Qu k)=true→cs.mapM (Q3 k H)=some cs:=fun cs h=>XY fun x hx=>ih (List.all_eq_true.1 h x hx);intro x h;cases x<;>simp only[Qu,Bool.and_eq_true]at h<;>(try cases h)<;>simp only[Q3];all_goals first
   | rfl
   | (rw[hes _ h])
   | (rw[hcs _ h])
   | (rw[if_pos h])
   | (rename_i h1 h2;rw[hcs _ h1,hcs _ h2])
theorem qaG{H:Qf}{k id sz off len:Nat}{mx:Option Nat}{b:Blk}(hb:H.b id=some b)(hsz:b.sz=sz)(hle:off+len≤b.es.length)(hd:((b.es.drop off).take len).all (fun e=>e.all (Qu k))=true) :
  Q3 (k+1) H (.ref id sz off len mx)=some (.ro ((b.es.drop off).take len)):=by
 simp only[Q3];rw[hb];simp only[];rw[if_pos ⟨hsz,hle⟩];have hes:(((b.es.drop off).take len).mapM fun e=>e.mapM (Q3 k H))=some ((b.es.drop off).take len):=XY fun e he=>XY fun x hx=>XF (List.all_eq_true.1 (List.all_eq_true.1 hd e he) x hx);rw[hes]
theorem qq1{H:Qf}{F G:Nat→Prop}{k:Nat}{x x':AV}(hF:∀id b,H.b id=some b→F id)(h:Q3 k H x=some x'):Frz H F G x x':=(Ku hF k h).1
theorem Qp.cut{P:Program}{pl:Bool}{c:Code}{st:St}{Q:Exit→St→Prop}(i:Nat)(A:St→Prop)(h:Qp P pl c st fun e s=>e=.exit i∧A s)(h2:∀s,A s→Q (.exit i) s):Qp P pl c st Q :=
 Qe.mono h fun e s hs=>by obtain⟨rfl,ha⟩:=hs;exact h2 s ha
section
variable(P:Program)(lit:Nat→Bool)(ops:Array Oper)(ty:TypeId)(pos:String)(aft:Array Edge)(l:List Oper)(Q:List Cls→St→Prop)(Q1:St→Prop)(cs:List Cls)(st:St)
theorem qgN(dst:Option Tmp)(op:Op)(j:Nat)(want:Bool)(h:grd st ops j want=some true):QT P lit ops (⟨dst,op,ty,pos,aft,some (j,want)⟩::l) Q cs st=QT P lit ops (⟨dst,op,ty,pos,aft,none⟩::l) Q cs st:=by rw[Qa,h,XJ]
theorem qgM(dst:Option Tmp)(op:Op)(j:Nat)(want:Bool)(h:grd st ops j want=some false):QT P lit ops (⟨dst,op,ty,pos,aft,some (j,want)⟩::l) Q cs st=sdP st dst (QT P lit ops l Q) cs .flo (.v undef) st.H st.N:=by rw[Qa,h,Wm]
theorem qhc(dst:Option Tmp)(op:Op)(j:Nat)(want:Bool)(h:grd st ops j want=some true):QC P ops (⟨dst,op,ty,pos,aft,some (j,want)⟩::l) Q1 st=QC P ops (⟨dst,op,ty,pos,aft,none⟩::l) Q1 st:=by rw[Qb,h,XJ]
theorem qhb(dst:Option Tmp)(op:Op)(j:Nat)(want:Bool)(h:grd st ops j want=some false):QC P ops (⟨dst,op,ty,pos,aft,some (j,want)⟩::l) Q1 st=Z7 st dst (.v undef) (QC P ops l Q1):=by rw[Qb,h,Wm]
end
theorem Qf.Yg(H:Qf)(id:Nat)(x:Blk)(j:Nat):(H.set id x).b j=if j=id then some x else H.b j:=_root_.id rfl
theorem qhF(b:Bool):aunop .not (.v (.bool b))=some (.v (.bool (!b))):=_root_.id rfl
theorem qtW(k:Nat)(x:Value):Qu (k+1) (.v x)=true:=_root_.id rfl
theorem qss(k:Nat)(es:List (List AV)):Qu (k+1) (.ro es)=es.all fun e=>e.all (Qu k):=_root_.id rfl
theorem qqP(k:Nat)(cs:List AV):Qu (k+1) (.agg cs)=cs.all (Qu k):=_root_.id rfl
theorem qqR(k:Nat)(cs:List AV):Qu (k+1) (.tup cs)=cs.all (Qu k):=_root_.id rfl
theorem qqQ(k:Nat)(cs:List AV):Qu (k+1) (.rop cs)=cs.all (Qu k):=_root_.id rfl
theorem qsr(k:Nat)(f:Fn)(fs cs:List AV):Qu (k+1) (.fn f fs cs)=(fs.all (Qu k)&&cs.all (Qu k)):=_root_.id rfl
theorem qjS(vs:List AV):V1 (.tup vs)=some vs:=_root_.id rfl
theorem Qf.qq8(H:Qf)(id j:Nat):(H.kill id).b j=if j=id then none else H.b j:=_root_.id rfl
theorem qqp(H:Qf)(id sz i off:Nat):at_ H (.ptr id sz i off)=match H.b id with|some b=>if b.sz=sz then(match b.es[i]? with|some e=>if off≤sz then some (e.drop off)else none|none=>none)else none|none=>none:=_root_.id rfl
theorem qqq(H:Qf)(cs:List AV):at_ H (.rop cs)=some cs:=_root_.id rfl
theorem qnA(P:Program)(n:Nat)(env:Nat→AV)(H:Qf)(N:Nat)(t:TypeId)(x:AV):aload P ⟨n,env,H,N⟩ t x=if ZQ P t then
  match at_ H x with
  | some cs=>if Jm P t then(if P.cellsOf t≤cs.length then some (.agg (cs.take (P.cellsOf t)))else none)else cs[0]?
  | none=>none
 else none:=_root_.id rfl
theorem qkD(P:Program)(n:Nat)(env:Nat→AV)(H:Qf)(N:Nat)(t:TypeId)(id sz i off:Nat)(x:AV):astore P ⟨n,env,H,N⟩ t (.ptr id sz i off) x=match H.b id with
  | some b=>if b.sz=sz∧b.fz=false∧ZQ P t∧(acells x).length=P.cellsOf t∧off+P.cellsOf t≤sz∧(∀c∈acells x,c.one=true)then
    match b.es[i]? with
    | some e=>some ⟨n,env,H.set id { b with es:=b.es.set i (WA e off (acells x)) },N⟩
    | none=>none
   else none
  | none=>none:=_root_.id rfl
theorem qqm(P:Program)(n:Nat)(env:Nat→AV)(H:Qf)(N:Nat)(t:TypeId)(cs:List AV):aptr P ⟨n,env,H,N⟩ t cs=if cs.length=P.cellsOf t then some (.ptr N (P.cellsOf t) 0 0,⟨n,env,H.set N ⟨t,P.cellsOf t,[cs],false,some 1⟩,N+1⟩)else none:=_root_.id rfl
theorem qlH(P:Program)(n:Nat)(env:Nat→AV)(H:Qf)(N:Nat)(t:TypeId)(es:List (List AV))(cap:Option Nat):Qs P ⟨n,env,H,N⟩ t es cap=⟨n,env,H.set N ⟨t,P.cellsOf t,es,false,cap⟩,N+1⟩:=_root_.id rfl
theorem qpo(e:List AV)(off:Nat)(cs:List AV):WA e off cs=e.take off++cs++e.drop (off+cs.length):=_root_.id rfl
theorem qfT(k:IntKind)(z:Int):acells (.v (.int k z))=[.v (.int k z)]:=_root_.id rfl
theorem qdB(b:Bool):acells (.v (.bool b))=[.v (.bool b)]:=_root_.id rfl
theorem qfX(s:ByteArray):acells (.v (.string s))=[.v (.string s)]:=_root_.id rfl
theorem qhq(a:Option Addr)(l c:Nat):acells (.v (.slice a l c))=[.v (.slice a l c)]:=_root_.id rfl
theorem qfW(id sz off len:Nat)(mx:Option Nat):acells (.ref id sz off len mx)=[.ref id sz off len mx]:=_root_.id rfl
theorem qfV(id sz i off:Nat):acells (.ptr id sz i off)=[.ptr id sz i off]:=_root_.id rfl
theorem qhp(es:List (List AV)):acells (.ro es)=[.ro es]:=_root_.id rfl
theorem qfS(cs:List AV):acells (.agg cs)=cs:=_root_.id rfl
theorem qho(f:Fn)(a b:List AV):acells (.fn f a b)=[.fn f a b]:=_root_.id rfl
theorem qoR(k:IntKind)(z:Int):(AV.v (.int k z)).one=true:=_root_.id rfl
theorem qlM(b:Bool):(AV.v (.bool b)).one=true:=_root_.id rfl
theorem qoU(s:ByteArray):(AV.v (.string s)).one=true:=_root_.id rfl
theorem qro(a:Option Addr)(l c:Nat):(AV.v (.slice a l c)).one=true:=_root_.id rfl
theorem qoT(id sz off len:Nat)(mx:Option Nat):(AV.ref id sz off len mx).one=true:=_root_.id rfl
theorem qoS(id sz i off:Nat):(AV.ptr id sz i off).one=true:=_root_.id rfl
theorem qrn(es:List (List AV)):(AV.ro es).one=true:=_root_.id rfl
theorem qrm(f:Fn)(a b:List AV):(AV.fn f a b).one=true:=_root_.id rfl
attribute [simp] qtW qss qqP qqR qqQ qsr qjS qhF Qf.qq8 Qf.Yg qqp qqq qnA qkD qqm qlH qpo qfT qdB qfX qhq qfW qfV qhp qfS qho qoR qlM qoU qro qoT qoS qrn qrm qhh qtZ qgN qgM qhc qhb
noncomputable section
inductive Clo(α:Type):Type where|mk (a:α)
def qj9{α β:Type}(c:Clo α)(f:α→Clo β):Clo β:=Clo.rec (motive:=fun _=>Clo β) f c
inductive Ev:Type where|nil|row (x0 x1 x2 x3 x4 x5 x6 x7 x8 x9 x10 x11 x12 x13 x14 x15:AV) (r:Ev)
def Ev.toL:Ev→List AV|.nil=>[]|.row x0 x1 x2 x3 x4 x5 x6 x7 x8 x9 x10 x11 x12 x13 x14 x15 r=>x0::x1::x2::x3::x4::x5::x6::x7::x8::x9::x10::x11::x12::x13::x14::x15::Ev.toL r
def Ev.get(e:Ev)(i:Nat):AV:=(e.toL[i]?).getD (.v undef)
def Ev.len(e:Ev):Nat:=e.toL.length
def Ev.g0(e:Ev):AV:=Ev.rec (motive:=fun _=>AV) (.v undef) (fun x0 x1 x2 x3 x4 x5 x6 x7 x8 x9 x10 x11 x12 x13 x14 x15 r _=>x0) e
def Ev.g1(e:Ev):AV:=Ev.rec (motive:=fun _=>AV) (.v undef) (fun x0 x1 x2 x3 x4 x5 x6 x7 x8 x9 x10 x11 x12 x13 x14 x15 r _=>x1) e
def Ev.g2(e:Ev):AV:=Ev.rec (motive:=fun _=>AV) (.v undef) (fun x0 x1 x2 x3 x4 x5 x6 x7 x8 x9 x10 x11 x12 x13 x14 x15 r _=>x2) e
def Ev.g3(e:Ev):AV:=Ev.rec (motive:=fun _=>AV) (.v undef) (fun x0 x1 x2 x3 x4 x5 x6 x7 x8 x9 x10 x11 x12 x13 x14 x15 r _=>x3) e
def Ev.g4(e:Ev):AV:=Ev.rec (motive:=fun _=>AV) (.v undef) (fun x0 x1 x2 x3 x4 x5 x6 x7 x8 x9 x10 x11 x12 x13 x14 x15 r _=>x4) e
def Ev.g5(e:Ev):AV:=Ev.rec (motive:=fun _=>AV) (.v undef) (fun x0 x1 x2 x3 x4 x5 x6 x7 x8 x9 x10 x11 x12 x13 x14 x15 r _=>x5) e
def Ev.g6(e:Ev):AV:=Ev.rec (motive:=fun _=>AV) (.v undef) (fun x0 x1 x2 x3 x4 x5 x6 x7 x8 x9 x10 x11 x12 x13 x14 x15 r _=>x6) e
def Ev.g7(e:Ev):AV:=Ev.rec (motive:=fun _=>AV) (.v undef) (fun x0 x1 x2 x3 x4 x5 x6 x7 x8 x9 x10 x11 x12 x13 x14 x15 r _=>x7) e
def Ev.g8(e:Ev):AV:=Ev.rec (motive:=fun _=>AV) (.v undef) (fun x0 x1 x2 x3 x4 x5 x6 x7 x8 x9 x10 x11 x12 x13 x14 x15 r _=>x8) e
def Ev.g9(e:Ev):AV:=Ev.rec (motive:=fun _=>AV) (.v undef) (fun x0 x1 x2 x3 x4 x5 x6 x7 x8 x9 x10 x11 x12 x13 x14 x15 r _=>x9) e
def Ev.g10(e:Ev):AV:=Ev.rec (motive:=fun _=>AV) (.v undef) (fun x0 x1 x2 x3 x4 x5 x6 x7 x8 x9 x10 x11 x12 x13 x14 x15 r _=>x10) e
def Ev.g11(e:Ev):AV:=Ev.rec (motive:=fun _=>AV) (.v undef) (fun x0 x1 x2 x3 x4 x5 x6 x7 x8 x9 x10 x11 x12 x13 x14 x15 r _=>x11) e
def Ev.g12(e:Ev):AV:=Ev.rec (motive:=fun _=>AV) (.v undef) (fun x0 x1 x2 x3 x4 x5 x6 x7 x8 x9 x10 x11 x12 x13 x14 x15 r _=>x12) e
def Ev.g13(e:Ev):AV:=Ev.rec (motive:=fun _=>AV) (.v undef) (fun x0 x1 x2 x3 x4 x5 x6 x7 x8 x9 x10 x11 x12 x13 x14 x15 r _=>x13) e
def Ev.g14(e:Ev):AV:=Ev.rec (motive:=fun _=>AV) (.v undef) (fun x0 x1 x2 x3 x4 x5 x6 x7 x8 x9 x10 x11 x12 x13 x14 x15 r _=>x14) e
def Ev.g15(e:Ev):AV:=Ev.rec (motive:=fun _=>AV) (.v undef) (fun x0 x1 x2 x3 x4 x5 x6 x7 x8 x9 x10 x11 x12 x13 x14 x15 r _=>x15) e
def Ev.s0(y:AV)(e:Ev):Ev:=Ev.rec (motive:=fun _=>Ev) .nil (fun x0 x1 x2 x3 x4 x5 x6 x7 x8 x9 x10 x11 x12 x13 x14 x15 r _=>.row y x1 x2 x3 x4 x5 x6 x7 x8 x9 x10 x11 x12 x13 x14 x15 r) e
def Ev.s1(y:AV)(e:Ev):Ev:=Ev.rec (motive:=fun _=>Ev) .nil (fun x0 x1 x2 x3 x4 x5 x6 x7 x8 x9 x10 x11 x12 x13 x14 x15 r _=>.row x0 y x2 x3 x4 x5 x6 x7 x8 x9 x10 x11 x12 x13 x14 x15 r) e
def Ev.s2(y:AV)(e:Ev):Ev:=Ev.rec (motive:=fun _=>Ev) .nil (fun x0 x1 x2 x3 x4 x5 x6 x7 x8 x9 x10 x11 x12 x13 x14 x15 r _=>.row x0 x1 y x3 x4 x5 x6 x7 x8 x9 x10 x11 x12 x13 x14 x15 r) e
def Ev.s3(y:AV)(e:Ev):Ev:=Ev.rec (motive:=fun _=>Ev) .nil (fun x0 x1 x2 x3 x4 x5 x6 x7 x8 x9 x10 x11 x12 x13 x14 x15 r _=>.row x0 x1 x2 y x4 x5 x6 x7 x8 x9 x10 x11 x12 x13 x14 x15 r) e
def Ev.s4(y:AV)(e:Ev):Ev:=Ev.rec (motive:=fun _=>Ev) .nil (fun x0 x1 x2 x3 x4 x5 x6 x7 x8 x9 x10 x11 x12 x13 x14 x15 r _=>.row x0 x1 x2 x3 y x5 x6 x7 x8 x9 x10 x11 x12 x13 x14 x15 r) e
def Ev.s5(y:AV)(e:Ev):Ev:=Ev.rec (motive:=fun _=>Ev) .nil (fun x0 x1 x2 x3 x4 x5 x6 x7 x8 x9 x10 x11 x12 x13 x14 x15 r _=>.row x0 x1 x2 x3 x4 y x6 x7 x8 x9 x10 x11 x12 x13 x14 x15 r) e
def Ev.s6(y:AV)(e:Ev):Ev:=Ev.rec (motive:=fun _=>Ev) .nil (fun x0 x1 x2 x3 x4 x5 x6 x7 x8 x9 x10 x11 x12 x13 x14 x15 r _=>.row x0 x1 x2 x3 x4 x5 y x7 x8 x9 x10 x11 x12 x13 x14 x15 r) e
def Ev.s7(y:AV)(e:Ev):Ev:=Ev.rec (motive:=fun _=>Ev) .nil (fun x0 x1 x2 x3 x4 x5 x6 x7 x8 x9 x10 x11 x12 x13 x14 x15 r _=>.row x0 x1 x2 x3 x4 x5 x6 y x8 x9 x10 x11 x12 x13 x14 x15 r) e
def Ev.s8(y:AV)(e:Ev):Ev:=Ev.rec (motive:=fun _=>Ev) .nil (fun x0 x1 x2 x3 x4 x5 x6 x7 x8 x9 x10 x11 x12 x13 x14 x15 r _=>.row x0 x1 x2 x3 x4 x5 x6 x7 y x9 x10 x11 x12 x13 x14 x15 r) e
def Ev.s9(y:AV)(e:Ev):Ev:=Ev.rec (motive:=fun _=>Ev) .nil (fun x0 x1 x2 x3 x4 x5 x6 x7 x8 x9 x10 x11 x12 x13 x14 x15 r _=>.row x0 x1 x2 x3 x4 x5 x6 x7 x8 y x10 x11 x12 x13 x14 x15 r) e
def Ev.s10(y:AV)(e:Ev):Ev:=Ev.rec (motive:=fun _=>Ev) .nil (fun x0 x1 x2 x3 x4 x5 x6 x7 x8 x9 x10 x11 x12 x13 x14 x15 r _=>.row x0 x1 x2 x3 x4 x5 x6 x7 x8 x9 y x11 x12 x13 x14 x15 r) e
def Ev.s11(y:AV)(e:Ev):Ev:=Ev.rec (motive:=fun _=>Ev) .nil (fun x0 x1 x2 x3 x4 x5 x6 x7 x8 x9 x10 x11 x12 x13 x14 x15 r _=>.row x0 x1 x2 x3 x4 x5 x6 x7 x8 x9 x10 y x12 x13 x14 x15 r) e
def Ev.s12(y:AV)(e:Ev):Ev:=Ev.rec (motive:=fun _=>Ev) .nil (fun x0 x1 x2 x3 x4 x5 x6 x7 x8 x9 x10 x11 x12 x13 x14 x15 r _=>.row x0 x1 x2 x3 x4 x5 x6 x7 x8 x9 x10 x11 y x13 x14 x15 r) e
def Ev.s13(y:AV)(e:Ev):Ev:=Ev.rec (motive:=fun _=>Ev) .nil (fun x0 x1 x2 x3 x4 x5 x6 x7 x8 x9 x10 x11 x12 x13 x14 x15 r _=>.row x0 x1 x2 x3 x4 x5 x6 x7 x8 x9 x10 x11 x12 y x14 x15 r) e
def Ev.s14(y:AV)(e:Ev):Ev:=Ev.rec (motive:=fun _=>Ev) .nil (fun x0 x1 x2 x3 x4 x5 x6 x7 x8 x9 x10 x11 x12 x13 x14 x15 r _=>.row x0 x1 x2 x3 x4 x5 x6 x7 x8 x9 x10 x11 x12 x13 y x15 r) e
def Ev.s15(y:AV)(e:Ev):Ev:=Ev.rec (motive:=fun _=>Ev) .nil (fun x0 x1 x2 x3 x4 x5 x6 x7 x8 x9 x10 x11 x12 x13 x14 x15 r _=>.row x0 x1 x2 x3 x4 x5 x6 x7 x8 x9 x10 x11 x12 x13 x14 y r) e
def Ev.gs:List (Clo (Ev→AV)):=[.mk Ev.g0,.mk Ev.g1,.mk Ev.g2,.mk Ev.g3,.mk Ev.g4,.mk Ev.g5,.mk Ev.g6,.mk Ev.g7,.mk Ev.g8,.mk Ev.g9,.mk Ev.g10,.mk Ev.g11,.mk Ev.g12,.mk Ev.g13,.mk Ev.g14,.mk Ev.g15]
def Ev.ss:List (Clo (AV→Ev→Ev)):=[.mk Ev.s0,.mk Ev.s1,.mk Ev.s2,.mk Ev.s3,.mk Ev.s4,.mk Ev.s5,.mk Ev.s6,.mk Ev.s7,.mk Ev.s8,.mk Ev.s9,.mk Ev.s10,.mk Ev.s11,.mk Ev.s12,.mk Ev.s13,.mk Ev.s14,.mk Ev.s15]
def Ev.gN(g:Ev→AV)(e:Ev):AV:=Ev.rec (motive:=fun _=>AV) (.v undef) (fun x0 x1 x2 x3 x4 x5 x6 x7 x8 x9 x10 x11 x12 x13 x14 x15 r _=>g r) e
def qt4(i:Nat):Clo (Ev→AV):=Nat.rec (motive:=fun _=>Clo (Ev→AV)) (Ev.gs.getD (i%16) (.mk fun _=>.v undef)) (fun _ ih=>qj9 ih fun g=>.mk (Ev.gN g)) (i/16)
end
noncomputable section
section
variable{α:Type}{d:α}
end
end
noncomputable section
abbrev Hp:=List (Nat×Blk)
def hget(h:Hp)(id:Nat):Option Blk:=List.rec (motive:=fun _=>Option Blk) none (fun p _ ih=>Bool.rec (motive:=fun _=>Option Blk) ih (some p.2) (Nat.beq p.1 id)) h
def hset(h:Hp)(id:Nat)(b:Blk):Hp:=List.rec (motive:=fun _=>Hp) [] (fun p r ih=>Bool.rec (motive:=fun _=>Hp) (p::ih) ((id,b)::r) (Nat.beq p.1 id)) h
inductive Lp:Type where|nil|cons (id n:Nat) (own:Bool) (e:Ev) (ps:Array Tmp) (assign body:Code) (pend:Option Code) (busy:Bool) (r:Lp)
def lget(l:Lp)(i:Nat):Option Zw:=Lp.rec (motive:=fun _=>Option Zw) none (fun id n own e ps assign body pend busy r ih=>Bool.rec (motive:=fun _=>Option Zw) ih (some ⟨n,e.get,ps,assign,body,pend,busy⟩) (Nat.beq id i)) l
def WQ(h:Hp)(L:Lp):Qf:=⟨hget h,lget L⟩
def stE(n:Nat)(e:Ev)(h:Hp)(N:Nat)(L:Lp):St:=⟨n,e.get,WQ h L,N⟩
inductive EX:Type where|nor|ext (id:Nat)|ret
def EX.toE:EX→Exit|.nor=>.normal|.ext i=>.exit i|.ret=>.ret
inductive Rq:Type where|call (f:FuncId) (args:List AV)|code (own:Bool) (n:Nat) (c:Code) (e:Ev)
abbrev WL:=List Nat
structure RV where
 x:EX
 v:AV
 e:Ev
 h:Hp
 N:Nat
 L:Lp
 w:WL
abbrev R:=Option RV
abbrev CF:=Rq→Hp→Nat→Lp→R
abbrev KS:=Ev→Hp→Nat→Lp→WL→R
abbrev OpC:=CF→Ev→Hp→Nat→Lp→WL→KS→R
inductive qhl:Lp→Lp→Prop
 | nil:qhl .nil .nil
 | cons (id n:Nat) (own:Bool) (e:Ev) (ps:Array Tmp) (assign body:Code) (pend pend':Option Code) (busy busy':Bool) (r r':Lp) (h:qhl r r'):qhl (.cons id n own e ps assign body pend busy r) (.cons id n own e ps assign body pend' busy' r')
theorem qhl.refl(L:Lp):qhl L L:=by
 induction L with
 | nil=>exact .nil
 | cons id n own e ps assign body pend busy r ih=>exact .cons _ _ _ _ _ _ _ _ _ _ _ _ _ ih
theorem qhl.trans{a b c:Lp}(h:qhl a b)(k:qhl b c):qhl a c:=by
 induction h generalizing c with
 | nil=>exact k
 | cons id n own e ps assign body pend pend' busy busy' r r' h ih =>
  cases k with
  | cons _ _ _ _ _ _ _ _ pend'' _ busy'' _ r'' k=>exact .cons _ _ _ _ _ _ _ _ _ _ _ _ _ (ih k)
def Lg(w w':WL)(h h':Hp)(N N':Nat)(L L':Lp):Prop:=(∀id∈w,id∈w')∧N≤N'∧(∀id,id<N→id ∉ w'→hget h' id=hget h id)∧qhl L L'
theorem Lg.refl(w:WL)(h:Hp)(N:Nat)(L:Lp):Lg w w h h N N L L:=⟨fun _ h=>h,Nat.le_refl _,fun _ _ _=>rfl,qhl.refl L⟩
theorem Lg.trans{w w1 w2:WL}{h h1 h2:Hp}{N N1 N2:Nat}{L L1 L2:Lp}(a:Lg w w1 h h1 N N1 L L1)(b:Lg w1 w2 h1 h2 N1 N2 L1 L2):Lg w w2 h h2 N N2 L L2 :=
 ⟨fun id hid=>b.1 id (a.1 id hid),Nat.le_trans a.2.1 b.2.1,fun id hid hn=>(b.2.2.1 id (Nat.lt_of_lt_of_le hid a.2.1) hn).trans (a.2.2.1 id hid fun hm=>hn (b.1 id hm)),a.2.2.2.trans b.2.2.2⟩
def qs8(P:Program)(cf:CF):Prop :=
 (∀f args h N L rv,cf (.call f args) h N L=some rv→qki P f args (WQ h L) N rv.v (WQ rv.h rv.L) rv.N∧Lg [] rv.w h rv.h N rv.N L rv.L) ∧
 ∀own n c e h N L rv,n≤e.len→cf (.code own n c e) h N L=some rv→K6 P false c (stE n e h N L) rv.x.toE (stE n rv.e rv.h rv.N rv.L)∧n≤rv.e.len∧Lg [] rv.w h rv.h N rv.N L rv.L
def quh(x:Operand):Clo (Ev→AV):=match x with|.tmp i=>qt4 i|.const v=>.mk fun _=>.v v|.global g=>.mk fun _=>.v (.pointer (some ⟨g,0,none⟩))|.func f=>.mk fun _=>.fn (.func f) [] []
def qp2(n:Nat)(d:Option Tmp)(s:AV→Ev→Ev):Prop:=(∀d',d=some d'→d'<n)∧∀u e,n≤e.len→n≤(s u e).len∧(s u e).get=(match d with|none=>e.get|some d=>upd e.get d u)
theorem qp2.eff{n:Nat}{d:Option Tmp}{s:AV→Ev→Ev}(hs:qp2 n d s){e:Ev}(hn:n≤e.len)(u:AV)(h h':Hp)(N N':Nat)(L L':Lp):stE n (s u e) h' N' L'=(stE n e h N L).eff d u (WQ h' L') N':=by have:=(hs.2 u e hn).2;unfold stE St.eff;rw[this];cases d<;>rfl
inductive Scl where
 | flo|lod|ext|hvy
def qr7(P:Program)(ops:Array Oper)(o:Oper)(rs:List Nat)(st:St)(u:AV)(H':Qf)(N':Nat):Scl→Prop
 | .flo=>Evd P ops o .flo st u H' N'
 | .lod=>Evd P ops o (.lod rs) st u H' N'
 | .ext=>Evd P ops o (.hvy (some [])) st u H' N'
 | .hvy=>Eff P ops o st u H' N'
section
variable(P:Program)(ops:Array Oper)(n:Nat)(o:Oper)
def qty(c:Scl)(rd:Ev→List Nat)(k:OpC):Prop:=∀cf,qs8 P cf→∀e h N L w K r,n≤e.len→k cf e h N L w K=some r →
 ∃u h' N' L' e' w',qr7 P ops o (rd e) (stE n e h N L) u (WQ h' L') N' c∧Lg w w' h h' N N' L L'∧(∀d,o.dst=some d→d<n)∧n≤e'.len∧stE n e' h' N' L'=(stE n e h N L).eff o.dst u (WQ h' L') N'∧K e' h' N' L' w'=some r
def OpW(c:Scl)(rd:Ev→List Nat)(k:OpC):Prop:=∀cf,qs8 P cf→∀e h N L w K r,n≤e.len→wanted (stE n e h N L) ops o=some true→k cf e h N L w K=some r →
 ∃u h' N' L' e' w',qr7 P ops o (rd e) (stE n e h N L) u (WQ h' L') N' c∧Lg w w' h h' N N' L L'∧(∀d,o.dst=some d→d<n)∧n≤e'.len∧stE n e' h' N' L'=(stE n e h N L).eff o.dst u (WQ h' L') N'∧K e' h' N' L' w'=some r
end
section
variable{P:Program}{ops:Array Oper}{n:Nat}{o:Oper}{c:Scl}{rd:Ev→List Nat}
theorem qr7.qnd{rs:List Nat}{st:St}{u:AV}{H':Qf}{N':Nat}(h:Evd P ops o .flo st u H' N')(hrs:c=.lod→∀id∈rs,id<st.N):qr7 P ops o rs st u H' N' c:=by
 obtain⟨rfl,rfl,h3⟩:=h;cases c with
 | flo=>exact⟨rfl,rfl,h3⟩
 | lod=>exact⟨rfl,rfl,hrs rfl,fun H N _=>h3 H N⟩
 | ext=>exact⟨h3 st.H st.N,Nat.le_refl _,fun _ _ _=>rfl⟩
 | hvy=>exact h3 st.H st.N
end
end
noncomputable section
section
variable{P:Program}{ops:Array Oper}{n:Nat}{o:Oper}{c:Scl}{rd:Ev→List Nat}{s:AV→Ev→Ev}
def qsJ(f:Ev→Nat→Option (AV×Blk))(s:AV→Ev→Ev):OpC:=fun _ e h N L w K=>Option.rec (motive:=fun _=>R) none (fun p=>K (s p.1 e) ((N,p.2)::h) (Nat.succ N) L w) (f e N)
end
end
noncomputable section
section
variable{P:Program}{ops:Array Oper}{n:Nat}{o:Oper}{c:Scl}{rd:Ev→List Nat}{s:AV→Ev→Ev}
def ins(id:Nat)(w:WL):WL:=Bool.rec (motive:=fun _=>WL) (id::w) w (List.rec (motive:=fun _=>Bool) false (fun j _ ih=>Bool.rec (motive:=fun _=>Bool) ih true (Nat.beq j id)) w)
def qnf:List (Nat×Operand)→Clo (Ev→List (Nat×AV))
 | []=>.mk fun _=>[]
 | (i,x)::l=>qj9 (quh x) fun g=>qj9 (qnf l) fun gl=>.mk fun e=>(i,g e)::gl e
def Yb(P:Program)(t:TypeId)(len:Nat)(parts:Array (Nat×Operand))(s:AV→Ev→Ev):Clo OpC:=qj9 (qnf parts.toList) fun g=>.mk (qsJ (fun e N=>match Qz P t len (g e)with|some (et,es)=>some (.ref N (P.cellsOf et) 0 len none,⟨et,P.cellsOf et,es,false,some len⟩)|none=>none) s)
end
end
section
variable{P:Program}{E:Env}{B:Nat}{w0 w:World}{H:Qf}
theorem Ka{k:Nat}{cs:Array Value}{T:TypeId}{fr:Nat×Nat}(h:w.heap[k]?=some (.cells cs T fr)):w.shape? k=some (T,cs.size):=by unfold World.shape?;rw[h]
theorem qcD{t:TypeId}(h:ZQ P t=true):∃j,P.info? t=some j∧j.size=P.cellsOf t:=by simp only[ZQ,Bool.and_eq_true,Option.isSome_iff_exists]at h;obtain⟨_,j,hj⟩:=h;exact⟨j,hj,(Wb hj).symm⟩
theorem Qw.qmr{st:St}{o:Oper}{s t u:TypeId}{x:Operand}{id sz i off:Nat}{b:Blk}(ho:o.op=.convert s t x)(hs:P.underlying s=some (.pointer u))(ht:P.underlying t=some .unsafePointer)(hu:ZQ P u=true)(hz:P.cellsOf u≠0)
  (hx:ev st x=.ptr id sz i off) (hb:st.H id=some b) (hsz:b.sz=sz) (hi:i<b.es.length) (hoff:off<sz):Qw P st o (.ptr id sz i off) st:=fun E B w0 a w hr=>by
 obtain⟨j,hj,hjs⟩:=qcD hu;have hdx:=hr.ev x;rw[hx]at hdx;obtain⟨cur,z,q1,q2,q3,q4,q5,q6,q7,q8,q9⟩:=hr.h.blk id b hb (hr.h.real hb (by omega));refine⟨_,w,E,?_,Env.le.refl E,QD.refl E w,hr,hdx⟩;generalize hq:a.eval x=q at hdx;cases hdx;have hlt:i*sz+off<cur.size:=by rw[q2,hsz];have:(i+1)*sz≤E.κ id*sz:=Nat.mul_le_mul_right _ (by omega);rw[Nat.add_mul]at this;omega
 simp only[execOp,ho,hq,Sem.run_bind,Lib.run_to_unsafe (P:=P) w ⟨E.η id,i*sz+off,none⟩ hs ht hj (by rw[hjs];exact hz) (Ka q1) hlt,Result.andThen_ok,Sem.run_pure]
theorem qgw{e:TypeId}(hc:P.cellsOf e≠0)(count:Nat)(hn:1≤count):liesAt P P.depth e count 0 e 1=true:=by have hd:P.depth=(2*(P.types.size+Made.depth)+1)+1:=rfl;rw[hd];simp only[liesAt,Bool.or_eq_true];left;rw[hd];simp[rowAt,hc,hn,sameLayout]
theorem Qw.qgp{st:St}{o:Oper}{s t u:TypeId}{x:Operand}{id sz:Nat}{b:Blk}(ho:o.op=.convert s t x)(hs:P.underlying s=some .unsafePointer)(ht:P.underlying t=some (.pointer u))(hu:ZQ P u=true)(hz:P.cellsOf u≠0)
  (hx:ev st x=.ptr id sz 0 0) (hb:st.H id=some b) (hsz:b.sz=P.cellsOf u) (hty:b.ty=u) (hi:0<b.es.length):Qw P st o (.ptr id sz 0 0) st:=fun E B w0 a w hr=>by
 obtain⟨j,hj,hjs⟩:=qcD hu;have hdx:=hr.ev x;rw[hx]at hdx;obtain⟨cur,z,q1,q2,q3,q4,q5,q6,q7,q8,q9⟩:=hr.h.blk id b hb (hr.h.real hb (by omega));refine⟨_,w,E,?_,Env.le.refl E,QD.refl E w,hr,hdx⟩;generalize hq:a.eval x=q at hdx;cases hdx;have hlies:liesAt P P.depth b.ty (cur.size/P.cellsOf b.ty) (0*sz+0) u 1=true:=by rw[hty,q2,hsz,Nat.mul_div_cancel _ (by omega),Nat.zero_mul];exact qgw hz _ (by omega)
 simp only[execOp,ho,hq,Sem.run_bind,Lib.run_from_unsafe (P:=P) w ⟨E.η id,0*sz+0,none⟩ hs ht hj (Ka q1) hlies,Result.andThen_ok,Sem.run_pure]
def qp6(P:Program)(f:FuncId)(e:Array Value→Sem Value):Prop :=
 ∃fn:Func,P.funcs[f]?=some fn∧(fn.name=="runtime.NumGoroutine")=false∧fn.body.isNone=true∧Extern.findNext fn=none∧Extern.find fn=some e
theorem Qw.ext{st:St}{o:Oper}{cl:Call}{f:FuncId}{u:AV}{g:Array Value→Sem Value}(he:qp6 P f g)(ho:o.op=.call cl)(hc:cl.callee=.value (.func f))
  (h:∀(E:Env) (w:World) (ys:Array Value),ys.size=cl.args.size→(∀j x,cl.args[j]?=some x→Den E w (ev st x) (ys.getD j undef))→∃y,(g ys).run P w=.ok y w∧Den E w u y):Qw P st o u st:=fun E B w0 a w hr=>by
 obtain⟨fn,h1,h2,h3,h4,h5⟩:=he;obtain⟨y,hy,hd⟩:=h E w (cl.args.map a.eval) (by simp) (fun j x hx=>by
  have:(cl.args.map a.eval).getD j undef=a.eval x:=by simp[Array.getD_eq_getD_getElem?,hx]
  rw[this];exact hr.ev x)
 refine⟨y,w,E,?_,Env.le.refl E,QD.refl E w,hr,hd⟩;have he:a.eval (.func f)=.func (.func f) #[] #[]:=rfl;have hre:(resolve a.eval cl o.type).run P w=.ok ⟨.fn (.func f) #[],cl.args.map a.eval⟩ w:=by simp[resolve,hc,he,Deferred.ofValue]
 simp only[execOp,ho,Sem.run_bind,hre,Result.andThen_ok];have hinv:invoke (.fn (.func f) #[]) (cl.args.map a.eval)=callFunc f (cl.args.map a.eval):=by simp[invoke]
 rw[hinv,run_callFunc_extern h1 h2 h3 h4 h5,hy];rfl
end
section
variable{P:Program}{E:Env}{B:Nat}{w0 w:World}{H:Qf}
theorem Zm.spoil(h:Zm E B w0 H w){id:Nat}{b:Blk}(hb:H id=some b)(hr0:b.cap≠some 0)(hfz:b.fz=false){w':World}(hos:w'.os=w.os)(htp:w'.tape=w.tape)(hout:w'.output=w.output)(hsz:w'.heap.size=w.heap.size)(hold:∀k,k≠E.η id→w'.heap[k]?=w.heap[k]?) :
  QD E w w'∧Zm E B w0 (H.kill id) w':=by
 have hmu:=h.mu id b hb hr0 hfz;obtain⟨cur0,z0,g1,g2,g3,g4,g5,g6,g7,g8,g9⟩:=h.blk id b hb hr0;have hkp:QD E w w':=fun c hc=>hold c (fun e=>hmu (e▸hc));have f:∀i q,(H.kill id) i=some q→i≠id∧H i=some q:=fun i q hq=>Qf.JZ hq;have hob:=h.objs (L:=(H.kill id).L) (Env.le.refl E) (fun c hc=>hc) hkp (fun c q hq hqc=>hold c (fun e=>by subst e;rw[g1]at hq;injection hq with hq;subst hq;cases hqc)) (fun c hc=>.inl hc) (fun _ _ h=>h);refine⟨hkp,fun i q hq=>h.lt i q (f i q hq).2,fun i q hq=>h.gst i q (f i q hq).2,fun i q hq hc0=>?_,fun i j q r h1 h2=>h.inj i j q r (f i q h1).2 (f j r h2).2,fun i q hq=>h.mu i q (f i q hq).2,fun i q hq=>h.frz i q (f i q hq).2,fun c hc=>by rw[hsz];exact h.slt c hc,h.so,by rw[hsz];exact h.bas,
  h.bel.trans ⟨hos,htp,hout,by rw[hsz];exact Nat.le_refl _,fun k hk=>hold k (fun e=>by omega)⟩,hob.1,hob.2.1,hob.2.2.1,hob.2.2.2.1,hob.2.2.2.2⟩
 obtain⟨hi,hq'⟩:=f i q hq;obtain⟨cur,z,q1,q2,q3,q4,q5,q6,q7,q8,q9⟩:=h.blk i q hq' hc0;exact⟨cur,z,(hold _ (fun e=>hi (h.inj i id q b hq' hb hc0 hr0 e))).trans q1,q2,q3,q4,q5,q6,q7,q8,fun k j x hx=>(q9 k j x hx).mono (Env.le.refl E) hkp⟩
theorem Qw.qjz{st:St}{o:Oper}{cl:Call}{x:Operand}{t:TypeId}{id sz off len:Nat}{mx:Option Nat}(ho:o.op=.call cl)(hcl:cl.callee=.builtin .unsafeSliceData)(ha:cl.args=#[x])(hat:cl.argTypes=#[t])
  (hx:ev st x=.ref id sz off len mx) (hl:0<len):Qw P st o (.ptr id sz off 0) st:=fun E B w0 a w hr=>by
 have hdx:=hr.ev x;rw[hx]at hdx;generalize hq:a.eval x=q at hdx;cases hdx with
 | ref _ _ _ _ _ A c hid hc hle hlen hA hs =>
 have hA':=hA (.inl (by omega));subst hA';refine⟨.pointer (some ⟨E.η id,off*sz+0,none⟩),w,E,?_,Env.le.refl E,QD.refl E w,hr,.ptr id sz off 0 hid⟩;have:=Lib.run_unsafeSliceData_row (P:=P) w #[t] o.type ⟨E.η id,off*sz,none⟩ len c (by omega);simp only[execOp,ho,resolve,hcl,ha,hat,invoke,builtin,Sem.run_bind,Sem.run_pure,Result.andThen_ok,List.map_toArray,List.map_cons,List.map_nil,hq,this,Nat.add_zero]
def qhR(e:List AV):Option UInt8:=match e with|[.v (.int .u8 (.ofNat n))]=>if n<256 then some n.toUInt8 else none|_=>none
theorem qf5{e:List AV}{b:UInt8}(h:qhR e=some b):e=[.v (.int .u8 b.toNat)]:=by
 unfold qhR at h;split at h
 ·rename_i n;split at h
  ·rename_i hn;injection h with h;subst h;have:n.toUInt8.toNat=n:=by simp[Nat.toUInt8,Nat.mod_eq_of_lt hn]
   rw[this];rfl
  ·cases h
 ·cases h
def Xu:List (List AV)→Option (List UInt8)
 | []=>some []
 | e::es=>match qhR e,Xu es with|some b,some bs=>some (b::bs)|_,_=>none
theorem qdM:∀{es:List (List AV)} {bs:List UInt8},Xu es=some bs→es=bs.map fun b=>[.v (.int .u8 b.toNat)]:=by
 intro es;induction es with
 | nil=>intro bs h;injection h with h;subst h;rfl
 | cons e es ih =>
  intro bs h;simp only[Xu]at h;split at h
  ·rename_i b bs' h1 h2;injection h with h;subst h;rw[qf5 h1,ih h2];rfl
  ·cases h
def ptrTo(P:Program)(t:TypeId):Option TypeId:=match P.underlying t with|some (.pointer e)=>some e|_=>none
theorem qgC{t e:TypeId}(h:ptrTo P t=some e):P.underlying t=some (.pointer e):=by
 unfold ptrTo at h;split at h
 ·rename_i e' hu;injection h with h;subst h;exact hu
 ·cases h
def Wa(P:Program)(H:Qf)(pt:TypeId)(p n:AV):Option (AV×Nat) :=
 match p,n with
 | .ptr id 1 0 0,.v (.int .i64 (.ofNat m)) =>
  (match H id with
  | some b=>if b.fz=false∧b.sz=1∧ptrTo P pt=some b.ty∧P.cellsOf b.ty=1∧0<m∧m≤b.es.length∧m≤9223372036854775807 then
    (match Xu (b.es.take m)with|some bs=>some (.v (.string ⟨bs.toArray⟩),id)|none=>none)else none
  | none=>none)
 | _,_=>none
theorem Qw.qjU{st:St}{o:Oper}{cl:Call}{p n:Operand}{pt it:TypeId}{u:AV}{id:Nat}(ho:o.op=.call cl)(hcl:cl.callee=.builtin .unsafeString)(ha:cl.args=#[p,n])(hat:cl.argTypes=#[pt,it])
  (h:Wa P st.H pt (ev st p) (ev st n)=some (u,id)):Qw P st o u { st with H:=st.H.kill id }:=fun E B w0 a w hr=>by
 unfold Wa at h;split at h
 ·rename_i id0 m hp hn;split at h
  ·rename_i b hb;split at h
   ·rename_i hc;obtain⟨hfz,hbs,hpt,hce,hm0,hml,hmm⟩:=hc;have hpt:=qgC hpt;split at h
    ·rename_i bs hbe;simp only[Option.some.injEq,Prod.mk.injEq]at h;obtain⟨rfl,rfl⟩:=h;have hsp:=qdM hbe;have hbl:bs.length=m:=by have:=congrArg List.length hsp;rw[List.length_map,List.length_take,Nat.min_eq_left hml]at this;exact this.symm
     have hdp:=hr.ev p;have hdn:=hr.ev n;rw[hp]at hdp;rw[hn]at hdn;generalize hqp:a.eval p=qp at hdp;generalize hqn:a.eval n=qn at hdn;cases hdp;cases hdn;have hr0:=hr.h.real hb (by omega);obtain⟨cur,z,q1,q2,q3,q4,q5,q6,q7,q8,q9⟩:=hr.h.blk id0 b hb hr0;have hrun:=Lib.run_unsafeString_row (P:=P) w pt it o.type b.ty hpt hce (E.η id0) cur.size (Ka q1) bs (fun e=>by rw[e]at hbl;simp at hbl;omega) (by rw[hbl,q2,hbs,Nat.mul_one];omega) (by rw[hbl];exact hmm) (fun j x hx=>by
      have hj:j<m:=by rw[←hbl];exact(List.getElem?_eq_some_iff.1 hx).1
      have hg:QZ b.es j 0=some (.v (.int .u8 x.toNat)):=by
       have h1:(b.es.take m)[j]?=some [.v (.int .u8 x.toNat)]:=by rw[hsp,List.getElem?_map,hx];rfl
       rw[List.getElem?_take,if_pos hj]at h1;unfold QZ;rw[h1];rfl
      rw[Zn,Nat.zero_add];have h8:=q8 j 0 _ hg;rw[hbs,Nat.mul_one,Nat.add_zero]at h8;rw[cell_of_row w _ _ cur b.ty (0,0) q1,h8];have h9:=q9 j 0 _ hg;generalize z j 0=y at h9;cases h9;rfl)
     obtain⟨k1,k2⟩:=hr.h.spoil hb hr0 hfz (w':=w.freeze ⟨E.η id0,0,none⟩ bs.length) (by unfold World.freeze;split<;>rfl) (by unfold World.freeze;split<;>rfl) (by unfold World.freeze;split<;>rfl) (by unfold World.freeze;split<;>simp) (fun k hk=>by
      unfold World.freeze;split
      ·rfl
      ·simp only[Array.getElem?_modify];rw[if_neg (fun e=>hk e.symm)])
     refine⟨.string ⟨bs.toArray⟩,_,E,?_,Env.le.refl E,k1,⟨hr.dle (Env.le.refl E),hr.n,fun i=>(hr.t i).mono (Env.le.refl E) k1,k2,hr.N⟩,.v _⟩;have e0:(Int.ofNat m:Int)=(bs.length:Int):=by rw[hbl];rfl
     have e1:(⟨E.η id0,0*1+0,none⟩:Addr)=⟨E.η id0,0,none⟩:=rfl;simp only[execOp,ho,resolve,hcl,ha,hat,invoke,builtin,Sem.run_bind,Sem.run_pure,Result.andThen_ok,List.map_toArray,List.map_cons,List.map_nil,hqp,hqn,e0,e1,hrun]
    ·cases h
   ·cases h
  ·cases h
 ·cases h
end
section
variable{P:Program}{E:Env}{B:Nat}{w0 w:World}{H:Qf}
def qkR(P:Program)(e:TypeId):Bool:=match P.info? e with|some i=>(match i.zero with|some (.int .u8 0)=>i.size==1&&i.bytes==1|_=>false)|none=>false
theorem qf6{e:TypeId}(h:qkR P e=true):∃i,P.info? e=some i∧i.zero=some (.int .u8 0)∧i.size=1∧i.bytes=1:=by
 unfold qkR at h;split at h
 ·rename_i i hi;split at h
  ·rename_i hz;simp only[Bool.and_eq_true,beq_iff_eq]at h;exact⟨i,hi,hz,h.1,h.2⟩
  ·cases h
 ·cases h
def qsf(P:Program)(t:TypeId):Bool:=match P.underlying t with|some .string=>true|_=>false
theorem qjG{t:TypeId}(h:qsf P t=true):P.underlying t=some .string:=by
 unfold qsf at h;split at h
 ·rename_i hu;exact hu
 ·cases h
def qaX(P:Program)(st:St)(t tx:TypeId)(s x:AV):Option (AV×St) :=
 match Wn P t,x with
 | some e,.v (.string z) =>
  if qsf P tx=true∧qkR P e=true∧P.cellsOf e=1∧0<z.size then
   (match s with
   | .v (.slice none 0 0)=>if z.size≤140737488355328 then some (.ref st.N (P.cellsOf e) 0 (sbytes z).length none,Qs P st e (sbytes z) none)else none
   | .ref id sz 0 n none =>
    (match st.H id with
    | some b=>if b.fz=false∧b.ty=e∧b.sz=P.cellsOf e∧n≤b.es.length∧n+z.size≤140737488355328 then
      some (.ref st.N (P.cellsOf e) 0 (n+(sbytes z).length) none,Qs P { st with H:=st.H.kill id } e (b.es.take n++sbytes z) none)else none
    | none=>none)
   | _=>none)else none
 | _,_=>none
theorem qgr{z:ByteArray}{i j:Nat}{y:AV}(h:QZ (sbytes z) i j=some y):j=0∧i<z.size∧∃b,z.data.toList[i]?=some b∧y=.v (.int .u8 b.toNat):=by
 unfold QZ at h;split at h
 ·rename_i e' he;simp only[sbytes,List.getElem?_map,Option.map_eq_some_iff]at he;obtain⟨b,hb,rfl⟩:=he;have h1:=(List.getElem?_eq_some_iff.1 hb).1;cases j with
  | zero=>simp at h;exact⟨rfl,by simpa using h1,b,hb,h.symm⟩
  | succ j=>simp at h
 ·cases h
theorem qbP(z:ByteArray):(sbytes z).length=z.size:=by simp[sbytes]
theorem Xq{w:World}{t tx ty e:TypeId}{i:TypeInfo}{z:Value}{zs:ByteArray}(hu:P.underlying t=some (.slice e))(htx:P.underlying tx=some .string)(hi:P.info? e=some i)(hz:i.zero=some z)(h48:zs.size*i.bytes≤140737488355328)(h0:0<zs.size)(hm:zs.size≤maxLen)(A:Option Addr) :
  (Builtin.append_ #[t,tx] ty #[.slice A 0 0,.string zs]).run P w=(Builtin.append_ #[t,tx] ty #[.slice none 0 0,.string zs]).run P w:=by
 cases A with
 | none=>rfl
 | some b =>
  have hcap:¬(281474976710656<Builtin.nextslicecap zs.size 0*i.bytes):=by rw[nextslicecap_zero h0];omega
  have h63':¬((9223372036854775807:Int)<(zs.size:Int)):=by simp only[maxLen]at hm;omega
  have hm0:¬zs.size=0:=by omega
  simp[Builtin.append_,run_underlying hu,run_underlying htx,sizeOf,typeInfo,zeroValue,hi,hz,Builtin.lenOf,Builtin.firstCells,loadCells,loadCellsFrom,hcap,h63',hm0]
theorem Qw.qmN{st:St}{o:Oper}{c:Call}{t tx:TypeId}{s x:Operand}{u:AV}{st1:St}(ho:o.op=.call c)(hcl:c.callee=.builtin .append)(ha:c.args=#[s,x])(hat:c.argTypes=#[t,tx])(h:qaX P st t tx (ev st s) (ev st x)=some (u,st1)):Qw P st o u st1:=fun E B w0 a w hr=>by
 have hexec:∀v y w' ,(Builtin.append_ #[t,tx] o.type #[a.eval s,a.eval x]).run P w=.ok y w'→v=y→(execOp a.eval o).run P w=.ok (.value v) w':=fun v y w' hrun hv=>by subst hv;simp only[execOp,ho,resolve,hcl,ha,hat,invoke,builtin,Sem.run_bind,Sem.run_pure,Result.andThen_ok,List.map_toArray,List.map_cons,List.map_nil,hrun]
 have hds:=hr.ev s;have hdx:=hr.ev x;unfold qaX at h;split at h
 ·rename_i e zs hbt hx;split at h
  ·rename_i hc;obtain⟨htx,hbt2,hce,hz0⟩:=hc;obtain⟨hu,he8⟩:=Kx hbt;have htx:=qjG htx;obtain⟨i,hi,hz,hsize,hby⟩:=qf6 hbt2;rw[hx]at hdx;have hy:a.eval x=.string zs:=by generalize a.eval x=q at hdx;cases hdx;rfl
   have hnl:(sbytes zs).length=zs.size:=qbP zs;have v4:∀p q u,QZ (sbytes zs) p q=some u→∃zz,(Lib.strCells zs)[p*P.cellsOf e+q]?=some zz∧Den E w u zz:=fun p q u hg=>by obtain⟨rfl,hp,b,hb,rfl⟩:=qgr hg;refine⟨.int .u8 b.toNat,?_,.v _⟩;rw[hce,Nat.mul_one,Nat.add_zero,Lib.strCells,List.getElem?_map,hb];rfl
   have hok:Zp (P.cellsOf e) (sbytes zs)=true:=List.all_eq_true.2 fun q hq=>by simp only[sbytes,List.mem_map]at hq;obtain⟨b,_,rfl⟩:=hq;simp[hce]
   have hnew:∀e'∈sbytes zs,e'.length=P.cellsOf e:=fun q hq=>by have:=List.all_eq_true.1 hok q hq;simpa using this
   have fresh:∀(H1:Qf),(∀i q,H1 i=some q→st.H i=some q)→H1.L=st.H.L→zs.size≤140737488355328→(∀y w',(Builtin.append_ #[t,tx] o.type #[.slice none 0 0,a.eval x]).run P w=.ok y w'→(Builtin.append_ #[t,tx] o.type #[a.eval s,a.eval x]).run P w=.ok y w') →
     ∃v w' E',(execOp a.eval o).run P w=.ok (.value v) w'∧E.le E'∧QD E w w'∧Rel E' B w0 (Qs P { st with H:=H1 } e (sbytes zs) none) a w'∧Den E' w' (.ref st.N (P.cellsOf e) 0 (sbytes zs).length none) v:=fun H1 hsub hHL hb hrn=>by
    obtain⟨v',w',hrun,hown,hg,hnil⟩:=Lib.run_append_own_string (P:=P) w B t tx o.type e i hu htx hi hz hsize hby (.slice none 0 0) 0 [] (World.ownsRow_nil w B e _) zs (by simp only[maxLen];omega) (by omega) hr.h.bas;have hat':v'.ownBlock=some w.heap.size:=by have h2:=run_append_nil_string (P:=P) w t tx o.type e i (.int .u8 0) hu htx hi hz zs hz0 (by omega) (by rw[hby];omega);rw[hrun]at h2;simp only[Result.ok.injEq]at h2;rw[h2.1];rfl
    have hvn:v'≠.slice none 0 0:=fun e'=>by have:=(hnil.1 e').2;omega
    rw[←hce]at hown;rcases hown.2 with⟨e',_⟩|⟨g,cap,cur,rfl,hgB,hgh,hle,hcm,hcs,htake⟩
    ·exact absurd e' hvn
    ·have hgw:g=w.heap.size:=by simpa[Value.ownBlock]using hat'
     simp only[Nat.zero_add,List.nil_append]at hle htake hown hrun;rw[←hnl]at hle htake hown;obtain⟨E',g1,g2,g3,g4,g5,g6⟩:=hr.h.grown (H1:=H1) hsub hg (fun _ _ _ _=>by simp[Value.ownBlock]) (fun _ _=>by simp[Value.ownBlock]) (fun k hk=>by simp[Value.ownBlock]at hk) (fun k hk=>by simp[Value.ownBlock]at hk) hHL { ty:=e,sz:=P.cellsOf e,es:=sbytes zs,fz:=false,cap:=none } rfl rfl g cap cur hgB (.inr hgw) hgh hle hcm hcs hok (fun p q u hu=>by
      obtain⟨zz,hz1,hz2⟩:=v4 p q u hu;refine⟨zz,?_,hz2⟩;have hlt:=(List.getElem?_eq_some_iff.1 hz1).1;rw[←htake,List.getElem?_take]at hz1;split at hz1
      ·simpa using hz1
      ·cases hz1)
     have hN:=hr.N;refine⟨_,w',E',hexec _ _ _ (hrn _ _ (by rw[hy];exact hrun)) rfl,g1,g2,⟨hr.dle g1,hr.n,fun p=>(hr.t p).mono g1 g2,?_,by simp[Qs,g3,hN]⟩,?_⟩
     ·have:(Qs P { st with H:=H1 } e (sbytes zs) none).H=H1.set E.N { ty:=e,sz:=P.cellsOf e,es:=sbytes zs,fz:=false,cap:=none }:=by simp[Qs,hN]
      rw[this];exact g6
     ·have h0:=Den.ref (E:=E') (w:=w') st.N (P.cellsOf e) 0 (sbytes zs).length none (some ⟨g,0,none⟩) cap (by rw[g3,hN];exact Nat.lt_succ_self _) (by rw[←hN,g5];simp) (.inl (by rw[←hN,g5];simp)) hle (fun _=>by rw[←hN,g4];simp) (fun _=>rfl);simp only[hnl]at h0⊢;exact h0
   split at h
   ·rename_i hs0;split at h
    ·rename_i hb;simp only[Option.some.injEq,Prod.mk.injEq]at h;obtain⟨rfl,rfl⟩:=h;have hse:a.eval s=.slice none 0 0:=by rw[hs0]at hds;generalize a.eval s=q at hds;cases hds;rfl
     exact fresh st.H (fun _ _ h=>h) rfl hb (fun y w' hr=>by rw[hse];exact hr)
    ·cases h
   ·rename_i id sz n hs0;split at h
    ·rename_i b hbb;split at h
     ·rename_i hcnd;obtain⟨hfz,hty,hbsz,hnb,hbytes⟩:=hcnd;simp only[Option.some.injEq,Prod.mk.injEq]at h;obtain⟨rfl,rfl⟩:=h;rw[hs0]at hds;by_cases hk0:E.κ id=0
      ·have hes0:b.es=[]:=by
        by_cases hc0:b.cap=some 0
        ·exact(hr.h.gst id b hbb hc0).2
        ·obtain⟨cur0,zz0,q1,q2,q3,_⟩:=hr.h.blk id b hbb hc0;exact List.eq_nil_of_length_eq_zero (by omega)
       rw[hes0]at hnb;have hn0:n=0:=by simpa using hnb
       subst hn0;obtain⟨A0,hse⟩:∃A0,a.eval s=.slice A0 0 0:=by
        generalize a.eval s=q at hds;cases hds with
        | ref _ _ _ _ _ A' c'' hid hcq hle hlen hA hs =>
         have:c''=0:=by simp only[Option.getD_none]at hcq;omega
         subst this;exact⟨A',rfl⟩
       have hz0':=fresh (st.H.kill id) (fun p q hq=>(Qf.JZ hq).2) rfl (by simpa using hbytes) (fun y w' hr=>by rw[hse,hy];rw[hy]at hr;exact(Xq hu htx hi hz (by rw[hby];omega) hz0 (by simp only[maxLen];omega) A0).trans hr);simpa[hes0]using hz0'
      have hc0:b.cap≠some 0:=fun hc=>hk0 (hr.h.gst id b hbb hc).1;obtain⟨cur0,zz0,q1,q2,q3,q4,q5,q6,q7,q8,q9⟩:=hr.h.blk id b hbb hc0;obtain⟨cc,hse,hcc⟩:∃cc,a.eval s=.slice (some ⟨E.η id,0,none⟩) n cc∧n≤cc∧cc=E.κ id:=by
       generalize a.eval s=q at hds;cases hds with
       | ref _ _ _ _ _ A' c'' hid hcq hle hlen hA hs =>
        have hcq':c''=E.κ id:=by simpa using hcq
        have:=hA (.inr ⟨rfl,by omega⟩);subst this;exact⟨c'',by simp,hlen,hcq'⟩
      obtain⟨hncc,rfl⟩:=hcc;have hown0:w.ownsRow B e (P.cellsOf e) (.slice (some ⟨E.η id,0,none⟩) n (E.κ id)) n (cur0.toList.take (n*P.cellsOf e)):=by refine⟨?_,.inr ⟨E.η id,E.κ id,cur0,rfl,q5,by rw[←hty];exact q1,hncc,q4,by rw[q2,hbsz],rfl⟩⟩;have:n*P.cellsOf e≤E.κ id*P.cellsOf e:=Nat.mul_le_mul_right _ hncc;rw[List.length_take,Array.length_toList,q2,hbsz,Nat.min_eq_left this]
      have hcur:w.heap[E.η id]?=some (.cells cur0 e (0,0)):=by rw[←hty];exact q1
      obtain⟨v',w',hrun,hown,hg,hnil⟩:=Lib.run_append_own_string (P:=P) w B t tx o.type e i hu htx hi hz hsize hby _ n _ (by rw[hce]at hown0;exact hown0) zs (by simp only[maxLen];omega) hbytes hr.h.bas;have hat':v'.ownBlock=some (E.η id)∨v'.ownBlock=some w.heap.size:=by
       by_cases hroom:n+zs.size≤E.κ id
       ·have h2:=Lib.run_append_room_string (P:=P) w t tx o.type e i hu htx hi hsize (E.η id) n (E.κ id) cur0 hcur zs hroom (by rw[q2,hbsz,hce,Nat.mul_one];exact hroom);rw[hrun]at h2;simp only[Result.ok.injEq]at h2;rw[h2.1];exact .inl rfl
       ·have h2:=Lib.run_append_grow_string (P:=P) w t tx o.type e i (.int .u8 0) hu htx hi hz ⟨E.η id,0,none⟩ n (E.κ id) (cur0.toList.take (n*1)) (by
          rw[hsize];have:=hown0.1;rw[hce]at this;exact this) (fun j v hv=>by
          rw[List.getElem?_take]at hv;split at hv
          ·rw[Zn,Nat.zero_add,cell_of_row w _ _ cur0 e (0,0) hcur];simpa using hv
          ·cases hv) zs (by omega) (by omega) (growslice_fits (need:=n+zs.size) (by omega) (by rw[hby];omega))
        rw[hrun]at h2;simp only[Result.ok.injEq]at h2;rw[h2.1];exact .inr rfl
      rw[←hce]at hown;rw[←hnl]at hown hbytes;rw[hse,hy]at hexec;have hvn:v'≠.slice none 0 0:=fun e'=>by have:=(hnil.1 e').1;cases this
      rcases hown.2 with⟨e',_⟩|⟨g,cap,cur,rfl,hgB,hgh,hle,hcm,hcs,htake⟩
      ·exact absurd e' hvn
      ·have hgw:g=E.η id∨g=w.heap.size:=by simpa[Value.ownBlock]using hat'
       have hnews:(b.es.take n++sbytes zs).length=n+(sbytes zs).length:=by simp;omega
       obtain⟨E',g1,g2,g3,g4,g5,g6⟩:=hr.h.grown (H1:=st.H.kill id) (fun p q hq=>(Qf.JZ hq).2) hg (fun p q hq hqc=>by obtain⟨hpi,hq'⟩:=Qf.JZ hq;simp only[Value.ownBlock,ne_eq,Option.some.injEq];exact fun e'=>hpi (hr.h.inj p id q b hq' hbb hqc hc0 e')) (fun c hc=>by simp only[Value.ownBlock,ne_eq,Option.some.injEq];exact fun e'=>hr.h.mu id b hbb hc0 hfz (e'▸hc)) (fun k hk=>by simp only[Value.ownBlock,Option.some.injEq]at hk;rw[←hk];exact q5) (fun k hk q hq=>by simp only[Value.ownBlock,Option.some.injEq]at hk;rw[←hk,q1]at hq;injection hq with hq;subst hq;rfl) rfl
        { ty:=e,sz:=P.cellsOf e,es:=b.es.take n++sbytes zs,fz:=false,cap:=none } rfl rfl g cap cur hgB (hgw.elim (fun h'=>.inl (by rw[h'];rfl)) .inr) hgh (by simp only[hnews];exact hle) hcm hcs (List.all_eq_true.2 fun q hq=>by
         rcases List.mem_append.1 hq with hq|hq
         ·have:=q6 q (List.mem_of_mem_take hq);simp[this,hbsz]
         ·simpa using hnew q hq) (fun p q u hu=>by
         have hcur:∀j v,(cur0.toList.take (n*P.cellsOf e)++Lib.strCells zs)[j]?=some v→cur[j]?=some v:=fun j v hv=>by
          rw[←htake,List.getElem?_take]at hv;split at hv
          ·simpa using hv
          ·cases hv
         have hl0:(cur0.toList.take (n*P.cellsOf e)).length=n*P.cellsOf e:=by have:n*P.cellsOf e≤E.κ id*P.cellsOf e:=Nat.mul_le_mul_right _ hncc;rw[List.length_take,Array.length_toList,q2,hbsz,Nat.min_eq_left this]
         have htl:(b.es.take n).length=n:=by simp;omega
         by_cases hp:p<n
         ·have hgu:QZ b.es p q=some u:=by simp only[QZ]at hu⊢;rw[List.getElem?_append_left (by rw[htl];exact hp),List.getElem?_take,if_pos hp]at hu;exact hu
          have hq:q<P.cellsOf e:=by have:=qbq (sz:=P.cellsOf e) (fun e' he'=>by rw[q6 e' he',hbsz]) hgu;exact this
          refine⟨_,hcur _ _ ?_,q9 p q u hgu⟩;have hlt:p*P.cellsOf e+q<n*P.cellsOf e:=by have:(p+1)*P.cellsOf e≤n*P.cellsOf e:=Nat.mul_le_mul_right _ hp;rw[Nat.add_mul]at this;omega
          rw[List.getElem?_append_left (by rw[hl0];exact hlt),List.getElem?_take,if_pos hlt,Array.getElem?_toList,←hbsz];exact q8 p q u hgu
         ·have hgu:QZ (sbytes zs) (p-n) q=some u:=by simp only[QZ]at hu⊢;rw[List.getElem?_append_right (by rw[htl];omega),htl]at hu;exact hu
          obtain⟨zz,hz1,hz2⟩:=v4 _ q u hgu;refine⟨zz,hcur _ _ ?_,hz2⟩;show(_++Lib.strCells zs)[p*P.cellsOf e+q]?=some zz;have hpn:p*P.cellsOf e=n*P.cellsOf e+(p-n)*P.cellsOf e:=by rw[←Nat.add_mul];congr 1;omega
          rw[List.getElem?_append_right (by rw[hl0];omega),hl0,show p*P.cellsOf e+q-n*P.cellsOf e=(p-n)*P.cellsOf e+q by omega];exact hz1)
       have hN:=hr.N;refine⟨_,w',E',hexec _ _ _ hrun rfl,g1,g2,⟨hr.dle g1,hr.n,fun p=>(hr.t p).mono g1 g2,?_,by simp[Qs,g3,hN]⟩,?_⟩
       ·have:(Qs P { st with H:=st.H.kill id } e (b.es.take n++sbytes zs) none).H=(st.H.kill id).set E.N { ty:=e,sz:=P.cellsOf e,es:=b.es.take n++sbytes zs,fz:=false,cap:=none }:=by simp[Qs,hN]
        rw[this];exact g6
       ·have h0:=Den.ref (E:=E') (w:=w') st.N (P.cellsOf e) 0 (n+(sbytes zs).length) none (some ⟨g,0,none⟩) cap (by rw[g3,hN];exact Nat.lt_succ_self _) (by rw[←hN,g5];simp) (.inl (by rw[←hN,g5];simp)) hle (fun _=>by rw[←hN,g4];simp) (fun _=>rfl);exact h0
     ·cases h
    ·cases h
   ·cases h
  ·cases h
 ·cases h
end
section
variable{P:Program}{E:Env}{B:Nat}{w0 w:World}{H:Qf}
def qcb(q:IntKind)(n:Int):List Value→List AV→Option AV
 | .int p m::ks,x::vs=>if p=q then(if n=m then some x else qcb q n ks vs)else none
 | _,_=>none
theorem qdC{q kk:IntKind}{n:Int}:∀{ks:List Value} {vs:List AV} {es:List MapEntry} {u:AV} (i:Nat),qcb q n ks vs=some u→es.map (·.key)=ks→(∀(j:Nat) (x:AV) (e:MapEntry),vs[j]?=some x→es[j]?=some e→Den E w x e.val) →
  ∃i' v,Instr.findNow (.int kk) (.int q n) es i=some (some (i',v))∧Den E w u v:=by
 intro ks;induction ks with
 | nil=>intro vs es u i h;simp[qcb]at h
 | cons k ks ih =>
  intro vs es u i h he hd;cases es with
  | nil=>cases he
  | cons e es =>
   simp only[List.map_cons,List.cons.injEq]at he;obtain⟨hk,he⟩:=he;unfold qcb at h;split at h
   ·rename_i p m ks' x vs' heq;simp only[List.cons.injEq]at heq;obtain⟨rfl,rfl⟩:=heq;split at h
    ·rename_i hp;subst hp;split at h
     ·rename_i hn;injection h with h;subst h;refine⟨i,e.val,?_,hd 0 _ e rfl rfl⟩;simp[Instr.findNow,hk,Instr.sameNow,hn]
     ·rename_i hn;obtain⟨i',v,h1,h2⟩:=ih (i+1) h he (fun j x' e' hx he'=>hd (j+1) x' e' hx he');refine⟨i',v,?_,h2⟩;have hf:(n==m)=false:=by simpa using hn
      simp[Instr.findNow,hk,Instr.sameNow,hf,h1]
    ·cases h
   ·cases h
def qfd(P:Program)(t:TypeId):Bool:=match P.underlying t with|some (.map kt _)=>(match P.underlying kt with|some (.int _)=>true|_=>false)|_=>false
theorem XO{t:TypeId}(h:qfd P t=true):∃kt et kk,P.underlying t=some (.map kt et)∧P.underlying kt=some (.int kk):=by
 unfold qfd at h;split at h
 ·rename_i kt et hu;split at h
  ·rename_i kk hk;exact⟨kt,et,kk,hu,hk⟩
  ·cases h
 ·cases h
def alook(P:Program)(t:TypeId)(m k:AV):Option AV:=match m,k with|.mp ks vs,.v (.int q n)=>if qfd P t=true then qcb q n ks vs else none|_,_=>none
theorem Qw.lookup{st:St}{o:Oper}{t:TypeId}{m k:Operand}{u:AV}(ho:o.op=.lookup t m k false)(h:alook P t (ev st m) (ev st k)=some u):Qw P st o u st:=fun E B w0 a w hr=>by
 unfold alook at h;split at h
 ·rename_i ks vs q n hm hk;split at h
  ·rename_i ht;obtain⟨kt,et,kk,h1,h2⟩:=XO ht;have hdm:=hr.ev m;have hdk:=hr.ev k;rw[hm]at hdm;rw[hk]at hdk;generalize hqm:a.eval m=qm at hdm;generalize hqk:a.eval k=qk at hdk;cases hdk;cases hdm with
   | mp _ _ r es clock z hS hw hks hz hl hd =>
   obtain⟨i',v,e1,e2⟩:=qdC (E:=E) (w:=w) (kk:=kk) (es:=es.toList) 0 h hks (fun j x e hx he=>by
    have he':es[j]?=some e:=by simpa using he
    rw[hz j e he'];exact hd j x hx)
   refine⟨v,w,E,?_,Env.le.refl E,QD.refl E w,hr,e2⟩;have hobj:(getObj r).run P w=.ok (.map es clock) w:=by simp[getObj,Sem.run,hw]
   have hck0:∀(bb:Bool) (d:Nat),(Instr.checkKey bb (d+1) kt (.int q n)).run P w=.ok () w:=fun bb d=>by simp[Instr.checkKey,run_underlying h2]
   have hck:∀bb:Bool,(Instr.checkKey bb 10000 kt (.int q n)).run P w=.ok () w:=fun bb=>hck0 bb 9999;have hfk:(Instr.findKey kt (.int q n) es.toList).run P w=.ok (some (i',v)) w:=by simp[Instr.findKey,run_underlying h2,e1]
   have hlk:(Instr.lookup t (.map (some r)) (.int q n) false).run P w=.ok v w:=by simp only[Instr.lookup,Sem.run_bind,run_underlying h1,Result.andThen_ok,hobj,hck,hfk,Sem.run_pure];rfl
   simp only[execOp,ho,hqm,hqk,Sem.run_bind,hlk,Result.andThen_ok,Sem.run_pure]
  ·cases h
 ·cases h
def Xr(P:Program)(t:TypeId)(x lo hi mx:AV):Option AV :=
 match P.underlying t,x,lo,hi,mx with
 | some (.slice e),.ref id sz off len none,.v (.int _ (.ofNat l)),.v (.int _ (.ofNat h)),.v (.int _ (.ofNat m))=>if ZQ P e=true∧sz=P.cellsOf e∧l≤h∧h≤m∧m≤len then some (.ref id sz (off+l) (h-l) (some (m-l)))else none
 | _,_,_,_,_=>none
theorem Vs{k:IntKind}{n y:Nat}(h:n≤y)(c:BoundsCode):(Instr.sliceBound (.int k (.ofNat n)) y c).run P w=.ok n w:=by have e:(Int.ofNat n)=(n:Int):=rfl;simp[Instr.sliceBound,asIntOf,h]
theorem Qw.slice3{st:St}{o:Oper}{t:TypeId}{x lo hi mx:Operand}{u:AV}(ho:o.op=.slice t x (some lo) (some hi) (some mx))(h:Xr P t (ev st x) (ev st lo) (ev st hi) (ev st mx)=some u):Qw P st o u st:=fun E B w0 a w hr=>by
 unfold Xr at h;split at h
 ·rename_i e id sz off len k1 l k2 hh k3 m hu hx hlo hhi hmx;split at h
  ·rename_i hc;obtain⟨ht,hsz,hlh,hhm,hml⟩:=hc;injection h with h;subst h;have hdx:=hr.ev x;have hd1:=hr.ev lo;have hd2:=hr.ev hi;have hd3:=hr.ev mx;rw[hx]at hdx;rw[hlo]at hd1;rw[hhi]at hd2;rw[hmx]at hd3;generalize hqx:a.eval x=qx at hdx;generalize hq1:a.eval lo=q1 at hd1;generalize hq2:a.eval hi=q2 at hd2;generalize hq3:a.eval mx=q3 at hd3;cases hd1;cases hd2;cases hd3;cases hdx with
   | ref _ _ _ _ _ A c hid hc hle hlen hA hs =>
   refine⟨.slice (if m=l then A else A.map (·.add (l*sz))) (hh-l) (m-l),w,E,?_,Env.le.refl E,QD.refl E w,hr,?_⟩
   ·have b1:=fun c'=>Vs (P:=P) (w:=w) (k:=k3) (n:=m) (y:=c) (by omega) c';have b2:=fun c'=>Vs (P:=P) (w:=w) (k:=k2) (n:=hh) (y:=m) hhm c';have b3:=fun c'=>Vs (P:=P) (w:=w) (k:=k1) (n:=l) (y:=hh) hlh c';simp only[execOp,ho,hqx,hq1,hq2,hq3,Option.map_some,Instr.sliceAt,Instr.slice,Sem.run_bind,run_underlying hu,Result.andThen_ok,Instr.sliceBounds,b1,b2,b3,Sem.run_pure,QG ht,←hsz]
   ·have hc:c=E.κ id-off:=by simpa using hc
    refine .ref id sz (off+l) (hh-l) (some (m-l)) _ (m-l) hid rfl ?_ (by omega) (fun hp=>?_) (fun hk=>by have:=hs hk;split<;>simpa using this)
    ·by_cases h0:m-l=0
     ·exact .inr h0
     ·exact .inl (by rcases hle with hle|hle<;>omega)
    ·by_cases hml':m=l
     ·rcases hp with hp|hp
      ·omega
      ·have h0:off=0:=by omega
       have hl0:l=0:=by omega
       have:=hA (.inr ⟨h0,hp.2⟩);subst this;rw[if_pos hml',hl0,Nat.add_zero]
     ·rw[if_neg hml'];have:=hA (.inl (by omega));subst this;rw[Option.map_some,Zn,Nat.add_mul]
  ·cases h
 ·cases h
def Xs(P:Program)(H:Qf)(t:TypeId)(x lo hi:AV):Option (AV×Nat) :=
 match P.underlying t,x,lo,hi with
 | some (.slice e),.ref id sz off len none,.v (.int _ (.ofNat l)),.v (.int _ (.ofNat h)) =>
  (match H id with
  | some b=>if ZQ P e=true∧sz=P.cellsOf e∧l≤h∧off+h≤b.es.length then some (.ref id sz (off+l) (h-l) none,id)else none
  | none=>none)
 | _,_,_,_=>none
theorem Qw.qfF{st:St}{o:Oper}{t:TypeId}{x lo hi:Operand}{u:AV}{id:Nat}(ho:o.op=.slice t x (some lo) (some hi) none)(h:Xs P st.H t (ev st x) (ev st lo) (ev st hi)=some (u,id)):Qw P st o u st:=fun E B w0 a w hr=>by
 unfold Xs at h;split at h
 ·rename_i e id0 sz off len k1 l k2 hh hu hx hlo hhi;split at h
  ·rename_i b hb;split at h
   ·rename_i hc;obtain⟨ht,hsz,hlh,hhm⟩:=hc;simp only[Option.some.injEq,Prod.mk.injEq]at h;obtain⟨rfl,rfl⟩:=h;have hdx:=hr.ev x;have hd1:=hr.ev lo;have hd2:=hr.ev hi;rw[hx]at hdx;rw[hlo]at hd1;rw[hhi]at hd2;generalize hqx:a.eval x=qx at hdx;generalize hq1:a.eval lo=q1 at hd1;generalize hq2:a.eval hi=q2 at hd2;cases hd1;cases hd2;have g3:b.es.length≤E.κ id0:=by
     by_cases hc0:b.cap=some 0
     ·rw[(hr.h.gst id0 b hb hc0).2];exact Nat.zero_le _
     ·obtain⟨cur,z,g1,g2,g3,_⟩:=hr.h.blk id0 b hb hc0;exact g3
    cases hdx with
    | ref _ _ _ _ _ A c hid hc hle hlen hA hs =>
    have hc:c=E.κ id0-off:=by simpa using hc
    refine⟨.slice (if c=l then A else A.map (·.add (l*sz))) (hh-l) (c-l),w,E,?_,Env.le.refl E,QD.refl E w,hr,?_⟩
    ·have b2:=fun c'=>Vs (P:=P) (w:=w) (k:=k2) (n:=hh) (y:=c) (by omega) c';have b3:=fun c'=>Vs (P:=P) (w:=w) (k:=k1) (n:=l) (y:=hh) hlh c';simp only[execOp,ho,hqx,hq1,hq2,Option.map_some,Option.map_none,Instr.sliceAt,Instr.slice,Sem.run_bind,run_underlying hu,Result.andThen_ok,Instr.sliceBounds,b2,b3,Sem.run_pure,QG ht,←hsz]
    ·refine .ref id0 sz (off+l) (hh-l) none _ (c-l) hid (by simp only[Option.getD_none];omega) ?_ (by omega) (fun hp=>?_) (fun hk=>by have:=hs hk;split<;>simpa using this)
     ·by_cases h0:c-l=0
      ·exact .inr h0
      ·exact .inl (by omega)
     ·by_cases hml':c=l
      ·rcases hp with hp|hp
       ·omega
       ·have h0:off=0:=by omega
        have hl0:l=0:=by omega
        have:=hA (.inr ⟨h0,hp.2⟩);subst this;rw[if_pos hml',hl0,Nat.add_zero]
      ·rw[if_neg hml'];have:=hA (.inl (by omega));subst this;rw[Option.map_some,Zn,Nat.add_mul]
   ·cases h
  ·cases h
 ·cases h
theorem Qw.nilIface{st:St}{o:Oper}{op:BinOp}{t yt:TypeId}{x:Operand}{ms:Array (String×TypeId)}(ho:o.op=.binOp op t x (.const .nilIface) yt)(hop:op=.eql∨op=.neq)(hu:P.underlying t=some (.interface ms))(hx:ev st x=.v .nilIface) :
  Qw P st o (.v (.bool (match op with|.eql=>true|_=>false))) st:=fun E B w0 a w hr=>by
 have hdx:=hr.ev x;rw[hx]at hdx;generalize hq:a.eval x=q at hdx;cases hdx;have hc:a.eval (.const .nilIface)=.nilIface:=rfl;have he:(Op.equal t .nilIface .nilIface).run P w=.ok true w:=by
  have:∀d:Nat,(Op.equalIn (d+1) t .nilIface .nilIface).run P w=.ok true w:=fun d=>by simp[Op.equalIn,run_underlying hu]
  exact this 9999
 rcases hop with rfl|rfl
 ·exact⟨.bool true,w,E,by simp[execOp,ho,hq,hc,eqGuard,binOp,he],Env.le.refl E,QD.refl E w,hr,.v _⟩
 ·exact⟨.bool false,w,E,by simp[execOp,ho,hq,hc,eqGuard,binOp,he],Env.le.refl E,QD.refl E w,hr,.v _⟩
end
noncomputable section
structure Tab where
 T:FuncId→Option (List AV→Option AV)
 own:FuncId→Bool
 ext:FuncId→Nat
 flat:FuncId→Bool
section
variable{P:Program}{ops:Array Oper}{n:Nat}{o:Oper}{c:Scl}{rd:Ev→List Nat}{s:AV→Ev→Ev}{T:Tab}
end
end
noncomputable section
section
variable{P:Program}{ops:Array Oper}{n:Nat}{o:Oper}{c:Scl}{rd:Ev→List Nat}{s:AV→Ev→Ev}{T:Tab}
def qq5(N:Nat)(ws w:WL):WL:=List.rec (motive:=fun _=>WL) w (fun j _ ih=>Bool.rec (motive:=fun _=>WL) ih (ins j ih) (Nat.ble (Nat.succ j) N)) ws
end
end
noncomputable section
section
variable{P:Program}{ops:Array Oper}{n:Nat}{o:Oper}{c:Scl}{rd:Ev→List Nat}{s:AV→Ev→Ev}{T:Tab}
end
end
noncomputable section
structure LE where
 n:Nat
 own:Bool
 e:Ev
 ps:Array Tmp
 assign:Code
 body:Code
 pend:Option Code
 busy:Bool
def qox{α:Type}(o:Option α):Bool:=Option.rec (motive:=fun _=>Bool) true (fun _=>false) o
def rest(q:LE):Bool:=Bool.rec (motive:=fun _=>Bool) (qox q.pend) false q.busy
section
variable{P:Program}{ops:Array Oper}{n:Nat}{o:Oper}{c:Scl}{rd:Ev→List Nat}{s:AV→Ev→Ev}{T:Tab}{st:St}
theorem Eff.yield(hg:wanted st ops o=some true){c:Call}(ho:o.op=.call c){x:Operand}(hc:c.callee=.value x){id:Nat}(hx:ev st x=.yl id){r:Zw}(hL:st.H.L id=some r)(hp:r.pend=none)(hb:r.busy=false)
  (hlen:c.args.size=r.ps.size) (hps:∀p∈r.ps.toList,p<r.n) {s1 s2:St} {e2:Exit} {j:Option Code}
  (h1:K6 P false r.assign { n:=r.n,env:=XC r.env r.ps.toList (c.args.toList.map (ev st)),H:=st.H,N:=st.N } .normal s1) (hL1:s1.H.L id=some r)
  (h2:K6 P false r.body { s1 with H:=s1.H.Je id (some { r with busy:=true }) } e2 s2) (hL2:s2.H.L id=some { r with busy:=true }) (hj:Ky e2=some j) :
  Eff P ops o st (.v (.bool j.isNone)) (s2.H.Je id (some { r with pend:=j })) s2.N:=fun st2 ha hH hN hd=>by
 have hm:∀y∈o.op.operands.toList,ev st2 y=ev st y:=ha.2.1;rw[ho]at hm;simp only[Op.operands,Call.operands,hc]at hm;have hx2:ev st2 x=ev st x:=hm x (by simp);have hargs:c.args.toList.map (ev st2)=c.args.toList.map (ev st):=List.map_congr_left fun y hy=>hm y (by simp at hy⊢;exact .inr hy);refine Qx.yield (ha.2.2.trans hg) ho hc (by rw[hx2];exact hx) (by rw[hH];exact hL) hp hb hlen hps ?_;rw[hargs,hH,hN];exact h1.mono fun e s' ⟨q1,q2⟩=>by
  subst q1 q2;exact⟨rfl,hL1,h2.mono fun e s' ⟨q1,q2⟩=>by subst q1 q2;exact⟨hL2,j,hj,_,St.X1 (fun d hd'=>by rw[ha.1];exact hd d hd'),Qx.nil rfl⟩⟩
end
end
noncomputable section
section
variable{α:Type}{d:α}
end
end
noncomputable section
section
variable{P:Program}{ops:Array Oper}{n:Nat}{o:Oper}{rd:Ev→List Nat}{s:AV→Ev→Ev}
def qb0(g:Option (Ev→AV))(e:Ev):Option AV:=match g with|none=>none|some g=>some (g e)
end
end
noncomputable section
section
variable{P:Program}{ops:Array Oper}{n:Nat}{o:Oper}{rd:Ev→List Nat}{s:AV→Ev→Ev}
end
end
noncomputable section
section
variable{P:Program}{ops:Array Oper}{n:Nat}{o:Oper}{c:Scl}{rd:Ev→List Nat}{s:AV→Ev→Ev}{T:Tab}
theorem Evd.any{st:St}{u:AV}(hg:wanted st ops o=some true)(h:∀st2,Agr ops o st st2→Qw P st2 o u st2):Evd P ops o (.lod []) st u st.H st.N :=
 ⟨rfl,rfl,fun id hm=>(by cases hm),fun H N _=>Eff.J4 (st:=st.mem H N) hg fun st2 ha hH hN=>by rw[VG (H:=H) (N:=N) hH hN];exact h st2 ((Agr.mem st H N).trans ha)⟩
theorem Evd.WR{st:St}{u:AV}(hg:wanted st ops o=some true){id:Nat}(hid:id<st.N)(hx:∃x∈o.op.operands.toList,(∃sz i off,ev st x=.ptr id sz i off)∨∃sz off len mx,ev st x=.ref id sz off len mx)
  (h:∀st2,Agr ops o st st2→st2.H id=st.H id→Qw P st2 o u st2):Evd P ops o (.lod [id]) st u st.H st.N:=by
 refine⟨rfl,rfl,fun i hm=>by simp at hm;subst hm;exact hid,fun H N hs=>Eff.J4 (st:=st.mem H N) hg fun st2 ha hH hN=>?_⟩;rw[VG (H:=H) (N:=N) hH hN];intro E B w0 a w hr;have hag:=(Agr.mem st H N).trans ha;obtain⟨x,hxm,hx⟩:=hx;have hd:=hr.ev x;rw[hag.2.1 x hxm]at hd;have hN:st2.N=N:=hN;have h3:id<N:=by rw[←hN,←hr.N];rcases hx with⟨sz,i,off,hx⟩|⟨sz,off,len,mx,hx⟩<;>rw[hx]at hd<;>generalize a.eval x=y at hd<;>cases hd<;>assumption
 have hH:st2.H=H:=hH;exact h st2 hag (by rw[hH];exact hs id (by simp) h3) E B w0 a w hr
structure Cop where
 k:OpC
 sc:Scl
 rd:Ev→List Nat
end
end
section
variable{P:Program}{E:Env}{B:Nat}{w0 w:World}{H:Qf}
end
noncomputable section
section
variable{P:Program}{ops:Array Oper}{n:Nat}{o:Oper}{c:Scl}{rd:Ev→List Nat}{s:AV→Ev→Ev}{T:Tab}
def qtp(b:UInt8):List UInt8→Nat→Int
 | [],_=>-1
 | x::l,i=>if x=b then Int.ofNat i else qtp b l (i+1)
def qgu(x y:AV):Option AV:=match x,y with|.v (.string z),.v (.int .u8 (.ofNat k))=>if k<256 then some (.v (.int .i64 (qtp k.toUInt8 z.data.toList 0)))else none|_,_=>none
end
end
section
variable{P:Program}{E:Env}{B:Nat}{w0 w:World}{H:Qf}{f:FuncId}{args:List AV}{r:AV}{N:Nat}
end
noncomputable section
section
variable{P:Program}{ops:Array Oper}{n:Nat}{o:Oper}{c:Scl}{rd:Ev→List Nat}{s:AV→Ev→Ev}{T:Tab}
end
end
noncomputable section
section
variable{P:Program}{ops:Array Oper}{n:Nat}{o:Oper}{T:Tab}{s:AV→Ev→Ev}
end
section
variable{P:Program}{ops:Array Oper}{n:Nat}{o:Oper}{T:Tab}{s:AV→Ev→Ev}
theorem OpW.ok{c:Cop}(hg:o.guard=none)(h:OpW P ops n o c.sc c.rd c.k):qty P ops n o c.sc c.rd c.k:=fun cf hcf e hh N L w K r hn hk =>h cf hcf e hh N L w K r hn (by unfold wanted;rw[hg]) hk
end
end
noncomputable section
abbrev KD:=Ev→Hp→Nat→Lp→WL→List Cls→R
abbrev OpD:=CF→Ev→Hp→Nat→Lp→WL→List Cls→KD→R
def qjx:List Cop→Clo OpD
 | []=>.mk fun _ e h N L w a K=>K e h N L w a
 | c::cs=>qj9 (qjx cs) fun kl=>match c.sc with
  | .flo=>.mk fun cf e h N L w a K=>c.k cf e h N L w (fun e h N L w=>kl cf e h N L w (.flo::a) K)
  | .lod=>.mk fun cf e h N L w a K=>c.k cf e h N L w (fun e' h N L w=>kl cf e' h N L w (.lod (c.rd e)::a) K)
  | .ext=>.mk fun cf e h N L w a K=>c.k cf e h N L w (fun e h N L w=>kl cf e h N L w (.hvy (some [])::a) K)
  | .hvy=>.mk fun cf e h N L w a K=>c.k cf e h N L [] (fun e h' N' L' ws=>kl cf e h' N' L' (qq5 N ws w) (.hvy (some ws)::a) K)
def Scl.pair:Scl→Scl→Bool
 | .flo,_=>true
 | _,.flo=>true
 | .lod,.lod=>true
 | .lod,.ext=>true
 | .ext,.lod=>true
 | _,_=>false
def fits:Cls→Scl→Prop
 | .flo,_=>True
 | .lod _,.lod=>True
 | .lod _,.hvy=>True
 | .hvy (some []),.ext=>True
 | .hvy _,.hvy=>True
 | _,_=>False
section
variable{P:Program}{ops:Array Oper}{n:Nat}{o:Oper}{T:Tab}
inductive qp4:List (Oper×Cls)→List Cop→Prop
 | nil:qp4 [] []
 | cons (o:Oper) (c:Cls) (q:Cop) (l:List (Oper×Cls)) (cs:List Cop) (h:fits c q.sc) (hl:qp4 l cs):qp4 ((o,c)::l) (q::cs)
def qsI(acc:List Nat)(o:Oper):Nat:=o.after.toList.foldl (fun m e=>bif Region.binds .any e then Nat.lor (Nat.lor m (Nat.shiftLeft 1 e.on)) (acc.getD e.on 0)else m) 0
def masks:List Oper→List Nat→List Nat
 | [],acc=>acc
 | o::l,acc=>masks l (acc++[qsI acc o])
def bsM(ops:Array Oper):List (List Nat):=(masks ops.toList []).map fun m=>(List.range ops.size).filter fun j=>m.testBit j
theorem qp4.get{ps:List (Oper×Cls)}{cs:List Cop}(h:qp4 ps cs):ps.length=cs.length∧∀(i:Nat) (q:Cop),cs[i]?=some q→∃p,ps[i]?=some p∧fits p.2 q.sc:=by
 induction h with
 | nil=>exact⟨rfl,fun i q hq=>by simp at hq⟩
 | cons o c q l cs h hl ih =>
  refine⟨by simp[ih.1],fun i q' hq=>?_⟩;cases i with
  | zero=>simp at hq;subst hq;exact⟨_,rfl,h⟩
  | succ i=>simp at hq;simpa using ih.2 i q' hq
end
end
end Go.AX
namespace Go.AX.Run
open Go.RowKit Go.Proofs Go.AX Go.Num Tryz
section
theorem mixed:prog.follows .mixedOrders=true:=by kernel_rfl
theorem Zg.ofM{ops:Array Oper}{cs:List Cls}(h:J9 ops cs.reverse (bsM ops)=true):Zg ops cs:=⟨_,h⟩
attribute [local simp] alen Qh QJ Q7 ZP
theorem qlI(k:Nat)(xs:List Nat):(nl xs).all (fun e=>e.all (Qu (k+1)))=true:=by simp[nl,Qu]
theorem qq0{H:Qf}{ty:TypeId}{id off len k:Nat}{mx:Option Nat}{xs:List Nat}{fz:Bool}{cap:Option Nat}(hb:H.b id=some ⟨ty,1,nl xs,fz,cap⟩)(hl:off+len≤xs.length):Q3 (k+2) H (.ref id 1 off len mx)=some (.ro (nl ((xs.drop off).take len))):=by
 rw[qaG (k:=k+1) hb rfl (by simpa[QJ]using hl) (by rw[List.all_eq_true];intro e he;exact List.all_eq_true.1 (qlI k xs) e (List.mem_of_mem_drop (List.mem_of_mem_take he)))]
 simp[nl,List.map_drop,List.map_take]
theorem qqY{H:Qf}{ty:TypeId}{id:Nat}{mx:Option Nat}{xs:List Nat}{len:Nat}{fz:Bool}{cap:Option Nat}(hb:H.b id=some ⟨ty,1,nl xs,fz,cap⟩)(hl:len=xs.length):[AV.ref id 1 0 len mx].mapM (Q3 9 (H.only [id]))=some [.ro (nl xs)]:=by have:=qq0 (k:=7) (H:=H.only [id]) (id:=id) (ty:=ty) (xs:=xs) (fz:=fz) (cap:=cap) (off:=0) (len:=len) (mx:=mx) (by simp[qrp,hb]) (by omega);rw[hl]at this;simp at this;simp[hl,this]
theorem Qt(n k:Nat):Qu (k+2) (lbs n)=true:=by simp[lbs,Qu,nl]
theorem qbS{r d x:Nat}(hr:r<d)(hx:x<1000000000)(hd2:d≤1000000000):∃p t:Nat,t=r*1000000000+x∧IntKind.i64.wrap ((r:Int)*1000000000)=(p:Int)∧IntKind.i64.wrap ((p:Int)+(x:Int))=(t:Int) ∧
  IntKind.i64.wrap ((t:Int)/(d:Int))=((t/d:Nat):Int)∧(t:Int).tmod (d:Int)=((t%d:Nat):Int)∧t/d<1000000000:=by
 have b1:r*1000000000+x<d*1000000000:=by have:=Nat.mul_le_mul_right 1000000000 (show r+1≤d from hr);rw[Nat.add_mul]at this;omega
 have b2:d*1000000000≤1000000000*1000000000:=Nat.mul_le_mul_right _ hd2;have b3:(r*1000000000+x)/d<1000000000:=Nat.div_lt_of_lt_mul b1;have b4:∃p,p=r*1000000000:=⟨_,rfl⟩;obtain⟨p,hp⟩:=b4;rw[←hp]at b1 b3;have b4:∃t,t=p+x:=⟨_,rfl⟩;obtain⟨t,ht⟩:=b4;rw[←ht]at b1 b3;exact⟨p,t,by rw[ht,hp],by rw[Ql (by omega) (by omega)];omega,by rw[Ql (by omega) (by omega)];omega,wrapn (by omega),rfl,b3⟩
theorem qfC(n d:Nat)(hd:0<d)(hd2:d≤1000000000)(hn:nlb n≤100000000):Qg prog 213 [lbs n,.v (.int .i64 (d:Int))] (.tup [lbs (n/d),.v (.int .i64 ((n%d:Nat):Int))]):=by
 refine Qg.body func213 ntmps213 ?_;unfold lbs;unfold nlb at hn;have hlim:=YN (B:=1000000000) (by decide) n;have hv:=Yo (B:=1000000000) (by decide) n;generalize lb 1000000000 n=xs at *;have hw:IntKind.i64.wrap (xs.length:Int)=xs.length:=wrapn (by omega);simp[JP (xs.length:Int) (by omega) (by omega),VI];refine Qc.pv (JR xs) (by simp only[List.all_cons,List.all_nil,Qo];rfl) (qa6 _) ?_;simp;refine Kn.iter (ys:=bwY xs) rfl (JQ xs (by omega)) (by simp) rfl
  (fun k H' N'=>∃(o:List Nat) (r:Nat),H'.b 0=some ⟨3,1,[[.v (.int .i64 (d:Int))]],false,some 1⟩∧H'.b 1=some ⟨3,1,nl o,false,some xs.length⟩∧H'.b 2=some ⟨82,1,[[.ref 1 1 0 xs.length none]],false,some 1⟩∧H'.b 3=some ⟨3,1,[[.v (.int .i64 (r:Int))]],false,some 1⟩∧N'=5 ∧
   o.length=xs.length∧(∀z∈o,z<1000000000)∧r<d∧lv 1000000000 (xs.drop (xs.length-k))=d*lv 1000000000 (o.drop (xs.length-k))+r)
  (fun j H' N'=>False) ?_ ?_ ?_ ?_ ?_ ?_
 ·rintro k H N H' hb ⟨o,r,h⟩;exact⟨o,r,by rw[hb];exact h⟩
 ·exact fun j H N H' hb h=>h
 ·refine⟨List.replicate xs.length 0,0,by simp,by simp,by simp,by simp,by simp,by simp,fun z hz=>by simp[List.eq_of_mem_replicate hz],hd,?_⟩;simp[lv]
 ·rintro k hk H N ⟨o,r,h0,h1,h2,h3,rfl,hol,hoz,hr,hlv⟩;simp[qa7];intro H1 hb;have e0:=h0;rw[←hb]at e0;have e1:=h1;rw[←hb]at e1;have e2:=h2;rw[←hb]at e2;have e3:=h3;rw[←hb]at e3;rw[Kp]at hk;obtain⟨i,hi⟩:∃i,xs.length-k=i+1:=⟨xs.length-k-1,by omega⟩;have hi1:xs.length-1-k=i:=by omega
  have hix:i<xs.length:=by omega
  have hi2:xs.length-(k+1)=i:=by omega
  have hx:=hlim _ (List.getElem_mem hix);obtain⟨p,t,ht,w1,w2,w3,w5,w4⟩:=qbS hr hx hd2;have hd0:¬d=0:=by omega
  simp[-Int.natCast_add,-Int.natCast_mul,-Int.natCast_emod,-Int.natCast_ediv,e3,hi1,hix,w1,w2];refine Qm.walk (fun _=>false) mixed ?_;simp[-Int.natCast_add,-Int.natCast_mul,-Int.natCast_emod,-Int.natCast_ediv,e0,e1,e2,hi2,hix,w3,w5,Q0,Ze,Zj,hd0,K8 o i (by omega),K9];refine⟨Zg.ofM (by kernel_rfl),?_⟩;refine⟨_,rfl,t%d,rfl,by simpa using hol,fun z hz=>?_,Nat.mod_lt _ hd,?_⟩
  ·rcases List.mem_or_eq_of_mem_set hz with h|rfl
   ·exact hoz z h
   ·exact w4
  ·have hio:i<o.length:=by omega
   rw[hi]at hlv;rw[List.drop_eq_getElem_cons hix,List.drop_eq_getElem_cons (l:=o.set i (t/d)) (by simpa using hio),lv,lv,List.drop_set_of_lt (by omega),hlv];simp only[List.getElem_set_self];have:=Nat.div_add_mod t d;generalize lv 1000000000 (o.drop (i+1))=L at *;rw[Nat.mul_add,←Nat.mul_assoc,Nat.mul_comm 1000000000 d,Nat.mul_assoc]at *;rw[Nat.mul_add];omega
 ·rintro H' N' hL ⟨o,r,h0,h1,h2,h3,rfl,hol,hoz,hr,hlv⟩;clear hL;simp;refine Qm.walk (fun _=>false) mixed ?_;simp[h2,Q0];refine QF.fz [1] (Kd o (by omega)) (qqY h1 hol.symm) (Qo _) ?_;simp[h3,Q0];refine⟨Zg.ofM (by kernel_rfl),?_⟩;rw[Kp,Nat.sub_self,List.drop_zero,List.drop_zero,hv]at hlv;have q1:n/d=lv 1000000000 o:=by rw[hlv,Nat.mul_add_div hd,Nat.div_eq_of_lt hr];rfl
  have q2:n%d=r:=by rw[hlv,Nat.mul_add_mod,Nat.mod_eq_of_lt hr]
  rw[q1,←q2,←Int.natCast_emod,←ZO (by decide) o hoz];exact .dat _ 9 (by simp[Qu,nl])
 ·exact fun j H' N' _ h=>h.elim
end
section
attribute [local simp] alen Qh QJ Q7 ZP
theorem Xf{H:Qf}{id:Nat}{b:Blk}(h:H.b id=some b):H.set id b=H:=by
 cases H with|mk f L =>
 simp only[Qf.set];congr;funext i;split
 ·rename_i e;subst e;exact h.symm
 ·rfl
theorem set_set(H:Qf)(id:Nat)(a b:Blk):(H.set id a).set id b=H.set id b:=by
 cases H with|mk f L =>
 simp only[Qf.set];congr;funext i;split<;>rfl
def seg(xs:List Nat)(off i:Nat):List Nat:=(xs.drop off).take i
theorem Xe{xs:List Nat}{off i:Nat}(h:off+i<xs.length):seg xs off (i+1)=seg xs off i++[xs[off+i]]:=by unfold seg;rw[List.take_succ_eq_append_getElem (by simp;omega)];simp
theorem Wz{xs:List Nat}{off i:Nat}(h:off+i≤xs.length):(seg xs off i).length=i:=by simp[seg];omega
def qfQ(xs ys:List Nat)(off i:Nat):Prop:=ys.length=xs.length∧(∀j,j<off∨off+i≤j→ys[j]?=xs[j]?)∧∀z∈ys,z<1000000000
theorem qda{xs ys:List Nat}{off i v:Nat}(h:qfQ xs ys off i)(hi:off+i<xs.length)(hv:v<1000000000):qfQ xs (ys.set (off+i) v) off (i+1)∧seg (ys.set (off+i) v) off (i+1)=seg ys off i++[v]:=by
 obtain⟨h1,h2,h3⟩:=h;refine⟨⟨by simp[h1],fun j hj=>?_,fun z hz=>?_⟩,?_⟩
 ·rw[List.getElem?_set_ne (by omega)];exact h2 j (by omega)
 ·rcases List.mem_or_eq_of_mem_set hz with h|rfl
  ·exact h3 z h
  ·exact hv
 ·rw[Xe (by simp[h1];exact hi)];congr 1
  ·unfold seg;rw[List.drop_set];rw[if_neg (by omega)];rw[List.take_set_of_le (by omega)]
  ·simp
theorem qrg{c q x:Nat}(hc:c<1000000000)(hq:q<1000000000)(hx:x<1000000000):∃p t:Nat,t=c+q*x∧IntKind.i64.wrap ((q:Int)*(x:Int))=(p:Int)∧IntKind.i64.wrap ((c:Int)+(p:Int))=(t:Int)∧t≤999999999000000000:=by
 have h1:q*x≤999999999*999999999:=Nat.mul_le_mul (by omega) (by omega);have b4:∃p,p=q*x:=⟨_,rfl⟩;obtain⟨p,hp⟩:=b4;have h2:(q:Int)*(x:Int)=(p:Int):=by rw[hp];exact(Int.natCast_mul q x).symm
 rw[←hp]at h1⊢;refine⟨p,c+p,rfl,?_,?_,by omega⟩
 ·rw[h2,Ql (by omega) (by omega)]
 ·rw[Ql (by omega) (by omega)];omega
theorem qnn{t u:Nat}(ht:t≤999999999000000000)(hu:u<1000000000):∃m w:Nat,(t:Int).tmod 1000000000=(m:Int)∧(t:Int)%1000000000=(m:Int)∧IntKind.i64.wrap ((t:Int).tdiv 1000000000)=(w:Int)∧IntKind.i64.wrap ((t:Int)/1000000000)=(w:Int) ∧
  IntKind.i64.wrap ((w:Int)+1)=((w+1:Nat):Int)∧(u<m→∃(g:Int) (u':Nat),IntKind.i64.wrap ((u:Int)-(m:Int))=g∧g<0∧IntKind.i64.wrap (g+1000000000)=(u':Int)∧w+1<1000000000∧u'<1000000000∧u'+t=u+1000000000*(w+1)) ∧
  (¬u<m→∃u':Nat,IntKind.i64.wrap ((u:Int)-(m:Int))=(u':Int)∧w<1000000000∧u'<1000000000∧u'+t=u+1000000000*w):=by
 have h0:=Nat.mod_add_div t 1000000000;have h1:=Nat.mod_lt t (show 0<1000000000 by decide);have e1:(t:Int)%1000000000=((t%1000000000:Nat):Int):=rfl;have e2:(t:Int)/1000000000=((t/1000000000:Nat):Int):=rfl;have e3:(t:Int).tmod 1000000000=((t%1000000000:Nat):Int):=rfl;have e4:(t:Int).tdiv 1000000000=((t/1000000000:Nat):Int):=rfl;rw[e1,e2,e3,e4];generalize t%1000000000=m at *;generalize t/1000000000=w at *;have h3:w≤999999999:=by omega
 refine⟨m,w,rfl,rfl,wrapn (by omega),wrapn (by omega),QH (by omega),fun h=>⟨(u:Int)-(m:Int),u+1000000000-m,Ql (by omega) (by omega),by omega,?_,by omega,by omega,by omega⟩,fun h=>⟨u-m,?_,by omega,by omega,by omega⟩⟩
 ·rw[Ql (by omega) (by omega)];omega
 ·rw[Ql (by omega) (by omega)];omega
theorem qex{H:Qf}{N id off len q:Nat}{mx:Option Nat}{xs v:List Nat}{cap:Option Nat}(hH:H.b id=some ⟨3,1,nl xs,false,cap⟩)(hl:off+len≤xs.length)(hx:∀z∈xs,z<1000000000)(hv:∀z∈v,z<1000000000)(hvl:v.length≤len)(hq:q<1000000000)(hm:xs.length≤1000000000) :
  Qc prog 232 [.ref id 1 off len mx,.ro (nl v),.v (.int .i64 (q:Int))] H N fun r H' N'=>∃ys c,r=.v (.bool (decide (c=0)))∧H'=H.set id ⟨3,1,nl ys,false,cap⟩∧N'=N∧qfQ xs ys off len∧lv 1000000000 (seg ys off len)+q*lv 1000000000 v=lv 1000000000 (seg xs off len)+1000000000^len*c:=by
 refine Qc.body func232 ntmps232 ?_;have hw:IntKind.i64.wrap (len:Int)=len:=wrapn (by omega);simp;refine Qp.of (fun(i:Nat) st=>i≤len∧∃env ys c,st=⟨49,env,H.set id ⟨3,1,nl ys,false,cap⟩,N⟩∧env 0=.ref id 1 off len mx∧env 1=.ro (nl v)∧env 2=.v (.int .i64 (q:Int))∧env 7=.v (.int .i64 ((c:Nat):Int))∧env 11=.v (.int .i64 (len:Int))∧env 12=.v (.int .i64 (i:Int)) ∧
   c<1000000000∧qfQ xs ys off i∧lv 1000000000 (seg ys off i)+q*lv 1000000000 (v.take i)=lv 1000000000 (seg xs off i)+1000000000^i*c) (fun i=>len-i) 0
  ⟨by omega,_,xs,0,by rw[Xf hH],rfl,rfl,rfl,rfl,rfl,rfl,by decide,⟨rfl,fun _ _=>rfl,hx⟩,by simp[seg,lv]⟩ ?_
 rintro i _ ⟨hi,env,ys,c,rfl,g0,g1,g2,g7,g11,g12,hc,hs,hlv⟩;by_cases hil:i<len
 ·have hoi:off+i<xs.length:=by omega
  have hoy:off+i<ys.length:=by rw[hs.1];exact hoi
  have hu:=hs.2.2 _ (List.getElem_mem hoy);have hxy:ys[off+i]=xs[off+i]:=by have:=hs.2.1 (off+i) (.inr (Nat.le_refl _));rw[List.getElem?_eq_getElem hoy,List.getElem?_eq_getElem hoi]at this;injection this
  have hend:∀t c' u':Nat,t=c+q*v.getD i 0→c'<1000000000→u'<1000000000→u'+t=ys[off+i]+1000000000*c'→c'<1000000000∧qfQ xs (ys.set (off+i) u') off (i+1)∧lv 1000000000 (seg (ys.set (off+i) u') off (i+1))+q*lv 1000000000 (v.take (i+1))=lv 1000000000 (seg xs off (i+1))+1000000000^(i+1)*c':=by
   intro t c' u' ht hc' hu' he;obtain⟨s1,s2⟩:=qda hs hoi hu';refine⟨hc',s1,?_⟩;have hvt:lv 1000000000 (v.take (i+1))=lv 1000000000 (v.take i)+1000000000^i*v.getD i 0:=by
    by_cases h:i<v.length
    ·rw[List.take_succ_eq_append_getElem h,YE];simp[h,Nat.min_eq_left (Nat.le_of_lt h)]
    ·rw[List.take_of_length_le (by omega),List.take_of_length_le (by omega)];simp[h]
   rw[s2,Xe hoi,YE,YE,Wz (by rw[hs.1];omega),Wz (by omega),hvt,Nat.pow_succ,←hxy];generalize 1000000000^i=P at *;have k1:P*(u'+t)=P*(ys[off+i]+1000000000*c'):=by rw[he]
   rw[ht]at k1;simp only[Nat.mul_add,Nat.mul_assoc]at k1⊢;rw[Nat.mul_left_comm q P];omega
  have hi1:i+1<9223372036854775808:=by omega
  by_cases hb:i<v.length
  ·obtain⟨p,t,ht,f1,f2,f3⟩:=qrg hc hq (hv _ (List.getElem_mem hb));obtain⟨m,w,k1,k2,k3,k4,k5,k6,k7⟩:=qnn f3 hu;have ht':t=c+q*v.getD i 0:=by rw[ht];simp[hb]
   by_cases hum:ys[off+i]<m
   ·obtain⟨g,u',j1,j2,j3,j4,j5,j6⟩:=k6 hum;obtain⟨z1,z2,z3⟩:=hend t _ _ ht' j4 j5 j6;simp[-Int.natCast_add,-Int.natCast_mul,-Int.natCast_emod,-Int.natCast_ediv,g0,g1,g2,g7,g11,g12,hil,hb,hoy,f1,f2,k1,k4,k5,j1,j2,j3,QH hi1,set_set,K9,Zj,Ze];exact⟨i+1,⟨by omega,_,_,⟨rfl,rfl⟩,by simpa using g0,by simpa using g1,by simpa using g2,_,rfl,by simpa using g11,rfl,z1,z2,z3⟩,by omega⟩
   ·obtain⟨u',j1,j2,j3,j4⟩:=k7 hum;obtain⟨z1,z2,z3⟩:=hend t _ _ ht' j2 j3 j4;have hn:¬(u':Int)<0:=Int.not_lt.2 (Int.natCast_nonneg _);obtain⟨g,hg⟩:∃g:Int,g=(u':Int):=⟨_,rfl⟩;rw[←hg]at j1 hn;simp[-Int.natCast_add,-Int.natCast_mul,-Int.natCast_emod,-Int.natCast_ediv,g0,g1,g2,g7,g11,g12,hil,hb,hoy,f1,f2,k1,k4,k5,j1,QH hi1,set_set,Zj,Ze,hn];rw[hg,K9];exact⟨i+1,⟨by omega,_,_,⟨rfl,rfl⟩,by simpa using g0,by simpa using g1,by simpa using g2,_,rfl,by simpa using g11,rfl,z1,z2,z3⟩,by omega⟩
  ·have ht':c=c+q*v.getD i 0:=by simp[hb]
   obtain⟨m,w,k1,k2,k3,k4,k5,k6,k7⟩:=qnn (t:=c) (by omega) hu;by_cases hum:ys[off+i]<m
   ·obtain⟨g,u',j1,j2,j3,j4,j5,j6⟩:=k6 hum;obtain⟨z1,z2,z3⟩:=hend c _ _ ht' j4 j5 j6;simp[-Int.natCast_add,-Int.natCast_mul,-Int.natCast_emod,-Int.natCast_ediv,g0,g1,g2,g7,g11,g12,hil,hb,hoy,k1,k4,k5,j1,j2,j3,QH hi1,set_set,K9,Zj,Ze];exact⟨i+1,⟨by omega,_,_,⟨rfl,rfl⟩,by simpa using g0,by simpa using g1,by simpa using g2,_,rfl,by simpa using g11,rfl,z1,z2,z3⟩,by omega⟩
   ·obtain⟨u',j1,j2,j3,j4⟩:=k7 hum;obtain⟨z1,z2,z3⟩:=hend c _ _ ht' j2 j3 j4;have hn:¬(u':Int)<0:=Int.not_lt.2 (Int.natCast_nonneg _);obtain⟨g,hg⟩:∃g:Int,g=(u':Int):=⟨_,rfl⟩;rw[←hg]at j1 hn;simp[-Int.natCast_add,-Int.natCast_mul,-Int.natCast_emod,-Int.natCast_ediv,g0,g1,g2,g7,g11,g12,hil,hb,hoy,k1,k4,k5,j1,QH hi1,set_set,Zj,Ze,hn];rw[hg,K9];exact⟨i+1,⟨by omega,_,_,⟨rfl,rfl⟩,by simpa using g0,by simpa using g1,by simpa using g2,_,rfl,by simpa using g11,rfl,z1,z2,z3⟩,by omega⟩
 ·have:i=len:=by omega
  subst this;simp[g0,g1,g2,g7,g11,g12];rw[List.take_of_length_le (by omega)]at hlv;exact⟨ys,c,Iff.rfl,rfl,hs,hlv⟩
end
end Go.AX.Run
namespace Go.Num
theorem qig{b U V top v1 P:Nat}(hP:0<P)(hV:v1*P≤V)(hU:U<(top+1)*P)(hv1:0<v1)(hV0:0<V)(hq:U<b*V):U/V≤min (top/v1) (b-1):=by
 have h1:U/V<b:=Nat.div_lt_of_lt_mul (by rw[Nat.mul_comm];exact hq);refine Nat.le_min.2 ⟨?_,by omega⟩;rw[Nat.le_div_iff_mul_le hv1];have h2:U/V*V≤U:=Nat.div_mul_le_self U V;have h3:(U/V*v1)*P≤U:=by refine Nat.le_trans ?_ h2;rw[Nat.mul_assoc];exact Nat.mul_le_mul_left _ hV
 have h4:(U/V*v1)*P<(top+1)*P:=Nat.lt_of_le_of_lt h3 hU;have:=Nat.lt_of_mul_lt_mul_right h4;omega
theorem qli{U V q t w P:Nat}(hP:0<P)(hV:w*P≤V)(hU:U<(t+1)*P)(h:t<q*w)(hV0:0<V)(hq:U/V≤q):U/V≤q-1:=by
 have h1:(t+1)*P≤q*w*P:=Nat.mul_le_mul_right P h;have h2:q*w*P≤q*V:=by rw[Nat.mul_assoc];exact Nat.mul_le_mul_left _ hV
 have h3:U<q*V:=by omega
 have h4:U/V<q:=Nat.div_lt_of_lt_mul (by rw[Nat.mul_comm];exact h3);omega
theorem qon{b U V q t w P:Nat}(hP:0<P)(hV:V<(w+1)*P)(hU:t*P≤U)(h:q*w≤t)(hqb:q<b)(hbV:b*P≤V):q≤U/V+1:=by
 have hV0:0<V:=by have:=Nat.mul_pos (show 0<b by omega) hP;omega
 have h1:q*V≤q*((w+1)*P):=Nat.mul_le_mul_left _ (Nat.le_of_lt hV);have h2:q*((w+1)*P)=q*w*P+q*P:=by rw[←Nat.mul_assoc,Nat.mul_add,Nat.mul_one,Nat.add_mul]
 have h3:q*w*P≤t*P:=Nat.mul_le_mul_right P h;have h4:(q+1)*P≤b*P:=Nat.mul_le_mul_right P hqb;rw[Nat.add_mul,Nat.one_mul]at h4;have h5:q*V<U+V:=by omega
 have h6:q-1≤U/V:=by rw[Nat.le_div_iff_mul_le hV0,Nat.sub_mul,Nat.one_mul];omega
 omega
end Go.Num
namespace Go.Num
theorem qom{b U V L P u0 u1 u2 Lv v1 v2:Nat}(hU:U=L+P*(u0+b*u1+b*b*u2))(hL:L<P)(h0:u0<b)(hV:V=Lv+P*(v2+b*v1))(hLv:Lv<P)(h2:v2<b)(hv1:0<v1)(hq:U<b*V) :
  U/V≤min ((u2*b+u1)/v1) (b-1)∧(∀q rest,rest+q*v1=u2*b+u1→U/V≤q→rest*b+u0<q*v2→U/V≤q-1)∧∀q rest,rest+q*v1=u2*b+u1→q<b→(b≤rest∨q*v2≤rest*b+u0)→q≤U/V+1:=by
 have hP:0<P:=by omega
 have hb:0<b:=by omega
 have hbP:0<b*P:=Nat.mul_pos hb hP;have e1:U=L+P*u0+(u2*b+u1)*(b*P):=by rw[hU];grind
 have e2:V=Lv+P*v2+v1*(b*P):=by rw[hV];grind
 have e3:U=L+((u2*b+u1)*b+u0)*P:=by rw[hU];grind
 have e4:V=Lv+(v1*b+v2)*P:=by rw[hV];grind
 have k1:P*u0+P≤b*P:=by have:=Nat.mul_le_mul_left P (show u0+1≤b from h0);rw[Nat.mul_add,Nat.mul_one,Nat.mul_comm P b]at this;exact this
 have k2:b*P≤v1*(b*P):=Nat.le_mul_of_pos_left _ hv1;have hV0:0<V:=by omega
 generalize u2*b+u1=top at *;refine⟨qig hbP (by omega) (by rw[Nat.add_mul,Nat.one_mul];omega) hv1 hV0 hq,fun q rest hr hQ hs=>?_,fun q rest hr hqb hs=>?_⟩
 ·refine qli (t:=top*b+u0) (w:=v1*b+v2) hP (by omega) (by rw[Nat.add_mul,Nat.one_mul];omega) ?_ hV0 hQ;have:top*b=rest*b+q*v1*b:=by rw[←hr,Nat.add_mul]
  rw[this,Nat.mul_add,←Nat.mul_assoc];omega
 ·refine qon (b:=b) (t:=top*b+u0) (w:=v1*b+v2) hP (by rw[Nat.add_mul,Nat.one_mul];omega) (by omega) ?_ hqb (by omega);have:top*b=rest*b+q*v1*b:=by rw[←hr,Nat.add_mul]
  rw[this,Nat.mul_add,←Nat.mul_assoc];rcases hs with hs|hs
  ·have a1:q*v2≤b*b:=Nat.mul_le_mul (by omega) (by omega);have a2:b*b≤rest*b:=Nat.mul_le_mul_right b hs;omega
  ·omega
theorem qdh{b:Nat}{xs:List Nat}{off k:Nat}(h:off+k<xs.length):lv b (AX.Run.seg xs off (k+1))=lv b (AX.Run.seg xs off k)+b^k*xs[off+k]:=by rw[AX.Run.Xe h,AX.Run.YE,AX.Run.Wz (by omega)]
theorem qdg{b:Nat}{xs:List Nat}(hx:∀z∈xs,z<b){off k:Nat}(h:off+k≤xs.length):lv b (AX.Run.seg xs off k)<b^k:=by have:=Wq (B:=b) (AX.Run.seg xs off k) fun z hz=>hx z (List.mem_of_mem_drop (List.mem_of_mem_take hz));rwa[AX.Run.Wz h]at this
end Go.Num
namespace Go.AX.Run
open Go.RowKit Go.Proofs Go.AX Go.Num Tryz
section
attribute [local simp] alen Qh QJ Q7 ZP
theorem qrQ{u2 u1 v1:Nat}(h2:u2<1000000000)(h1:u1<1000000000)(hv:0<v1)(hv1:v1<1000000000):∃p top q1 q0 m0 rest:Nat,top=u2*1000000000+u1∧IntKind.i64.wrap ((u2:Int)*1000000000)=(p:Int)∧IntKind.i64.wrap ((p:Int)+(u1:Int))=(top:Int)∧IntKind.i64.wrap ((top:Int)/(v1:Int))=(q1:Int) ∧
  amax true [.v (.int .i64 (q1:Int)),.v (.int .i64 999999999)]=some (.v (.int .i64 (q0:Int)))∧q0=min (top/v1) (1000000000-1)∧IntKind.i64.wrap ((q0:Int)*(v1:Int))=(m0:Int)∧IntKind.i64.wrap ((top:Int)-(m0:Int))=(rest:Int)∧rest+q0*v1=top∧q0≤999999999∧top<1000000000000000000:=by
 obtain⟨p,top,ht,w1,w2,_⟩:=qbS (r:=u2) (d:=1000000000) (x:=u1) h2 h1 (Nat.le_refl _);have htop:top<1000000000000000000:=by omega
 have hq1:top/v1≤top:=Nat.div_le_self _ _;have hm:min (top/v1) (1000000000-1)*v1≤top:=Nat.le_trans (Nat.mul_le_mul_right _ (Nat.min_le_left _ _)) (Nat.div_mul_le_self _ _);have hq0:min (top/v1) (1000000000-1)≤999999999:=Nat.min_le_right _ _;have e1:IntKind.i64.wrap ((top:Int)/(v1:Int))=((top/v1:Nat):Int):=wrapn (by omega);have e2:amax true [.v (.int .i64 ((top/v1:Nat):Int)),.v (.int .i64 999999999)]=some (.v (.int .i64 ((min (top/v1) (1000000000-1):Nat):Int))):=by simp only[amax,if_true];congr 3;split<;>omega
 have e3:IntKind.i64.wrap (((min (top/v1) (1000000000-1):Nat):Int)*(v1:Int))=((min (top/v1) (1000000000-1)*v1:Nat):Int):=by rw[←Int.natCast_mul];exact wrapn (by omega)
 refine⟨p,top,_,_,_,top-min (top/v1) (1000000000-1)*v1,ht,w1,w2,e1,e2,rfl,e3,?_,by omega,hq0,htop⟩;rw[Ql (by omega) (by omega)];omega
theorem qoI{q rest v1 v2 u0 top:Nat}(hq:q≤999999999)(h2:v2<1000000000)(hr:rest<1000000000)(h0:u0<1000000000):∃a c d:Nat,IntKind.i64.wrap ((q:Int)*(v2:Int))=(a:Int)∧IntKind.i64.wrap ((rest:Int)*1000000000)=(c:Int)∧IntKind.i64.wrap ((c:Int)+(u0:Int))=(d:Int)∧a=q*v2∧d=rest*1000000000+u0:=by obtain⟨p,t,ht,w1,w2,_⟩:=qbS (r:=rest) (d:=1000000000) (x:=u0) hr h0 (Nat.le_refl _);have h1:q*v2≤999999999*999999999:=Nat.mul_le_mul hq (by omega);refine⟨q*v2,p,t,?_,w1,w2,rfl,ht⟩;rw[←Int.natCast_mul];exact wrapn (by omega)
theorem qgK{xs ys zs:List Nat}{off i:Nat}(h:qfQ xs ys off i)(h':qfQ ys zs off i):qfQ xs zs off i :=
 ⟨h'.1.trans h.1,fun j hj=>(h'.2.1 j hj).trans (h.2.1 j hj),h'.2.2⟩
def Hd(p:Prop):Prop:=p
theorem qlh(b L P u0 u1 u2:Nat):L+P*u0+P*b*u1+P*b*b*u2=L+P*(u0+b*u1+b*b*u2):=by grind
theorem qih(b L P u0 u1:Nat):L+P*u0+P*b*u1=L+P*(u0+b*u1):=by grind
theorem qku{b P L Ly Lv cy m w u x:Nat}(h:L+P*cy=Ly+Lv)(he:m+b*w=cy+u+x):L+P*m+P*b*w=Ly+P*u+(Lv+P*x):=by
 have:P*(m+b*w)=P*(cy+u+x):=by rw[he]
 simp only[Nat.mul_add,←Nat.mul_assoc]at this;omega
theorem qlf{Y q V U:Nat}(hV:0<V)(h:Y+q*V=U)(h1:U/V≤q):q=U/V∧Y=U%V:=by
 have h2:q≤U/V:=by rw[Nat.le_div_iff_mul_le hV];omega
 have h3:q=U/V:=by omega
 refine⟨h3,?_⟩;have:=Nat.div_add_mod U V;rw[h3,Nat.mul_comm]at h;omega
theorem qlg{Y Z q V U M c k:Nat}(hV:0<V)(hc:0<c)(h:Y+q*V=U+M*c)(hY:Y<M)(hU:U<M)(hZ:Z<M)(h':Z+M*k=Y+V)(h1:U/V≤q)(h2:q≤U/V+1):q-1=U/V∧Z=U%V:=by
 have hM:M≤M*c:=Nat.le_mul_of_pos_right _ hc;have h3:U<q*V:=by omega
 have h4:U/V<q:=Nat.div_lt_of_lt_mul (by rw[Nat.mul_comm];exact h3);have h5:q=U/V+1:=Nat.le_antisymm h2 h4;refine⟨by rw[h5,Nat.add_sub_cancel],?_⟩;have h6:=Nat.div_add_mod U V;rw[h5,Nat.add_mul,Nat.one_mul,Nat.mul_comm (U/V)]at h;have h7:Z+M*k=U%V+M*c:=by omega
 have h8:(Z+M*k)%M=(U%V+M*c)%M:=by rw[h7]
 rw[Nat.add_mul_mod_self_left,Nat.add_mul_mod_self_left,Nat.mod_eq_of_lt hZ,Nat.mod_eq_of_lt (Nat.lt_of_le_of_lt (Nat.mod_le U V) hU)]at h8;exact h8
theorem qmM{c a b:Nat}(hc:c≤1)(ha:a<1000000000)(hb:b<1000000000):∃s1 s2 m w:Nat,IntKind.i64.wrap ((c:Int)+(a:Int))=(s1:Int)∧IntKind.i64.wrap ((s1:Int)+(b:Int))=(s2:Int)∧(s2:Int).tmod 1000000000=(m:Int)∧(s2:Int)%1000000000=(m:Int)∧IntKind.i64.wrap ((s2:Int).tdiv 1000000000)=(w:Int)∧IntKind.i64.wrap ((s2:Int)/1000000000)=(w:Int)∧(b=0→s2=s1) ∧
  w≤1∧m<1000000000∧m+1000000000*w=c+a+b:=by
 have h0:=Nat.mod_add_div (c+a+b) 1000000000;have h1:=Nat.mod_lt (c+a+b) (show 0<1000000000 by decide);have h2:(c+a+b)/1000000000≤1:=by omega
 have e1:∀n:Nat,(n:Int)%1000000000=((n%1000000000:Nat):Int):=fun _=>rfl;have e2:∀n:Nat,(n:Int)/1000000000=((n/1000000000:Nat):Int):=fun _=>rfl;have e3:∀n:Nat,(n:Int).tmod 1000000000=((n%1000000000:Nat):Int):=fun _=>rfl;have e4:∀n:Nat,(n:Int).tdiv 1000000000=((n/1000000000:Nat):Int):=fun _=>rfl;exact⟨c+a,c+a+b,_,_,wadd (by omega),wadd (by omega),e3 _,e1 _,by rw[e4];exact wrapn (by omega),by rw[e2];exact wrapn (by omega),fun h=>by omega,h2,h1,h0⟩
theorem qd5{H:Qf}{N id off n:Nat}{mx:Option Nat}{xs vs:List Nat}{cap:Option Nat}(n1 k:Nat)(hn1:n=n1+1)(hk:n1=k+1)(hH:H.b id=some ⟨3,1,nl xs,false,cap⟩)(hl:off+(n+1)≤xs.length)(hx:∀z∈xs,z<1000000000)(hv:∀z∈vs,z<1000000000)(hvl:vs.length=n)
  (hv1:0<vs.getD n1 0) (hq:lv 1000000000 (seg xs off (n+1))<1000000000*lv 1000000000 vs) (hm:xs.length≤1000000000) (hid:id<N) :
  Qc prog 214 [.ref id 1 off (n+1) mx,.ro (nl vs)] H N fun r H' N'=>∃ys,r=.v (.int .i64 ((lv 1000000000 (seg xs off (n+1))/lv 1000000000 vs:Nat):Int))∧H'=H.set id ⟨3,1,nl ys,false,cap⟩∧N'=N∧qfQ xs ys off (n+1)∧lv 1000000000 (seg ys off (n+1))=lv 1000000000 (seg xs off (n+1))%lv 1000000000 vs:=by
 have q0:off+k<xs.length:=by omega
 have q1:off+n1<xs.length:=by omega
 have q2:off+n<xs.length:=by omega
 have p1:n1<vs.length:=by omega
 have p2:k<vs.length:=by omega
 have hv1':0<vs[n1]:=by simpa[p1]using hv1
 have hU:lv 1000000000 (seg xs off (n+1))=lv 1000000000 (seg xs off k)+1000000000^k*(xs[off+k]+1000000000*xs[off+n1]+1000000000*1000000000*xs[off+n]):=by subst hn1 hk;rw[qdh q2,qdh q1,qdh q0];simp only[Nat.pow_succ];exact qlh _ _ _ _ _ _
 have hV:lv 1000000000 vs=lv 1000000000 (seg vs 0 k)+1000000000^k*(vs[k]+1000000000*vs[n1]):=by
  have:vs=seg vs 0 (k+1+1):=by simp only[seg,List.drop_zero];rw[List.take_of_length_le (by omega)]
  rw[congrArg (lv 1000000000) this,qdh (by omega),qdh (by omega)];subst hk;simp only[Nat.zero_add,Nat.pow_succ];exact qih _ _ _ _ _
 have hall:=qom hU (qdg hx (by omega)) (hx _ (List.getElem_mem q0)) hV (qdg hv (by omega)) (hv _ (List.getElem_mem p2)) hv1' hq;have hUlt:=qdg (off:=off) (k:=n+1) hx hl;have hVlt:=Wq vs hv;rw[hvl]at hVlt;have hVp:0<lv 1000000000 vs:=by
  rcases Nat.eq_zero_or_pos (lv 1000000000 vs)with h|h
  ·rw[h]at hq;omega
  ·exact h
 clear hU hV;generalize hUe:lv 1000000000 (seg xs off (n+1))=U at *;generalize hVe:lv 1000000000 vs=V at *;obtain⟨h1,h2,h3⟩:=hall;have hUlt:Hd (U<1000000000^(n+1)):=hUlt;have hVlt:Hd (V<1000000000^n):=hVlt;obtain⟨p,top,qq,qs,m0,rs,t1,t2,t3,t4,t5,t6,t7,t8,t9,t10,t11⟩:=qrQ (hx _ (List.getElem_mem q2)) (hx _ (List.getElem_mem q1)) hv1' (hv _ (List.getElem_mem p1));rw[←t1]at h1 h2 h3;refine Qc.body func214 ntmps214 ?_;have wn:IntKind.i64.wrap (n:Int)=n:=wrapn (by omega);have wn1:IntKind.i64.wrap ((n:Int)-1)=n1:=by rw[Ql (by omega) (by omega)];omega
 have wn2:IntKind.i64.wrap ((n:Int)-2)=k:=by rw[Ql (by omega) (by omega)];omega
 have c1:n<n+1:=by omega
 have c2:n1<n+1:=by omega
 have c3:k<n+1:=by omega
 have hz:¬vs[n1]=0:=by omega
 simp[hvl];refine Qm.walk (fun _=>false) mixed ?_;have gx1:=K8 vs n1 p1;have gx2:=K8 vs k p2;simp[-Int.natCast_add,-Int.natCast_mul,-Int.natCast_emod,-Int.natCast_ediv,Q0,hH,wn1,c1,c2,q1,q2,t2,t3,t4,t5,t7,t8,hz,Ze,hid,gx1];refine⟨Zg.ofM (by kernel_rfl),?_⟩;refine Qp.cut 0 (fun s=>∃env q,s=⟨106,env,H,N⟩∧env 0=.ref id 1 off (n+1) mx∧env 1=.ro (nl vs)∧env 5=.v (.int .i64 (n:Int))∧env 7=.v (.int .i64 ((q:Nat):Int))∧U/V≤q∧q≤U/V+1∧q≤999999999) ?_ ?_;refine Qp.of (fun(q:Nat) st=>∃env rest,st=⟨106,env,H,N⟩∧env 0=.ref id 1 off (n+1) mx∧env 1=.ro (nl vs)∧env 5=.v (.int .i64 (n:Int))∧env 7=.v (.int .i64 (q:Int))∧env 8=.v (.int .i64 ((rest:Nat):Int))∧rest+q*vs[n1]=top∧U/V≤q∧q≤999999999) (fun q=>q) qs
  ⟨_,rs,rfl,rfl,rfl,rfl,rfl,rfl,t9,by rw[t6];exact h1,t10⟩ ?_
 rintro q _ ⟨env,rest,rfl,g0,g1,g5,g7,g8,hr,hQ,hq9⟩;have hrt:rest<1000000000000000000:=by omega
 have wr:IntKind.i64.wrap ((rest:Int)+(vs[n1]:Int))=((rest+vs[n1]:Nat):Int):=by have:=hv _ (List.getElem_mem p1);rw[Ql (by omega) (by omega)];omega
 simp;refine Qm.walk (fun _=>false) mixed ?_;by_cases hrb:rest<1000000000
 ·obtain⟨a,c,d,l1,l2,l3,l4,l5⟩:=qoI (v1:=vs[n1]) (top:=top) hq9 (hv _ (List.getElem_mem p2)) hrb (hx _ (List.getElem_mem q0));have hrb':(rest:Int)<1000000000:=by omega
  by_cases hda:d<a
  ·have hda':(d:Int)<(a:Int):=by omega
   simp(maxSteps:=200000) [-Qa,-Qb,-Int.natCast_add,-Int.natCast_mul,g0,g1,g5,g7,g8,Q0,hH,wn1,wn2,c3,q0,hid,gx1,gx2,hrb',l1,l2,l3,hda',wr];refine⟨Zg.ofM (by kernel_rfl),?_⟩;have hq1:0<q:=by
    rcases Nat.eq_zero_or_pos q with h|h
    ·subst h;rw[Nat.zero_mul]at l4;omega
    ·exact h
   have wq:IntKind.i64.wrap ((q:Int)-1)=((q-1:Nat):Int):=by rw[Ql (by omega) (by omega)];omega
   have hqm:q*vs[n1]=(q-1)*vs[n1]+vs[n1]:=by obtain⟨e,rfl⟩:∃e,q=e+1:=⟨q-1,by omega⟩;rw[Nat.add_sub_cancel,Nat.add_mul,Nat.one_mul]
   have hnx:=h2 q rest hr hQ (by omega);simp[-Int.natCast_add,-Int.natCast_mul,wq];exact⟨q-1,⟨rfl,_,rfl,by omega,hnx,by omega⟩,by omega⟩
  ·have hda':¬(d:Int)<(a:Int):=by omega
   simp(maxSteps:=200000) [-Qa,-Qb,-Int.natCast_add,-Int.natCast_mul,g0,g1,g5,g7,g8,Q0,hH,wn1,wn2,c3,q0,hid,gx1,gx2,hrb',l1,l2,l3,hda',wr];refine⟨Zg.ofM (by kernel_rfl),?_⟩;have hfin:=h3 q rest hr (by omega) (.inr (by omega));exact⟨q,rfl,hQ,hfin,hq9⟩
 ·have hrb':¬(rest:Int)<1000000000:=by omega
  simp(maxSteps:=200000) [-Qa,-Qb,-Int.natCast_add,-Int.natCast_mul,g0,g1,g5,g7,g8,wn1,gx1,hrb',wr];refine⟨Zg.ofM (by kernel_rfl),?_⟩;have hfin:=h3 q rest hr (by omega) (.inl (by omega));exact⟨q,rfl,hQ,hfin,hq9⟩
 rintro _ ⟨env,q,rfl,g0,g1,g5,g7,hQ,hQ1,hq9⟩;simp[g0,g1,g7];refine(qex hH hl hx hv (by omega) (by omega) hm).mono ?_;rintro r H' N' ⟨ys,c,rfl,rfl,rfl,hs,hlv⟩;rw[hUe,hVe]at hlv;have hUlt':U<1000000000^(n+1):=hUlt;have hYlt:lv 1000000000 (seg ys off (n+1))<1000000000^(n+1):=qdg hs.2.2 (by rw[hs.1];exact hl);by_cases hc:c=0
 ·simp[hc,g7];rw[hc,Nat.mul_zero,Nat.add_zero]at hlv;obtain⟨z1,z2⟩:=qlf hVp hlv hQ;exact⟨by rw[z1];rfl,ys,rfl,hs,z2⟩
 ·have hM:∃M,M=1000000000^(n+1):=⟨_,rfl⟩;obtain⟨M,hM⟩:=hM;have hMM:Hd (M=1000000000^(n+1)):=hM;rw[←hM]at hlv hUlt' hYlt;have hlv:Hd (lv 1000000000 (seg ys off (n+1))+q*V=U+M*c):=hlv;clear hM hUlt hVlt h1 h2 h3;have hqv:0<q:=by
   rcases Nat.eq_zero_or_pos q with h|h
   ·subst h;have hlv':lv 1000000000 (seg ys off (n+1))+0*V=U+M*c:=hlv;have:M≤M*c:=Nat.le_mul_of_pos_right _ (by omega);omega
   ·exact h
  have wq:IntKind.i64.wrap ((q:Int)-1)=((q-1:Nat):Int):=by rw[Ql (by omega) (by omega)];omega
  have wl:IntKind.i64.wrap ((n+1:Nat):Int)=((n+1:Nat):Int):=wrapn (by omega);simp[-Int.natCast_add,hc,g0,g7,wq];refine Qp.of (fun(i:Nat) st=>i≤n+1∧∃env zs cy,st=⟨106,env,H.set id ⟨3,1,nl zs,false,cap⟩,N'⟩∧env 0=.ref id 1 off (n+1) mx∧env 1=.ro (nl vs)∧env 5=.v (.int .i64 (n:Int))∧env 7=.v (.int .i64 ((q-1:Nat):Int))∧env 9=.v (.int .i64 ((cy:Nat):Int))∧env 78=.v (.int .i64 ((n+1:Nat):Int))∧env 79=.v (.int .i64 (i:Int)) ∧
    cy≤1∧qfQ ys zs off i∧Hd (lv 1000000000 (seg zs off i)+1000000000^i*cy=lv 1000000000 (seg ys off i)+lv 1000000000 (vs.take i))) (fun i=>n+1-i) 0
   ⟨by omega,_,ys,0,rfl,by simpa using g0,by simpa using g1,by simpa using g5,rfl,rfl,rfl,rfl,by decide,⟨rfl,fun _ _=>rfl,hs.2.2⟩,by simp[Hd,seg,lv]⟩ ?_
  rintro i _ ⟨hi,env,zs,cy,rfl,g0,g1,g5,g7,g9,g78,g79,hcy,hz',hinv⟩;by_cases hin:i<n+1
  ·have hoi:off+i<ys.length:=by rw[hs.1];omega
   have hoy:off+i<zs.length:=by rw[hz'.1];exact hoi
   have hu:=hz'.2.2 _ (List.getElem_mem hoy);have hxy:zs[off+i]=ys[off+i]:=by have:=hz'.2.1 (off+i) (.inr (Nat.le_refl _));rw[List.getElem?_eq_getElem hoy,List.getElem?_eq_getElem hoi]at this;injection this
   have hend:∀x m w:Nat,vs.getD i 0=x→m<1000000000→m+1000000000*w=cy+zs[off+i]+x→qfQ ys (zs.set (off+i) m) off (i+1)∧Hd (lv 1000000000 (seg (zs.set (off+i) m) off (i+1))+1000000000^(i+1)*w=lv 1000000000 (seg ys off (i+1))+lv 1000000000 (vs.take (i+1))):=by
    intro x m w hxx hm' he;obtain⟨s1,s2⟩:=qda hz' hoi hm';refine⟨s1,?_⟩;have hvt:lv 1000000000 (vs.take (i+1))=lv 1000000000 (vs.take i)+1000000000^i*vs.getD i 0:=by
     by_cases h:i<vs.length
     ·rw[List.take_succ_eq_append_getElem h,YE];simp[h,Nat.min_eq_left (Nat.le_of_lt h)]
     ·rw[List.take_of_length_le (by omega),List.take_of_length_le (by omega)];simp[h]
    unfold Hd at hinv⊢;rw[s2,Xe hoi,YE,YE,Wz (by rw[hz'.1];omega),Wz (by omega),hvt,hxx,Nat.pow_succ,←hxy];exact qku hinv he
   have hi1:i+1<9223372036854775808:=by omega
   by_cases hb:i<n
   ·have hbv:i<vs.length:=by omega
    have hbg:=K8 vs i hbv;obtain⟨s1,s2,m,w,f1,f2,f3,f4,f5,f6,f7,f8,f9,f10⟩:=qmM hcy hu (hv _ (List.getElem_mem hbv));obtain⟨z1,z2⟩:=hend _ m w (by simp[hbv]) f9 f10;clear hinv hend;simp[-Int.natCast_add,-Int.natCast_mul,-Int.natCast_emod,-Int.natCast_ediv,g0,g1,g5,g7,g9,g78,g79,hin,hb,hoy,hbv,f1,f2,f3,f6,Zj,Ze,K9,set_set,QH hi1];exact⟨i+1,⟨by omega,_,_,⟨rfl,rfl⟩,by simpa using g0,by simpa using g1,by simpa using g5,by simpa using g7,_,rfl,by simpa using g78,rfl,f8,z1,z2⟩,by omega⟩
   ·obtain⟨s1,s2,m,w,f1,f2,f3,f4,f5,f6,f7,f8,f9,f10⟩:=qmM (b:=0) hcy hu (by decide);obtain⟨z1,z2⟩:=hend 0 m w (by simp[show ¬i<vs.length by omega]) f9 f10;rw[f7 rfl]at f3 f4 f5 f6;clear hinv hend;simp[-Int.natCast_add,-Int.natCast_mul,-Int.natCast_emod,-Int.natCast_ediv,g0,g1,g5,g7,g9,g78,g79,hin,hb,hoy,f1,f3,f6,Zj,Ze,K9,set_set,QH hi1];exact⟨i+1,⟨by omega,_,_,⟨rfl,rfl⟩,by simpa using g0,by simpa using g1,by simpa using g5,by simpa using g7,_,rfl,by simpa using g78,rfl,f8,z1,z2⟩,by omega⟩
  ·have:i=n+1:=by omega
   subst this;simp[g0,g7,g78,g79];have hinv':lv 1000000000 (seg zs off (n+1))+1000000000^(n+1)*cy=lv 1000000000 (seg ys off (n+1))+lv 1000000000 (vs.take (n+1)):=hinv;have hM:M=1000000000^(n+1):=hMM;have hZlt:lv 1000000000 (seg zs off (n+1))<1000000000^(n+1):=qdg hz'.2.2 (by rw[hz'.1,hs.1];exact hl);rw[←hM]at hinv' hZlt;rw[List.take_of_length_le (by omega),hVe]at hinv';obtain⟨z1,z2⟩:=qlg hVp (by omega) hlv hYlt hUlt' hZlt hinv' hQ hQ1;exact⟨by rw[z1];rfl,zs,rfl,qgK hs hz',z2⟩
end
section
attribute [local simp] alen Qh QJ Q7 ZP
theorem qsc{H H1:Qf}{N:Nat}{b:Blk}(h:H1=H.set N b):H1.b N=some b:=by subst h;simp
theorem qmv{H:Qf}{N id len:Nat}{xs:List Nat}{cap:Option Nat}(hH:H.b id=some ⟨3,1,nl xs,false,cap⟩)(hl:len=xs.length)(hm:xs.length≤1000000000) :
  Qc prog 177 [.ref id 1 0 len none] H N fun r H' N'=>r=.ref id 1 0 (WJ xs xs.length) none∧H'=H∧N'=N:=by
 subst hl;refine Qc.body func177 ntmps177 ?_;simp;refine Qp.of (fun(n:Nat) st=>n≤xs.length∧WJ xs xs.length=WJ xs n∧∃env,st=⟨21,env,H,N⟩∧env 0=.ref id 1 0 n none) (fun n=>n) xs.length ⟨Nat.le_refl _,rfl,_,rfl,by simp⟩ ?_;rintro n _ ⟨hn,hc,env,rfl,h0⟩;cases n with
 | zero=>simp[-Qa,-Qb,h0,hc,WJ]
 | succ n =>
  have e1:IntKind.i64.wrap (((n+1:Nat):Int)-1)=n:=by rw[Ql (by omega) (by omega)];omega
  have e2:(0:Int)<((n+1:Nat):Int):=by omega
  have e3:IntKind.i64.wrap ((n+1:Nat):Int)=((n+1:Nat):Int):=wrapn (by omega);have hn':n<xs.length:=by omega
  have hg:=K8 xs n hn';have hsl:aslice prog 82 (.ref id 1 0 (n+1) none) none (some (.v (.int .i64 (n:Int))))=some (.ref id 1 0 n none):=by simp[aslice,abounds,idx,show(n:Int)≤(n:Int)+1 by omega]
  by_cases hz:xs[n]=0
  ·simp[-Qa,-Qb,-Int.natCast_add,h0,hH,e1,hg,hz,hsl];exact⟨n,⟨by omega,by rw[hc];simp only[WJ];rw[if_pos (by simp[hn',hz])],rfl⟩,by omega⟩
  ·have hz':¬((xs[n]:Nat):Int)=0:=by omega
   simp[-Qa,-Qb,-Int.natCast_add,h0,hH,e1,hz,hsl,hc,WJ,hn']
def tJ1(H:Qf)(N:Nat)(x y:List Nat)(i:Nat)(st:St):Prop:=i≤x.length∧∃env H1 o,st=⟨63,env,H1,N+1⟩∧env 0=.ro (nl x)∧env 1=.ro (nl y)∧env 5=.ref N 1 0 (x.length+y.length) none∧env 17=.ro (nl x)∧env 18=.v (.int .i64 ((x.length:Nat):Int))∧env 19=.v (.int .i64 i) ∧
   H1=H.set N ⟨3,1,nl o,false,some (x.length+y.length)⟩∧o.length=x.length+y.length∧(∀z∈o,z<1000000000)∧lv 1000000000 o=lv 1000000000 (x.take i)*lv 1000000000 y∧∀k,i+y.length≤k→o.getD k 0=0
def tJ2(H:Qf)(N:Nat)(x y:List Nat)(i a:Nat)(j:Nat)(st:St):Prop:=j≤y.length∧∃env H1 o c,st=⟨63,env,H1,N+1⟩∧env 0=.ro (nl x)∧env 1=.ro (nl y)∧env 5=.ref N 1 0 (x.length+y.length) none∧env 17=.ro (nl x)∧env 18=.v (.int .i64 ((x.length:Nat):Int))∧env 19=.v (.int .i64 i) ∧
    env 6=.v (.int .i64 i)∧env 7=.v (.int .i64 (a:Nat))∧env 8=.v (.int .i64 (c:Nat))∧env 24=.ro (nl y)∧env 25=.v (.int .i64 ((y.length:Nat):Int))∧env 26=.v (.int .i64 j) ∧
    H1=H.set N ⟨3,1,nl o,false,some (x.length+y.length)⟩∧o.length=x.length+y.length∧(∀z∈o,z<1000000000)∧c<1000000000 ∧
    lv 1000000000 o+1000000000^(i+j)*c=lv 1000000000 (x.take i)*lv 1000000000 y+1000000000^i*(a*lv 1000000000 (y.take j))∧∀k,i+y.length≤k→o.getD k 0=0
theorem qg2{H:Qf}{N:Nat}(x y:List Nat)(hx:∀z∈x,z<1000000000)(hy:∀z∈y,z<1000000000)(hn:x.length≤100000000)(hny:y.length≤100000000):Qc prog 151 [.ro (nl x),.ro (nl y)] H N fun r H' N'=>∃o,r=.ref N 1 0 (WJ o o.length) none∧H'=H.set N ⟨3,1,nl o,false,some (x.length+y.length)⟩∧N'=N+1∧o.length=x.length+y.length∧(∀z∈o,z<1000000000)∧lv 1000000000 o=lv 1000000000 x*lv 1000000000 y:=by
 refine Qc.body func151 ntmps151 ?_;have hs:IntKind.i64.wrap ((x.length:Int)+(y.length:Int))=((x.length+y.length:Nat):Int):=wadd (by omega);simp[-Int.natCast_add,hs,JP ((x.length+y.length:Nat):Int) (by omega) (by omega),VI];refine Qp.of (tJ1 H N x y) (fun i=>x.length-i) 0
  ⟨by omega,_,_,List.replicate (x.length+y.length) 0,rfl,rfl,rfl,rfl,rfl,rfl,rfl,rfl,by simp,by simp,?_,?_⟩ ?_
 ·simp only[List.take_zero,lv,Nat.zero_mul];exact qbz _
 ·intro k hk;simp[List.getD_eq_getElem?_getD,List.getElem?_replicate];split<;>rfl
 rintro i _ ⟨hi,env,H1,o,rfl,g0,g1,g5,g17,g18,g19,hH,ho,hob,hv,hz⟩;by_cases hiN:i<x.length
 ·simp[-Int.natCast_add,g1,g5,g17,g18,g19,hiN];refine Qp.of (tJ2 H N x y i x[i]) (fun j=>y.length-j) 0
   ⟨by omega,_,_,o,0,rfl,by simpa using g0,by simpa using g1,by simpa using g5,by simpa using g17,by simpa using g18,by simpa using g19,rfl,rfl,rfl,by simp,rfl,rfl,hH,ho,hob,by omega,by simp[lv,hv],hz⟩ ?_
  rintro j _ ⟨hj,env,H1,o,c,rfl,g0,g1,g5,g17,g18,g19,g6,g7,g8,g24,g25,g26,hH,ho,hob,hc,hv,hz⟩;have hxi:x[i]<1000000000:=hx _ (List.getElem_mem _);by_cases hjN:j<y.length
  ·have hyj:y[j]<1000000000:=hy _ (List.getElem_mem _);have hij:i+j<o.length:=by omega
   have hoi:o[i+j]<1000000000:=hob _ (List.getElem_mem _);have hm:x[i]*y[j]≤999999999*999999999:=Nat.mul_le_mul (by omega) (by omega);have hij':i+j<x.length+y.length:=by omega
   have hs:c+(o[i+j]+x[i]*y[j])<9223372036854775808:=by omega
   simp[-Int.natCast_add,-Int.natCast_mul,-Int.natCast_emod,-Int.natCast_ediv,g1,g5,g6,g7,g8,g24,g25,g26,hjN,wadd (show i+j<9223372036854775808 by omega),hij',XV (qsc hH) hij,wmul (show x[i]*y[j]<9223372036854775808 by omega),wadd (show o[i+j]+x[i]*y[j]<9223372036854775808 by omega),wadd hs,
    Zj,Ze,tmn,edn,wrapn (show(c+(o[i+j]+x[i]*y[j]))/1000000000<9223372036854775808 by omega),Zu (qsc hH) hij,QH (show j+1<9223372036854775808 by omega)]
   refine⟨j+1,⟨by omega,_,_,o.set (i+j) ((c+(o[i+j]+x[i]*y[j]))%1000000000),(c+(o[i+j]+x[i]*y[j]))/1000000000,rfl,by simpa using g0,by simpa using g1,by simpa using g5,by simpa using g17,by simpa using g18,by simpa using g19,by simpa using g6,by simpa using g7,rfl,by simpa using g24,by simpa using g25,rfl,by rw[hH,set_set],by simpa using ho,X7 hob (Nat.mod_lt _ (by decide)),?_,?_,fun k hk=>by rw[Jt (by omega)];exact hz k hk⟩,by omega⟩
   ·have:(c+(o[i+j]+x[i]*y[j]))<1000000000*1000000000:=by omega
    exact Nat.div_lt_of_lt_mul this
   ·have h1:=XX (B:=1000000000) o (i+j) ((c+(o[i+j]+x[i]*y[j]))%1000000000) hij;have h2:=Nat.mod_add_div (c+(o[i+j]+x[i]*y[j])) 1000000000;rw[Yi _ _ hjN];generalize (c+(o[i+j]+x[i]*y[j]))%1000000000=r at *;generalize (c+(o[i+j]+x[i]*y[j]))/1000000000=q at *;have e:=congrArg (1000000000^(i+j)*·) h2;simp only[Nat.mul_add]at e;have e2:1000000000^(i+(j+1))*q=1000000000^(i+j)*(1000000000*q):=by rw[←Nat.add_assoc,Nat.pow_succ,Nat.mul_assoc]
    have e3:1000000000^i*(x[i]*(lv 1000000000 (y.take j)+1000000000^j*y[j]))=1000000000^i*(x[i]*lv 1000000000 (y.take j))+1000000000^(i+j)*(x[i]*y[j]):=by rw[Nat.mul_add,Nat.mul_add,Nat.pow_add];congr 1;rw[Nat.mul_left_comm x[i],Nat.mul_assoc]
    rw[e2,e3];omega
  ·have hj':j=y.length:=by omega
   subst hj';have hiy:i+y.length<o.length:=by omega
   have hiy':i+y.length<x.length+y.length:=by omega
   simp[-Int.natCast_add,g1,g5,g19,g6,g8,g24,g25,g26,wadd (show i+y.length<9223372036854775808 by omega),hiy',Zu (qsc hH) hiy,QH (show i+1<9223372036854775808 by omega)];refine⟨i+1,⟨by omega,_,_,o.set (i+y.length) c,rfl,by simpa using g0,by simpa using g1,by simpa using g5,by simpa using g17,by simpa using g18,rfl,by rw[hH,set_set],by simpa using ho,X7 hob hc,?_,fun k hk=>by rw[Jt (by omega)];exact hz k (by omega)⟩,by omega⟩;have h1:=XX (B:=1000000000) o (i+y.length) c hiy;have h0:=hz (i+y.length) (Nat.le_refl _);rw[List.getD_eq_getElem?_getD,List.getElem?_eq_getElem hiy,Option.getD_some]at h0;rw[h0,Nat.mul_zero,Nat.add_zero,hv,List.take_length]at h1;rw[h1,Yi _ _ hiN,Nat.add_mul,Nat.mul_assoc]
 ·have hi':i=x.length:=by omega
  subst hi';simp[-Int.natCast_add,g5,g17,g18,g19];have ht:=qmv (H:=H1) (N:=N+1) (id:=N) (len:=x.length+y.length) (xs:=o) (qsc hH) ho.symm (by omega);refine ht.mono ?_;rintro r H' N' ⟨rfl,rfl,rfl⟩;simp;exact⟨o,by rw[ho],hH,ho,hob,by rw[hv,List.take_length]⟩
end
section
attribute [local simp] alen Qh QJ Q7 ZP
theorem qlz:lbs 0=.ro []:=by simp[lbs,Zh,nl]
theorem qfh{s:Nat}(h0:0<s)(h:s<1000000000):lb 1000000000 s=[s]:=by
 have hB:1<1000000000:=by decide
 rw[Zy hB h0,Nat.mod_eq_of_lt h,Nat.div_eq_of_lt h,Zh]
theorem qkY{s:Nat}(h:s<1000000000):cutz [s]=lb 1000000000 s:=by rw[ZO (B:=1000000000) (by decide) [s] (by simpa using h)];simp[lv]
theorem qoP{b:Nat}(h:nlb b=1):∃s,lb 1000000000 b=[s]∧s=b∧0<b∧b<1000000000:=by
 unfold nlb at h;obtain⟨s,hs⟩:=List.length_eq_one_iff.1 h;have h1:=Yo (B:=1000000000) (by decide) b;have h2:=YN (B:=1000000000) (by decide) b;rw[hs]at h1 h2;simp only[lv,Nat.mul_zero,Nat.add_zero]at h1;have h3:=h2 s (by simp);refine⟨s,hs,h1,?_,by omega⟩;rcases Nat.eq_zero_or_pos b with rfl|h
 ·rw[Zh]at hs;cases hs
 ·exact h
theorem bs1(x:Int):Qz prog 82 1 [(0,.v (.int .i64 x))]=some (3,[[.v (.int .i64 x)]]):=by kernel_rfl
attribute [local simp] bs1
theorem qic(a b:Nat)(ha:nlb a≤1000000)(hb:nlb b≤1000000)(hab:a<b):Qg prog 192 [lbs a,lbs b] (.tup [lbs (a/b),lbs (a%b)]):=by refine Qg.body func192 ntmps192 ?_;simp;refine Qc.pv (VN a b (by omega) (by omega)) (by simp[Qt]) rfl ?_;have:=(KE a b).1.2 hab;generalize qkn a b=o at *;simp[this];rw[Nat.div_eq_of_lt hab,Nat.mod_eq_of_lt hab,qlz];exact Wl (.cons .nil (.cons (.dat _ 9 (Qt _ _)) .nil))
theorem qge(a b:Nat)(ha:nlb a≤1000000)(hb:nlb b=1)(hab:¬a<b):Qg prog 192 [lbs a,lbs b] (.tup [lbs (a/b),lbs (a%b)]):=by
 refine Qg.body func192 ntmps192 ?_;obtain⟨s,h1,rfl,h2,h3⟩:=qoP hb;have hls:lbs s=.ro [[.v (.int .i64 (s:Int))]]:=by simp[lbs,h1,nl]
 rw[hls];simp;refine Qc.pv (u:=.v (.int .i64 (qkn a s))) (by rw[←hls];exact VN a s (by omega) (by omega)) (by simp[Qt]) rfl ?_;have:=(not_congr (KE a s).1).2 hab;generalize qkn a s=o at *;simp[this];refine Qc.pv (qfC a s h2 (by omega) (by omega)) (by simp[Qt]) (by simp[Qt]) ?_;have hr:=Nat.mod_lt a h2;obtain⟨r,hre⟩:∃r,r=a%s:=⟨_,rfl⟩;rw[←hre]at hr⊢;simp[-Int.natCast_emod];refine Qc.fz [0] (args':=[.ro (nl [r])]) (k:=9) (Kd [r] (by simp)) (qqY (xs:=[r]) (ty:=3) (fz:=false) (cap:=some 1) ?_ rfl) (Qo _) ?_
 ·simp[nl]
 simp;rw[qkY (by omega)];exact Wl (.cons (.dat _ 9 (Qt _ _)) (.cons (.dat _ 9 (Qo _)) .nil))
end
end Go.AX.Run
namespace Go.AX.Run
open Go.RowKit Go.Proofs Go.AX Go.Num
theorem qeh{B:Nat}(us:List Nat)(j:Nat)(h:j≤us.length):lv B us=lv B (us.take j)+B^j*lv B (us.drop j):=by rw[congrArg (lv B) (List.take_append_drop j us).symm,ZM,List.length_take,Nat.min_eq_left h]
theorem qbj{B:Nat}(us:List Nat)(j n:Nat)(h:j+n≤us.length):lv B (us.drop j)=lv B (seg us j n)+B^n*lv B (us.drop (j+n)):=by rw[qeh (us.drop j) n (by simp;omega),List.drop_drop];rfl
theorem qpf{us vs:List Nat}{j n:Nat}(h:qfQ us vs j n)(hl:j+n≤us.length):us.take j=vs.take j∧us.drop (j+n)=vs.drop (j+n):=by
 refine⟨List.ext_getElem? fun i=>?_,List.ext_getElem? fun i=>?_⟩
 ·rw[List.getElem?_take,List.getElem?_take];split
  ·exact(h.2.1 i (.inl (by omega))).symm
  ·rfl
 ·rw[List.getElem?_drop,List.getElem?_drop];exact(h.2.1 _ (.inr (by omega))).symm
theorem qoe{us:List Nat}{j n V:Nat}(hus:∀z∈us,z<1000000000)(hl:j+(n+1)≤us.length)(hR:lv 1000000000 (us.drop (j+1))<V):lv 1000000000 (seg us j (n+1))<1000000000*V:=by
 have hd:us.drop j=us[j]::us.drop (j+1):=List.drop_eq_getElem_cons (by omega);have h1:lv 1000000000 (us.drop j)=us[j]+1000000000*lv 1000000000 (us.drop (j+1)):=by rw[hd];rfl
 have h2:=hus us[j] (List.getElem_mem (by omega));have h3:lv 1000000000 (us.drop j)<1000000000*V:=by omega
 have h4:=qbj (B:=1000000000) us j (n+1) hl;generalize 1000000000^(n+1)*lv 1000000000 (us.drop (j+(n+1)))=Z at h4;omega
theorem qk4{us vs os:List Nat}{j n V A:Nat}(hs:qfQ us vs j (n+1))(hus:∀z∈us,z<1000000000)(hl:j+(n+1)≤us.length)(hV:V<1000000000^n)(hV0:0<V)(hR:lv 1000000000 (us.drop (j+1))<V)(hA:lv 1000000000 us+V*lv 1000000000 os=A)(hj:j<os.length)(ho:os[j]=0)
  (hvs:lv 1000000000 (seg us j (n+1))<1000000000*V→lv 1000000000 (seg vs j (n+1))=lv 1000000000 (seg us j (n+1))%V) :
  lv 1000000000 (seg us j (n+1))<1000000000*V∧lv 1000000000 (vs.drop j)<V∧lv 1000000000 vs+V*lv 1000000000 (os.set j (lv 1000000000 (seg us j (n+1))/V))=A∧lv 1000000000 (seg us j (n+1))/V<1000000000:=by
 have hd:us.drop j=us[j]::us.drop (j+1):=List.drop_eq_getElem_cons (by omega);have h1:lv 1000000000 (us.drop j)=us[j]+1000000000*lv 1000000000 (us.drop (j+1)):=by rw[hd];rfl
 have h2:=hus us[j] (List.getElem_mem (by omega));have h3:lv 1000000000 (us.drop j)<1000000000*V:=by omega
 have h4:=qbj (B:=1000000000) us j (n+1) hl;have hP:∃P,P=1000000000^(n+1):=⟨_,rfl⟩;obtain⟨P,hP⟩:=hP;have h5:1000000000*V<P:=by rw[hP,Nat.pow_succ,Nat.mul_comm];exact Nat.mul_lt_mul_of_pos_right hV (by decide)
 rw[←hP]at h4;have h6:lv 1000000000 (us.drop (j+(n+1)))=0:=by
  rcases Nat.eq_zero_or_pos (lv 1000000000 (us.drop (j+(n+1))))with h|h
  ·exact h
  ·have:=Nat.le_mul_of_pos_right P h;omega
 rw[h6,Nat.mul_zero,Nat.add_zero]at h4;obtain⟨s1,s2⟩:=qpf hs hl;have hU:lv 1000000000 (seg us j (n+1))<1000000000*V:=by omega
 have h7:=hvs hU;have h8:=qbj (B:=1000000000) vs j (n+1) (by rw[hs.1];exact hl);rw[←s2,h6,Nat.mul_zero,Nat.add_zero]at h8;have h9:=qeh (B:=1000000000) us j (by omega);have h10:=qeh (B:=1000000000) vs j (by rw[hs.1];omega);have h11:=XX (B:=1000000000) os j (lv 1000000000 (seg us j (n+1))/V) hj;rw[ho,Nat.mul_zero,Nat.add_zero]at h11;refine⟨hU,by rw[h8,h7];exact Nat.mod_lt _ hV0,?_,Nat.div_lt_of_lt_mul (by rw[Nat.mul_comm];exact hU)⟩;rw[h11,h10,h8,h7,←s1,←hA,h9,h4];generalize lv 1000000000 (seg us j (n+1))=U at *;have h12:=Nat.div_add_mod U V;generalize U/V=q at *;generalize U%V=r at *;generalize 1000000000^j=Q at *;generalize lv 1000000000 os=O at *;generalize lv 1000000000 (us.take j)=T at *;rw[←h12];grind
theorem qaP:∀(k n:Nat),k<nlb n→1000000000^k≤n:=by
 intro k;induction k with
 | zero=>intro n hn;rcases Nat.eq_zero_or_pos n with rfl|h;simp[nlb,Zh]at hn;omega
 | succ k ih =>
  intro n hn;rcases Nat.eq_zero_or_pos n with rfl|h
  ·simp[nlb,Zh]at hn
  ·rw[nlb,Zy (by decide) h,List.length_cons]at hn;have:=ih (n/1000000000) (by unfold nlb;omega);rw[Nat.le_div_iff_mul_le (by decide)]at this;rw[Nat.pow_succ];exact this
theorem qaL(n:Nat):n<1000000000^nlb n:=by have:=Wq (B:=1000000000) _ (YN (by decide) n);rwa[Yo (by decide)]at this
theorem qrj{m k:Nat}(h1:1000000000^k≤m)(h2:m<1000000000^(k+1)):nlb m=k+1:=by
 refine Nat.le_antisymm (Nat.not_lt.1 fun h=>?_) (Nat.not_lt.1 fun h=>?_)
 ·exact absurd (qaP (k+1) m h) (Nat.not_le.2 h2)
 ·have:=Nat.pow_le_pow_right (show 0<1000000000 by decide) (show nlb m≤k by omega);exact absurd (Nat.lt_of_lt_of_le (qaL m) this) (Nat.not_lt.2 h1)
theorem qdc{b n1:Nat}(hn:nlb b=n1+1):0<(lb 1000000000 b).getD n1 0∧(lb 1000000000 b).getD n1 0<1000000000∧nlb (b*(1000000000/((lb 1000000000 b).getD n1 0+1)))=n1+1∧0<1000000000/((lb 1000000000 b).getD n1 0+1)∧1000000000/((lb 1000000000 b).getD n1 0+1)<1000000000∧1000000000^n1≤b:=by
 have hlt:=YN (B:=1000000000) (by decide) b;have hv:=Yo (B:=1000000000) (by decide) b;have hp:=qaP n1 b (by omega);have hl:(lb 1000000000 b).length=n1+1:=hn;generalize lb 1000000000 b=ys at *;have hn1:n1<ys.length:=by omega
 have e:ys.getD n1 0=ys[n1]:=by simp[hn1]
 rw[e];have h1:=hlt _ (List.getElem_mem hn1);have hsp:lv 1000000000 ys=lv 1000000000 (ys.take n1)+1000000000^n1*ys[n1]:=by
  have:ys=ys.take n1++[ys[n1]]:=by rw[←List.take_succ_eq_append_getElem hn1,List.take_of_length_le (by omega)]
  rw[congrArg (lv 1000000000) this,YE,List.length_take,Nat.min_eq_left (by omega)]
 have ht:=Wq (B:=1000000000) (ys.take n1) fun z hz=>hlt z (List.mem_of_mem_take hz);rw[List.length_take,Nat.min_eq_left (by omega)]at ht;rw[hv]at hsp;generalize ys[n1]=y at *;have hP:∃P,P=1000000000^n1:=⟨_,rfl⟩;obtain⟨P,hP⟩:=hP;have hPP:1000000000^(n1+1)=P*1000000000:=by rw[Nat.pow_succ,hP]
 have key:∀s,s*(y+1)≤1000000000→0<s→nlb (b*s)=n1+1:=by
  intro s hs hs0;refine qrj (Nat.le_trans hp (Nat.le_mul_of_pos_right _ hs0)) ?_;rw[hPP];rw[←hP]at hsp ht;have:b<P*(y+1):=by rw[Nat.mul_add,Nat.mul_one];omega
  have h2:b*s<P*(y+1)*s:=Nat.mul_lt_mul_of_pos_right this hs0;have h3:P*(y+1)*s=P*(s*(y+1)):=by rw[Nat.mul_assoc,Nat.mul_comm (y+1)]
  have h4:P*(s*(y+1))≤P*1000000000:=Nat.mul_le_mul_left _ hs;omega
 have hy:0<y:=by
  rcases Nat.eq_zero_or_pos y with h|h
  ·subst h;rw[Nat.mul_zero,Nat.add_zero]at hsp;rw[hsp]at hp;exact absurd ht (Nat.not_lt.2 hp)
  ·exact h
 have hs0:0<1000000000/(y+1):=Nat.div_pos (by omega) (by omega);exact⟨hy,h1,key _ (Nat.div_mul_le_self _ _) hs0,hs0,Nat.div_lt_self (by decide) (by omega),hp⟩
end Go.AX.Run
namespace Go.AX.Run
open Go.RowKit Go.Proofs Go.AX Go.Num Tryz
section
attribute [local simp] alen Qh QJ Q7 ZP bs1
theorem qtf{n':Nat}{env:Nat→AV}{H:Qf}{N id n:Nat}{us:List Nat}{cap:Option Nat}(hH:H.b id=some ⟨3,1,nl us,false,cap⟩)(hid:id<N)(hn:n≤us.length)(hm:us.length≤1000000000) :
  aappend prog ⟨n',env,H.set N ⟨3,1,[[.v (.int .i64 0)]],false,some 1⟩,N+1⟩ 82 (.ref id 1 0 n none) (.ref N 1 0 1 none)=some (.ref (N+1) 1 0 (n+1) none,⟨n',env,((H.set N ⟨3,1,[[.v (.int .i64 0)]],false,some 1⟩).kill id).set (N+1) ⟨3,1,nl (us.take n++[0]),false,none⟩,N+2⟩):=by
 have hel:QA (H.set N ⟨3,1,[[.v (.int .i64 0)]],false,some 1⟩) (.ref N 1 0 1 none)=some [[.v (.int .i64 0)]]:=by simp[QA]
 have hb:(H.set N ⟨3,1,[[.v (.int .i64 0)]],false,some 1⟩) id=some ⟨3,1,nl us,false,cap⟩:=by simp[show id≠N by omega,hH]
 unfold aappend;simp only[qai,hel];rw[if_pos ⟨qaI,qd8,by rw[qaH];omega,by simp[Zp],by simp[Zb,AV.one,Value.oneCell']⟩];simp only[hb];rw[if_pos ⟨trivial,trivial,qaH.symm,by simpa[QJ]using hn,by rw[qdw];simp;omega,by simp[maxLen];omega⟩];simp[nl,List.map_take]
theorem qtk{H:Qf}{ty:TypeId}{id:Nat}{mx:Option Nat}{xs:List Nat}{len:Nat}{fz:Bool}{cap:Option Nat}{x:AV}(hx:Qu 9 x=true)(hb:H.b id=some ⟨ty,1,nl xs,fz,cap⟩)(hl:len=xs.length):[x,AV.ref id 1 0 len mx].mapM (Q3 9 (H.only [id]))=some [x,.ro (nl xs)]:=by have h1:=qqY (mx:=mx) hb hl;rw[List.mapM_cons,XF hx,h1];rfl
def dI1(a b s:Nat)(us:List Nat)(st:St):Prop:=∃env H N id,st=⟨101,env,H,N⟩∧env 0=.ro (nl (lb 1000000000 a))∧env 8=.ref 0 1 0 1 none∧env 9=.ref id 1 0 us.length none∧env 10=.ro (nl (lb 1000000000 (b*s)))∧id<N∧0<id ∧
 H.b 0=some ⟨3,1,[[.v (.int .i64 (s:Int))]],true,some 1⟩∧H.b id=some ⟨3,1,nl us,false,none⟩∧us.length≤(lb 1000000000 a).length+2∧(∀z∈us,z<1000000000)∧lv 1000000000 us=a*s∧∃w,us=w++[0]
def dI2(a b s n L:Nat)(m:Nat)(st:St):Prop:=∃env H N id oid us os,st=⟨101,env,H,N⟩∧env 8=.ref 0 1 0 1 none∧env 9=.ref id 1 0 L none∧env 10=.ro (nl (lb 1000000000 (b*s)))∧env 11=.v (.int .i64 (n:Int))∧env 12=.ref oid 1 0 (L-n) none∧env 13=.v (.int .i64 ((m:Int)-1))∧id<N∧oid<N∧0<id∧0<oid∧id≠oid ∧
 H.b 0=some ⟨3,1,[[.v (.int .i64 (s:Int))]],true,some 1⟩∧H.b id=some ⟨3,1,nl us,false,none⟩∧H.b oid=some ⟨3,1,nl os,false,some (L-n)⟩∧us.length=L∧os.length=L-n∧m≤L-n∧(∀z∈us,z<1000000000)∧(∀z∈os,z<1000000000)∧(∀j,j<m→os.getD j 0=0) ∧
 lv 1000000000 (us.drop m)<b*s∧lv 1000000000 us+b*s*lv 1000000000 os=a*s
theorem qk8{us w:List Nat}{L n n1 V:Nat}(hw:us=w++[0])(huz:∀z∈us,z<1000000000)(hL:L=us.length)(hn:n=n1+1)(hnL:n≤L)(hV:1000000000^n1≤V):lv 1000000000 (us.drop (L-n))<V:=by subst hw;simp at hL;rw[List.drop_append_of_le_length (by omega),YE,Nat.mul_zero,Nat.add_zero];have:=Wq (B:=1000000000) (w.drop (L-n)) fun z hz=>huz z (by simp[List.mem_of_mem_drop hz]);rw[List.length_drop,show w.length-(L-n)=n1 by omega]at this;exact Nat.lt_of_lt_of_le this hV
theorem qgd(a b:Nat)(ha:nlb a≤1000000)(hb2:2≤nlb b)(hab:¬a<b):Qg prog 192 [lbs a,lbs b] (.tup [lbs (a/b),lbs (a%b)]):=by
 refine Qg.body func192 ntmps192 ?_;have hba:nlb b≤nlb a:=Nat.not_lt.1 fun h=>hab (Jo h);obtain⟨n1,hn1⟩:∃n1,nlb b=n1+1:=⟨nlb b-1,by omega⟩;obtain⟨y0,y1,vl,s0,s1,hbp⟩:=qdc hn1;have hb0:0<b:=Nat.lt_of_lt_of_le (Nat.pow_pos (by decide)) hbp;have hyl:(lb 1000000000 b).length=n1+1:=hn1;have hp1:n1<(lb 1000000000 b).length:=by omega
 have hyg:(lb 1000000000 b).getD n1 0=(lb 1000000000 b)[n1]:=by simp[hp1]
 rw[hyg]at y0 y1 vl s0 s1;have hgn:=K8 (lb 1000000000 b) n1 hp1;obtain⟨yt,hyt⟩:∃yt,yt=(lb 1000000000 b)[n1]:=⟨_,rfl⟩;rw[←hyt]at y0 y1 vl s0 s1 hgn;obtain⟨s,hse⟩:∃s,s=1000000000/(yt+1):=⟨_,rfl⟩;have wy:IntKind.i64.wrap ((yt:Int)+1)=((yt+1:Nat):Int):=QH (by omega);have ws:IntKind.i64.wrap ((1000000000:Int).tdiv ((yt+1:Nat):Int))=(s:Int):=by have:(1000000000:Int).tdiv ((yt+1:Nat):Int)=((1000000000/(yt+1):Nat):Int):=rfl;rw[this,←hse];exact wrapn (by omega)
 have wn:IntKind.i64.wrap (((n1+1:Nat):Int)-1)=n1:=by rw[Ql (by omega) (by omega)];omega
 have wl:IntKind.i64.wrap ((n1+1:Nat):Int)=((n1+1:Nat):Int):=wrapn (by omega);have hne:¬(((n1+1:Nat):Int)=1):=by omega
 have hyz:¬((yt+1:Nat):Int)=0:=by omega
 obtain⟨yi,hyi⟩:∃yi:Int,yi=((yt+1:Nat):Int):=⟨_,rfl⟩;rw[←hyi]at wy ws hyz;obtain⟨ln,hln⟩:∃ln:Int,ln=((n1+1:Nat):Int):=⟨_,rfl⟩;rw[←hln]at wn wl hne;rw[←hse]at vl s0 s1;simp;refine Qc.pv (VN a b (by omega) (by omega)) (by simp[Qt]) rfl ?_;have hor:=(not_congr (KE a b).1).2 hab;generalize qkn a b=o at *;simp only[lbs];simp[-Int.natCast_add,hor,hyl,←hln,hne,wn,hyt.symm,wy,hyz,ws,Ze];refine Qc.fzc [0] (args':=[.ro (nl (lb 1000000000 a)),.ro (nl [s])]) (k:=9) (qtk (xs:=[s]) (ty:=3) (fz:=false) (cap:=some 1) (Qo _) ?_ rfl) ((qg2 _ _ (YN (by decide) a) (by simpa using s1) (by unfold nlb at ha;omega) (by simp)).mono ?_)
 ·simp[nl]
 rintro _ _ _ ⟨o1,rfl,rfl,rfl,ho1,ho2,ho3⟩;have ho3':lv 1000000000 o1=a*s:=by rw[ho3,Yo (by decide)];simp[lv]
 have hcut:=JM o1 o1.length (Nat.le_refl _);rw[List.take_length]at hcut;have hcl:=qn9 o1 o1.length;generalize WJ o1 o1.length=k1 at *;simp only[qfx];have hap:=fun n' env=>qtf (n':=n') (env:=env) (H:=((QQ.set 0 ⟨3,1,[[.v (.int .i64 (s:Int))]],false,some 1⟩).fr (·∈[0])).set 1 ⟨3,1,nl o1,false,some ((lb 1000000000 a).length+1)⟩) (N:=2) (id:=1) (n:=k1) (us:=o1) (cap:=some ((lb 1000000000 a).length+1)) (by simp) (by omega) hcl (by unfold nlb at ha;simp at ho1;omega);simp only[List.mem_singleton,Nat.reduceAdd]at hap;have hap':=fun n' env=>(hap n' env).trans rfl;clear hap;simp[hap'];refine Qc.fz [0] (args':=[lbs b,lbs s]) (k:=9) (u:=lbs (b*s)) (qfJ b s (by omega) (by unfold nlb;rw[qfh s0 s1];simp)) ?_ (Qt _ _) ?_
 ·unfold lbs;rw[qfh s0 s1];exact qtk (xs:=[s]) (ty:=3) (fz:=true) (cap:=some 1) (Qo _) (by simp[nl]) rfl
 simp;have hla:(lb 1000000000 a).length≤1000000:=ha;refine Qp.cut 0 (fun st=>∃us,dI1 a b s us st∧(lb 1000000000 a).length+1≤us.length) ?_ ?_
 ·refine Qp.of (dI1 a b s) (fun us=>(lb 1000000000 a).length+2-us.length) (o1.take k1++[0])
   ⟨_,_,_,3,rfl,rfl,rfl,by simp[Nat.min_eq_left hcl],rfl,by omega,by omega,by simp,by simp,by simp at ho1⊢;omega,fun z hz=>?_,?_,_,rfl⟩ ?_
  ·rcases List.mem_append.1 hz with h|h
   ·exact ho2 z (List.mem_of_mem_take h)
   ·simp at h;omega
  ·rw[YE,Nat.mul_zero,Nat.add_zero,hcut,qh4,ho3']
  rintro us _ ⟨env,H,N,id,rfl,g0,g8,g9,g10,hid,hid0,hH0,hH,hul,huz,hlv,w,hw⟩;have wul:IntKind.i64.wrap (us.length:Int)=us.length:=wrapn (by omega);have wla:IntKind.i64.wrap ((lb 1000000000 a).length:Int)=(lb 1000000000 a).length:=wrapn (by omega);by_cases hlen:us.length≤(lb 1000000000 a).length
  ·have hlen':(us.length:Int)≤(lb 1000000000 a).length:=by omega
   have hap:=fun n' env=>qtf (n':=n') (env:=env) (N:=N) hH hid (Nat.le_refl _) (by omega);simp[g0,g9,hlen',hap];refine⟨us++[0],⟨_,_,_,N+1,rfl,by simpa using g0,by simpa using g8,by simp,by simpa using g10,by omega,by omega,?_,by simp,by simp;omega,fun z hz=>?_,?_,_,rfl⟩,by simp;omega⟩
   ·simp[show 0≠id by omega,show 0≠N by omega,hH0]
   ·rcases List.mem_append.1 hz with h|h
    ·exact huz z h
    ·simp at h;omega
   ·rw[YE,Nat.mul_zero,Nat.add_zero,hlv]
  ·have hlen':¬(us.length:Int)≤(lb 1000000000 a).length:=by omega
   simp[g0,g9,hlen'];exact⟨us,⟨_,_,_,id,rfl,g0,g8,g9,g10,hid,hid0,hH0,hH,hul,huz,hlv,w,hw⟩,by omega⟩
 rintro _ ⟨us,⟨env,H,N,id,rfl,g0,g8,g9,g10,hid,hid0,hH0,hH,hul,huz,hlv,w,hw⟩,hlen⟩;obtain⟨n,hn⟩:∃n,n=n1+1:=⟨_,rfl⟩;obtain⟨L,hL⟩:∃L,L=us.length:=⟨_,rfl⟩;rw[←hL]at g9;rw[←hn]at vl;have hVl:(lb 1000000000 (b*s)).length=n:=vl;have hla':nlb a=(lb 1000000000 a).length:=rfl;have hnL:n+1≤L:=by omega
 have hLm:L≤1000002:=by omega
 have wnn:IntKind.i64.wrap (n:Int)=n:=wrapn (by omega);have wL:IntKind.i64.wrap (L:Int)=L:=wrapn (by omega);have wLn:IntKind.i64.wrap ((L:Int)-n)=((L-n:Nat):Int):=by rw[Ql (by omega) (by omega)];omega
 have wLn1:IntKind.i64.wrap (((L-n:Nat):Int)-1)=((L-n:Nat):Int)-1:=Ql (by omega) (by omega);have hVb:b*s<1000000000^n:=by have:=qaL (b*s);rwa[vl]at this
 have hV0:0<b*s:=Nat.mul_pos hb0 s0;simp[-Int.natCast_add,g9,g10,hVl,wLn,wLn1,JP ((L-n:Nat):Int) (by omega) (by omega),VI];refine Qp.cut 2 (dI2 a b s n L 0) ?_ ?_
 ·refine Qp.of (dI2 a b s n L) (fun m=>m) (L-n)
   ⟨_,_,_,id,N,us,List.replicate (L-n) 0,rfl,by simpa using g8,by simpa using g9,by simpa using g10,rfl,rfl,rfl,by omega,by omega,by omega,by omega,by omega,by simpa[show 0≠N by omega]using hH0,by simpa[show id≠N by omega]using hH,by simp,hL.symm,by simp,Nat.le_refl _,huz,fun z hz=>by simp[List.eq_of_mem_replicate hz],fun j hj=>by simp[List.getElem?_replicate];split<;>rfl,?_,?_⟩ ?_
  ·exact qk8 hw huz hL (by omega) (by omega) (Nat.le_trans hbp (Nat.le_mul_of_pos_right _ s0))
  ·rw[qbz,Nat.mul_zero,Nat.add_zero,hlv]
  rintro m _ ⟨env,H,N,id,oid,us,os,rfl,g8,g9,g10,g11,g12,g13,hid,hoid,hid0,hoid0,hne',hH0,hH,hHo,hul,hol,hm,huz,hoz,hzero,hR,hA⟩;cases m with
  | zero =>simp[g13];exact⟨_,_,_,id,oid,us,os,rfl,g8,g9,g10,g11,g12,g13,hid,hoid,hid0,hoid0,hne',hH0,hH,hHo,hul,hol,hm,huz,hoz,hzero,hR,hA⟩
  | succ j =>
   have e1:((j+1:Nat):Int)-1=j:=by omega
   rw[e1]at g13;have w1:IntKind.i64.wrap ((j:Int)+(n:Int))=((j+n:Nat):Int):=wadd (by omega);have w2:IntKind.i64.wrap (((j+n:Nat):Int)+1)=((j+n+1:Nat):Int):=QH (by omega);have w3:IntKind.i64.wrap ((j:Int)-1)=(j:Int)-1:=Ql (by omega) (by omega);have hsl:aslice prog 82 (.ref id 1 0 L none) (some (.v (.int .i64 (j:Int)))) (some (.v (.int .i64 ((j+n+1:Nat):Int))))=some (.ref id 1 j (n+1) none):=by simp only[aslice,qai,abounds,idx];rw[if_pos (show(0:Int)≤(j:Int)∧(j:Int)≤((j+n+1:Nat):Int)∧((j+n+1:Nat):Int)≤(L:Int) from⟨by omega,by omega,by omega⟩)];simp;omega
   simp[-Int.natCast_add,g9,g10,g11,g12,g13,w1,w2,hsl];have hpre:=qoe (j:=j) (n:=n) (V:=b*s) huz (by omega) hR;refine(qd5 (vs:=lb 1000000000 (b*s)) (n:=n) n1 (n1-1) (by omega) (by omega) hH (by omega) huz (YN (by decide) _) hVl ?_ ?_ (by omega) hid).mono ?_
   ·exact(qdc (b:=b*s) (n1:=n1) (by rw[vl,hn])).1
   ·rw[Yo (by decide)];exact hpre
   rintro r H' N' ⟨ys,rfl,rfl,rfl,hs,hmod⟩;rw[Yo (by decide)]at hmod⊢;have hjo:j<os.length:=by omega
   have hoj:os[j]=0:=by have:=hzero j (by omega);simpa[hjo]using this
   obtain⟨_,k1,k2,k3⟩:=qk4 hs huz (by omega) hVb hV0 hR hA hjo hoj (fun _=>hmod);obtain⟨q,hq⟩:∃q,q=lv 1000000000 (seg us j (n+1))/(b*s):=⟨_,rfl⟩;rw[←hq]at k2 k3⊢;have hjL:j<L-n:=by omega
   simp[-Int.natCast_add,g13,hjL,hHo,show oid≠id by omega,w3,K8 os j hjo,K9];refine⟨j,⟨_,_,_,id,oid,ys,os.set j q,rfl,by simpa using g8,by simpa using g9,by simpa using g10,by simpa using g11,by simpa using g12,rfl,hid,hoid,hid0,hoid0,hne',?_,?_,by simp,by rw[hs.1];exact hul,by simpa using hol,by omega,hs.2.2,fun z hz=>?_,fun i hi=>?_,k1,k2⟩,by omega⟩
   ·simp[show 0≠id by omega,show 0≠oid by omega,hH0]
   ·simp[show id≠oid from hne']
   ·rcases List.mem_or_eq_of_mem_set hz with h|rfl
    ·exact hoz z h
    ·exact k3
   ·rw[Jt (by omega)];exact hzero i (by omega)
 rintro _ ⟨env,H,N,id,oid,us,os,rfl,g8,g9,g10,g11,g12,g13,hid,hoid,hid0,hoid0,hne',hH0,hH,hHo,hul,hol,hm,huz,hoz,hzero,hR,hA⟩;simp;rw[List.drop_zero]at hR;have hq1:a*s/(b*s)=lv 1000000000 os:=by rw[←hA,Nat.add_comm,Nat.mul_add_div hV0,Nat.div_eq_of_lt hR];rfl
 have hq2:a*s%(b*s)=lv 1000000000 us:=by rw[←hA,Nat.add_comm,Nat.mul_add_mod,Nat.mod_eq_of_lt hR]
 rw[Nat.mul_div_mul_right _ _ s0]at hq1;rw[Nat.mul_mod_mul_right]at hq2;have hcu:=ZO (B:=1000000000) (by decide) us huz;rw[←hq2]at hcu;have hco:=ZO (B:=1000000000) (by decide) os hoz;rw[←hq1]at hco;have htu:=Kd us (by omega);rw[hcu]at htu;have hto:=Kd os (by omega);rw[hco]at hto;have hnr:nlb (a%b*s)≤100000000:=by
  rw[hq2];have:nlb (lv 1000000000 us)≤us.length:=by unfold nlb;rw[←ZO (B:=1000000000) (by decide) us huz];have:=JM us us.length (Nat.le_refl _);rw[List.take_length]at this;rw[←this,List.length_take];exact Nat.min_le_right _ _
  omega
 refine Qm.freeze (·=id) (Qm.walk (fun _=>false) mixed ?_);have f0:(H.fr (·=id)).b 0=some ⟨3,1,[[.v (.int .i64 (s:Int))]],true,some 1⟩:=by rw[qhh,hH0];simp
 have f1:(H.fr (·=id)).b id=some ⟨3,1,nl us,true,none⟩:=by rw[qhh,hH];simp
 have f2:(H.fr (·=id)).b oid=some ⟨3,1,nl os,false,some (L-n)⟩:=by rw[qhh,hHo];simp[show oid≠id by omega]
 generalize H.fr (·=id)=H1 at *;have hN0:0<N:=by omega
 simp[g9];refine QF.rd [id] (args':=[.ro (nl us)]) (k:=9) htu (qqY f1 hul.symm) (fun i b hi hb=>by simp at hi;subst hi;rw[f1]at hb;injection hb with hb;rw[←hb]) (Qo _) ?_;simp[g8,f0,Q0,hN0];refine QF.pure (k:=9) (u:=.tup [lbs (a%b),.v (.int .i64 ((a%b*s%s:Nat):Int))]) (by have:=qfC (a%b*s) s s0 (by omega) hnr;rwa[Nat.mul_div_cancel _ s0]at this) (by simp[qlI]) (by simp[Qt]) ?_;simp;refine⟨Zg.ofM (by kernel_rfl),?_⟩;simp[g12];refine Qc.fz [oid] (args':=[.ro (nl os)]) (k:=9) hto (qqY f2 hol.symm) (Qo _) ?_;simp;exact Wl (.cons (.dat _ 9 (Qo _)) (.cons (.dat _ 9 (Qt _ _)) .nil))
theorem qcs(a b:Nat)(ha:nlb a≤1000000)(hb:nlb b≤1000000)(hb0:0<b):Qg prog 192 [lbs a,lbs b] (.tup [lbs (a/b),lbs (a%b)]):=by
 by_cases hab:a<b
 ·exact qic a b ha hb hab
 ·by_cases h1:nlb b=1
  ·exact qge a b ha h1 hab
  ·refine qgd a b ha ?_ hab;have:nlb b≠0:=by unfold nlb;rw[Zy (by decide) hb0];simp
   omega
end
section
attribute [local simp] alen Qh QJ Q7 ZP
theorem qfp{a b:Nat}(h:a≤b):nlb a≤nlb b:=by refine Nat.not_lt.1 fun h'=>?_;have:=Jo h';omega
theorem Jp{a:Nat}:nlb a=0↔a=0:=by
 constructor
 ·intro h;rcases Nat.eq_zero_or_pos a with h0|h0
  ·exact h0
  ·unfold nlb at h;rw[Zy (by decide) h0]at h;simp at h
 ·rintro rfl;simp[nlb,Zh]
theorem qhZ(a b:Nat)(ha:nlb a≤1000000)(hb:nlb b≤1000000):Qg prog 217 [lbs a,lbs b] (lbs (Nat.gcd a b)):=by
 refine Qg.body func217 ntmps217 ?_;simp;refine Qp.of (fun(p:Nat×Nat) st=>nlb p.1≤1000000∧nlb p.2≤1000000∧Nat.gcd p.1 p.2=Nat.gcd a b∧∃env,st=⟨19,env,QQ,0⟩∧env 0=lbs p.1∧env 1=lbs p.2) (fun p=>p.2) (a,b) ⟨ha,hb,rfl,_,rfl,rfl,rfl⟩ ?_;rintro⟨x,y⟩ _ ⟨hx,hy,hg,env,rfl,g0,g1⟩;simp only at hx hy hg g0 g1;have hly:(lb 1000000000 y).length=nlb y:=rfl;by_cases h0:y=0
 ·subst h0;rw[Nat.gcd_zero_right]at hg;simp[g0,g1,lbs,Zh,nl];rw[←hg];exact .dat _ 9 (Qo _)
 ·have hpos:0<nlb y:=by have:=(not_congr (Jp (a:=y))).2 h0;omega
  have hpos':(0:Int)<(nlb y:Int):=by omega
  simp[g0,g1,lbs,hly,hpos];refine Qc.pv (qcs x y hx hy (by omega)) (by simp[qlI]) (by simp[Qt]) ?_;simp[g1,lbs];have hm:=Nat.mod_lt x (show y>0 by omega);refine⟨y,x%y,⟨hy,Nat.le_trans (qfp (Nat.le_of_lt hm)) hy,?_,by simp,rfl⟩,hm⟩;rw[←hg,Nat.gcd_comm x y,Nat.gcd_rec y x,Nat.gcd_comm (x%y) y]
end
section
attribute [local simp] Qh QJ Q7 ZP
def nm(s:Bool)(m:Nat):AV:=.agg [.v (.bool s),lbs m]
theorem Zz(s:Bool)(m k:Nat):Qu (k+3) (nm s m)=true:=by simp[nm,Qt]
theorem J5(m:Nat):(lbs m).one=true:=id rfl
theorem Yr(s:Bool)(m:Nat):acells (nm s m)=[.v (.bool s),lbs m]:=id rfl
attribute [local simp] J5 Yr Qk
theorem WH(b:Bool)(m:Nat):abuild prog 137 [(0,.v (.bool b)),(1,lbs m)]=some (.agg [.v (.bool b),lbs m]):=by kernel_rfl
theorem Jg(n:Nat):alen prog 82 (lbs n)=some (.v (.int .i64 (nlb n:Int))):=by simp[lbs,nlb,alen]
theorem Vp(a b:Bool):abinop prog .neq 4 (.v (.bool a)) (.v (.bool b))=some (.v (.bool (a !=b))):=by cases a<;>cases b<;>kernel_rfl
theorem qa3(a b:Bool):abinop prog .eql 4 (.v (.bool a)) (.v (.bool b))=some (.v (.bool (a==b))):=by cases a<;>cases b<;>kernel_rfl
attribute [local simp] WH Jg Vp qa3
theorem qaN(s:Bool)(m:Nat):Qg prog 110 [nm s m] (nm (!s) m):=by refine Qg.body func110 ntmps110 ?_;simp;exact .dat _ 9 (Zz _ _ _)
def zi(s:Bool)(m:Nat):Int:=if s then -(m:Int)else m
def sgz(z:Int):Int:=if z=0 then 0 else if z<0 then -1 else 1
theorem qpp(s:Bool)(m:Nat):Qg prog 154 [nm s m] (.v (.int .i64 (sgz (zi s m)))):=by
 refine Qg.body func154 ntmps154 ?_;simp;have h0:=Jp (a:=m);by_cases hm:m=0
 ·subst hm;simp[nlb,Zh];rw[show sgz (zi s 0)=0 by simp[sgz,zi]];exact .dat _ 9 rfl
 ·have hn:¬nlb m=0:=(not_congr h0).2 hm;cases s
  ·simp[hn];rw[show sgz (zi false m)=1 by simp[sgz,zi,hm]];exact .dat _ 9 rfl
  ·simp[hn];rw[show sgz (zi true m) = -1 by simp[sgz,zi,hm]];exact .dat _ 9 rfl
theorem qgB(s s':Bool)(m m':Nat)(h:nlb m≤1000000)(h':nlb m'≤1000000):Qg prog 108 [nm s m,nm s' m'] (nm (s !=s') (m*m')):=by refine Qg.body func108 ntmps108 ?_;simp;refine Qm.walk (fun _=>false) mixed ?_;simp[Q0];refine QF.pure (k:=9) (qfJ m m' (by omega) (by omega)) (by simp[Qt]) (Qt _ _) ?_;simp[Q0];exact⟨Zg.ofM (by kernel_rfl),.dat _ 9 (Zz _ _ _)⟩
def opsV:AV:=.agg [.fn (.func 186) [] [],.fn (.func 187) [] [],.fn (.func 188) [] [],.fn (.func 191) [] []]
theorem qnP:abuild prog 174 [(0,.fn (.func 186) [] []),(1,.fn (.func 187) [] [])]=some (.agg [.fn (.func 186) [] [],.fn (.func 187) [] []]):=by kernel_rfl
theorem qnQ:abuild prog 174 [(0,.fn (.func 188) [] []),(1,.fn (.func 191) [] [])]=some (.agg [.fn (.func 188) [] [],.fn (.func 191) [] []]):=by kernel_rfl
theorem qnR:abuild prog 175 [(0,.agg [.fn (.func 186) [] [],.fn (.func 187) [] []]),(1,.agg [.fn (.func 188) [] [],.fn (.func 191) [] []])]=some opsV:=by kernel_rfl
theorem qfU:acells opsV=[.fn (.func 186) [] [],.fn (.func 187) [] [],.fn (.func 188) [] [],.fn (.func 191) [] []]:=id rfl
theorem VM:Qg prog 152 [] opsV:=by refine Qg.body func152 ntmps152 ?_;obtain⟨z,h1,h2⟩:∃z,azero prog 175=some z∧z.length=4:=⟨(azero prog 175).getD [],by kernel_rfl,by kernel_rfl⟩;simp[h1,h2,qnP,qnQ,qnR,qfU];exact .dat _ 9 (by simp)
theorem qi0(s s':Bool)(m m':Nat):Qg prog 187 [nm s m,nm s' m'] (.v (.bool s)):=by refine Qg.body func187 ntmps187 ?_;simp;exact .dat _ 9 rfl
theorem qi1(s s':Bool)(m m':Nat)(h:nlb m≤1000000)(h':nlb m'≤1000000):Qg prog 191 [nm s m,nm s' m'] (.v (.bool (decide (m<m') !=s))):=by refine Qg.body func191 ntmps191 ?_;simp;refine Qm.walk (fun _=>false) mixed ?_;simp[Q0];refine QF.pure (k:=9) (VN m m' (by omega) (by omega)) (by simp[Qt]) rfl ?_;have:=(KE m m').1;generalize qkn m m'=o at *;rw[show decide (m<m')=decide (o<0) by simp[this]];simp[Q0];exact⟨Zg.ofM (by kernel_rfl),.dat _ 9 rfl⟩
theorem qlN(m m':Nat)(h:nlb m≤1000000)(h':nlb m'≤1000000):Qg prog 188 [lbs m,lbs m'] (lbs (if m<m' then m'-m else m-m')):=by
 refine Qg.body func188 ntmps188 ?_;simp;refine Qc.pv (VN m m' (by omega) (by omega)) (by simp[Qt]) rfl ?_;have:=(KE m m').1;generalize qkn m m'=o at *;by_cases hm:m<m'
 ·simp[this,hm];refine Qc.pv (qbA m' m (by omega) (by omega)) (by simp[Qt]) (Qt _ _) ?_;simp;exact .dat _ 9 (Qt _ _)
 ·simp[this,hm];refine Qc.pv (qbA m m' (by omega) (by omega)) (by simp[Qt]) (Qt _ _) ?_;simp;exact .dat _ 9 (Qt _ _)
end
end Go.AX.Run
namespace Go.AX
open Go.RowKit
def qti(P:Program)(x:AV)(args:List AV)(H:Qf)(N:Nat)(K:AV→Qf→Nat→Prop):Prop:=match x with|.fn (.func f) fs cs=>Qc P f (fs++args++cs) H N K|_=>False
theorem qoj(P:Program)(f:FuncId)(fs cs args:List AV)(H:Qf)(N:Nat)(K:AV→Qf→Nat→Prop):qti P (.fn (.func f) fs cs) args H N K=Qc P f (fs++args++cs) H N K:=_root_.id rfl
def qth(P:Program)(x:AV)(args:List AV)(st:St)(K:Cls→AV→Qf→Nat→Prop):Prop:=match x with|.fn (.func f) fs cs=>QF P f (fs++args++cs) st K|_=>False
theorem qoi(P:Program)(f:FuncId)(fs cs args:List AV)(st:St)(K:Cls→AV→Qf→Nat→Prop):qth P (.fn (.func f) fs cs) args st K=QF P f (fs++args++cs) st K:=_root_.id rfl
section
variable(P:Program)(lit:Nat→Bool)(ops:Array Oper)(d:Nat)(ty:TypeId)(pos:String)(aft:Array Edge)(l:List Oper)(Q:List Cls→St→Prop)(Q1:St→Prop)(cs:List Cls)(st:St)
theorem qmC(x:Tmp)(args:List Operand)(ts:Array TypeId):QC P ops (⟨some d,.call ⟨.value (.tmp x),args.toArray,ts⟩,ty,pos,aft,none⟩::l) Q1 st=qti P (st.env x) (args.map (ev st)) st.H st.N (qrA st d (QC P ops l Q1)):=by
 rw[K3 P ops l Q1 st _ rfl];have:(fun r H' N'=>Z7 { st with H:=H',N:=N' } (some d) r (QC P ops l Q1))=qrA st d (QC P ops l Q1):=by funext r H' N';rw[Z1];rfl
 simp only[qac,ev];rw[this];rfl
theorem qma(x:Tmp)(args:List Operand)(ts:Array TypeId):QT P lit ops (⟨some d,.call ⟨.value (.tmp x),args.toArray,ts⟩,ty,pos,aft,none⟩::l) Q cs st=qth P (st.env x) (args.map (ev st)) st (sdP st (some d) (QT P lit ops l Q) cs):=by rw[Yw P lit ops l Q cs st _ rfl];simp only[qko,ev];rfl
end
attribute [simp] qoj qoi qmC qma
end Go.AX
namespace Go.AX.Run
open Go.RowKit Go.Proofs Go.AX Go.Num Tryz
section
attribute [local simp] Qh QJ Q7 ZP J5 Yr Qk WH Jg Vp qa3
def qkj(s:Bool)(m:Nat)(s':Bool)(m':Nat):Bool:=if s=s' then s else decide (m<m') !=s
def qhs(s:Bool)(m:Nat)(s':Bool)(m':Nat):Nat:=if s=s' then m+m' else if m<m' then m'-m else m-m'
theorem qkc(s s':Bool)(m m':Nat):zi (qkj s m s' m') (qhs s m s' m')=zi s m+zi s' m':=by unfold zi qkj qhs;cases s<;>cases s'<;>by_cases h:m<m'<;>simp[h]<;>omega
theorem qoA:aindex prog 175 opsV 0=some (.agg [.fn (.func 186) [] [],.fn (.func 187) [] []]):=by kernel_rfl
theorem qoB:aindex prog 175 opsV 1=some (.agg [.fn (.func 188) [] [],.fn (.func 191) [] []]):=by kernel_rfl
theorem qcY:Qu 9 opsV=true:=by simp[opsV]
theorem qjL(s s':Bool)(m m':Nat)(h:nlb m≤1000000)(h':nlb m'≤1000000):Qg prog 109 [nm s m,nm s' m'] (nm (qkj s m s' m') (qhs s m s' m')):=by
 refine Qg.body func109 ntmps109 ?_;obtain⟨z,h1,h2⟩:∃z,azero prog 174=some z∧z.length=2:=⟨(azero prog 174).getD [],by kernel_rfl,by kernel_rfl⟩;by_cases hs:s=s'
 ·subst hs;simp;refine Qc.pv VM (by simp) qcY ?_;simp[qoA,h1,h2];refine Qm.walk (fun _=>false) mixed ?_;simp[Q0];refine QF.pure (k:=9) (qi0 s s m m') (by simp[Qt]) rfl ?_;simp[Q0];refine QF.pure (k:=9) (qi9 m m' (by omega) (by omega)) (by simp[Qt]) (Qt _ _) ?_;simp[Q0];refine⟨Zg.ofM (by kernel_rfl),?_⟩;simp[qkj,qhs];exact .dat _ 9 (Zz _ _ _)
 ·simp[hs];refine Qc.pv VM (by simp) qcY ?_;simp[qoB,h1,h2];refine Qm.walk (fun _=>false) mixed ?_;simp[Q0];refine QF.pure (k:=9) (qi1 s s' m m' (by omega) (by omega)) (by simp[Qt]) rfl ?_;simp[Q0];refine QF.pure (k:=9) (qlN m m' (by omega) (by omega)) (by simp[Qt]) (Qt _ _) ?_;simp[Q0];refine⟨Zg.ofM (by kernel_rfl),?_⟩;simp[qkj,qhs,hs];exact .dat _ 9 (Zz _ _ _)
end
end Go.AX.Run
