/- Parts of the proof, in order. -/
import Derived.Test.YtkmpoleajjgfaaaGreatQ10
namespace Go.Proofs.YtkmpoleajjgfaaaGreat
open Go.RowKit Gm
structure lD where
 d:Nat
 val:(Nat->Nat)->Value
 sup:List Nat:=[]
 obj:Option ((Nat->Nat)->Obj):=none
theorem Steps.of{P:Program}{ops:Array Oper}{Q:Exit->Act->World->Prop}{I:(Nat->Bool)->Act->World->Prop}:∀(k:Nat) (D:List (List Nat)),(∀i d,D[i]?=some d->∀L a w,I L a w->L (k+i)=false->(∀j∈d,L j=true)->wpOp P ops Q (k+i) (I (CT L (k+i))) a w)->Steps P ops Q I k D
 |_,[],_=>trivial
 |k,d0::ds,h=>⟨fun L a w h1 h2 h3=>h 0 d0 rfl L a w h1 h2 h3,Steps.of (k+1) ds fun i d hd L a w h1 h2 h3=>by
   have e:k+1+i=k+ (i+1):=by omega
   rw[e]at h2⊢;exact h (i+1) d hd L a w h1 h2 h3⟩
def xR(sp:List lD)(t:Nat):Option Nat:=sp.findIdx? (fun s=>s.d==t)
theorem qz{sp:List lD}{t j:Nat}(h:xR sp t=some j):∃s,sp[j]?=some s/\s.d=t:=by
 obtain⟨hj,h1,_⟩:=List.findIdx?_eq_some_iff_getElem.1 h;exact⟨sp[j],aB hj,by simpa using h1⟩
theorem LV{sp:List lD}(hd:(sp.map lD.d).Nodup){j:Nat}{s:lD}(hj:sp[j]?=some s):xR sp s.d=some j:=by
 have hl:=(aC.1 hj).1;rw[aB hl]at hj;injection hj with hj
 refine List.findIdx?_eq_some_iff_getElem.2 ⟨hl,by simp[hj],fun k hk=>?_⟩;have:=(List.pairwise_iff_getElem.1 hd) k j (by simp;omega) (by simpa using hl) hk;simp only[List.getElem_map,hj]at this
 simpa using this
def puts(γ:Nat->Nat):List lD->Act->Act
 |[],a=>a
 |s::l,a=>puts γ l (a.put (some s.d) (s.val γ))
theorem uT(a:Act)(d t:Nat)(u:Value):(a.put (some d) u).tmps.getD t undef=if d=t/\d<a.tmps.size then u else a.tmps.getD t undef:=by
 simp only[Act.put,Array.getD_eq_getD_getElem?,Array.getElem?_setIfInBounds]
 by_cases h:d=t
 ·subst h
  by_cases h2:d<a.tmps.size
  ·simp[h2]
  ·simp[h2]
 ·simp[h]
theorem rz(γ:Nat->Nat):∀(sp:List lD) (a:Act),(puts γ sp a).tmps.size=a.tmps.size/\(puts γ sp a).defers=a.defers
 |[],a=>⟨rfl,rfl⟩
 |s::l,a=>by
  obtain⟨h1,h2⟩:=rz γ l (a.put (some s.d) (s.val γ));exact⟨h1.trans (by simp[Act.put]),h2.trans rfl⟩
theorem uU(γ:Nat->Nat):∀(sp:List lD) (a:Act),(sp.map lD.d).Nodup->(∀s∈sp,s.d<a.tmps.size)->∀t,(puts γ sp a).tmps.getD t undef=match xR sp t with|some j=>((sp[j]?).map (fun s=>s.val γ)).getD undef|none=>a.tmps.getD t undef
 |[],a,_,_,t=>rfl
 |s::l,a,hd,hs,t=>by
  rw[List.map_cons,List.nodup_cons]at hd;have ih:=uU γ l (a.put (some s.d) (s.val γ)) hd.2 (fun s' hs'=>by have:=hs s' (by simp[hs']);simpa [Act.put] using this) t
  show(puts γ l _).tmps.getD t undef=_
  rw[ih];have hsd:=hs s (by simp)
  by_cases e:s.d=t
  ·have h1:xR (s::l) t=some 0:=by simp[xR,List.findIdx?_cons,e]
   have h2:xR l t=none:=by
    cases h:xR l t with
    |none=>rfl
    |some j=>
     obtain⟨s',h3,h4⟩:=qz h;exact absurd (List.mem_map.2 ⟨s',aD h3,by rw[h4,e]⟩) hd.1
   rw[h1,h2];simp only[uT,if_pos (ai e hsd),List.getElem?_cons_zero,Option.map_some,Option.getD_some]
  ·have h1:xR (s::l) t=(xR l t).map (·+1):=by
    simp[xR,List.findIdx?_cons,e]
   rw[h1]
   cases h:xR l t with
   |none=>simp only[Option.map_none,uT];rw[if_neg (fun h=>e h.1)]
   |some j=>simp
theorem Gr{a b:Act}(hs:a.tmps.size=b.tmps.size)(hd:a.defers=b.defers)(h:∀t,a.tmps.getD t undef=b.tmps.getD t undef):a=b:=by
 obtain⟨ta,da⟩:=a;obtain⟨tb,db⟩:=b;simp only at hs hd;subst hd
 congr 1
 apply Array.ext hs;intro i h1 h2;have:=h i;simp only[Array.getD_eq_getD_getElem?,Array.getElem?_eq_getElem h1,Array.getElem?_eq_getElem h2,Option.getD_some]at this;exact this
def rW(P:Program)(ops:Array Oper)(S:World->Prop)(fa:Act)(sp:List lD)(D:List (List Nat)):Nat->List lD->Prop
 |_,[]=>True
 |i,s::l=>(∃op ty ps af,ops[i]?=some (⟨some s.d,op,ty,ps,af,none⟩:Oper)/\
   ∀(γ:Nat->Nat) (a:Act) (w:World),S w->(∀j∈(D[i]?).getD [],∀sj:lD,sp[j]?=some sj->a.tmps.getD sj.d undef=sj.val γ)->(∀t,xR sp t=none->a.tmps.getD t undef=fa.tmps.getD t undef)->
    match s.obj with
    |none=>(execOp a.eval (⟨some s.d,op,ty,ps,af,none⟩:Oper)).run P w= .ok (.value (s.val γ)) w
    |some ob=>(execOp a.eval (⟨some s.d,op,ty,ps,af,none⟩:Oper)).run P w= .ok (.value (s.val (bE γ i w.heap.size))) (w.alloc (ob (bE γ i w.heap.size))))/\rW P ops S fa sp D (i+1) l
theorem rW.at_{P:Program}{ops:Array Oper}{S:World->Prop}{fa:Act}{sp:List lD}{D:List (List Nat)}:∀(k:Nat) (l:List lD),rW P ops S fa sp D k l->∀(i:Nat) (s:lD),l[i]?=some s->∃op ty ps af,ops[k+i]?=some (⟨some s.d,op,ty,ps,af,none⟩:Oper)/\
 ∀(γ:Nat->Nat) (a:Act) (w:World),S w->(∀j∈(D[k+i]?).getD [],∀sj:lD,sp[j]?=some sj->a.tmps.getD sj.d undef=sj.val γ)->(∀t,xR sp t=none->a.tmps.getD t undef=fa.tmps.getD t undef)->
  match s.obj with
  |none=>(execOp a.eval (⟨some s.d,op,ty,ps,af,none⟩:Oper)).run P w= .ok (.value (s.val γ)) w
  |some ob=>(execOp a.eval (⟨some s.d,op,ty,ps,af,none⟩:Oper)).run P w= .ok (.value (s.val (bE γ (k+i) w.heap.size))) (w.alloc (ob (bE γ (k+i) w.heap.size)))
 |_,[],_,i,_,h=>by simp at h
 |k,s0::l,h,0,s,hs=>by simp at hs;subst hs;exact h.1
 |k,s0::l,h,i+1,s,hs=>by
  have e:k+ (i+1)=k+1+i:=by omega
  rw[e];exact rW.at_ (k+1) l h.2 i s (by simpa using hs)
def aae(sp:List lD)(D:List (List Nat))(i:Nat)(s:lD):Bool:=s.sup.all fun k=>k==i||((D[i]?).getD []).any fun j=>j==k||((sp[j]?).map (fun r:lD=>r.sup.contains k)).getD false
def Ee(sp:List lD)(D:List (List Nat)):Bool:=(List.range sp.length).all fun i=>((sp[i]?).map (aae sp D i)).getD true
structure IA(W0:World)(S:World->Prop)(fa:Act)(sp:List lD)(L:Nat->Bool)(γ:Nat->Nat)(a:Act)(w:World):Prop where
 sz:a.tmps.size=fa.tmps.size
 df:a.defers=fa.defers
 get:∀t,a.tmps.getD t undef=match xR sp t with|some j=>if L j=true then((sp[j]?).map (fun s=>s.val γ)).getD undef else fa.tmps.getD t undef|none=>fa.tmps.getD t undef
 sup:∀(j:Nat) (s:lD),L j=true->sp[j]?=some s->∀k∈s.sup,L k=true
 ob:∀(j:Nat) (s:lD) o,L j=true->sp[j]?=some s->s.obj=some o->w.heap[γ j]?=some (o γ)/\W0.heap.size<=γ j
 dif:∀(i j:Nat) (s r:lD),L i=true->L j=true->sp[i]?=some s->sp[j]?=some r->s.obj.isSome=true->r.obj.isSome=true->i≠j->γ i≠γ j
 S:S w
 mH:Below W0.heap.size W0 w
def ndB:List Nat->Bool
 |[]=>true
 |a::l=>!(l.contains a) && ndB l
theorem Ef:∀{l:List Nat},ndB l=true->l.Nodup
 |[],_=>List.nodup_nil
 |a::l,h=>by
  obtain⟨h1,h2⟩:=Bool.and_eq_true_iff.1 (show(!(l.contains a) && ndB l)=true from h);rw[List.nodup_cons];exact⟨by simpa using h1,Ef h2⟩
theorem IA.op{P:Program}{ops:Array Oper}{Q:Exit->Act->World->Prop}{a a':Act}{w w':World}{L:Nat->Bool}{i:Nat}{d:List Nat}(D:List (List Nat))(sp:List lD)(S:World->Prop)(hi:D[i]?=some d)(hil:i<sp.length)
 (hd:(sp.map lD.d).Nodup) (hsz:∀s∈sp,s.d<a.tmps.size) (hSa:∀w o,S w->S (w.alloc o))
 (hval:∀s∈sp,∀γ γ':Nat->Nat,(∀k∈s.sup,γ' k=γ k)->s.val γ'=s.val γ/\∀o,s.obj=some o->o γ'=o γ) (hsup:Ee sp D=true)
 (LW:rW P ops S a sp D 0 sp) (h:∃γ,IA w S a sp L γ a' w') (NY:L i=false) (PX:∀j∈d,L j=true):
 wpOp P ops Q i (fun a' w'=>∃γ,IA w S a sp (CT L i) γ a' w') a' w':=by
 obtain⟨γ,h1,h2,h3,h4,h5,h6,h7,h8⟩:=h;obtain⟨s,hs⟩:∃s,sp[i]?=some s:=⟨sp[i],aB hil⟩;obtain⟨op,ty,ps,af,ho,hrun⟩:=rW.at_ 0 sp LW i s hs;rw[Nat.zero_add]at ho
 have Ct:=hrun γ a' w' h7 (fun j hj sj hsj=>by
  rw[Nat.zero_add,hi]at hj;have U4:=PX j (by simpa using hj);rw[h3,LV hd hsj];simp[U4,hsj]) (fun t ht=>by rw[h3,ht])
 rw[Nat.zero_add]at Ct
 have aah:∀k∈s.sup,k=i∨L k=true:=fun k hk=>by
  have h9:=List.all_eq_true.1 hsup i (List.mem_range.2 hil);rw[hs]at h9;have h10:=List.all_eq_true.1 (show aae sp D i s=true from h9) k hk;simp only[Bool.or_eq_true,beq_iff_eq,List.any_eq_true,hi,Option.getD_some]at h10;rcases h10 with e|⟨j,hj,e|e⟩
  ·exact .inl e
  ·rw[<-e];exact .inr (PX j hj)
  ·cases hsj:sp[j]? with
   |none=>rw[hsj]at e;simp at e
   |some sj=>
    rw[hsj]at e;simp at e;exact .inr (h4 j sj (PX j hj) hsj k e)
 have hsd:s.d<a'.tmps.size:=by rw[h1];exact hsz s (aD hs)
 have aai:Region.wanted (⟨some s.d,op,ty,ps,af,none⟩:Oper) (yielded ops a'.tmps)=true:=by simp[Region.wanted]
 -- behind the operation
 have hget:∀γ':Nat->Nat,(∀(j:Nat) (sj:lD),L j=true->sp[j]?=some sj->sj.val γ'=sj.val γ)->∀t,(a'.put (some s.d) (s.val γ')).tmps.getD t undef=match xR sp t with|some j=>if CT L i j=true then((sp[j]?).map (fun s=>s.val γ')).getD undef else a.tmps.getD t undef|none=>a.tmps.getD t undef:=fun γ' hγ t=>by
  rw[uT]
  by_cases e:s.d=t
  ·subst e;rw[if_pos ⟨rfl,hsd⟩,LV hd hs];simp[CT,hs]
  ·rw[if_neg (fun h=>e h.1),h3]
   cases hx:xR sp t with
   |none=>rfl
   |some j=>
    obtain⟨sj,hsj,hdj⟩:=qz hx;have hji:j≠i:=fun e2=>by subst e2;rw[hs]at hsj;injection hsj with hsj;subst hsj;exact e hdj
    simp only[jP hji,hsj,Option.map_some,Option.getD_some]
    by_cases U4:L j=true
    ·rw[if_pos U4,if_pos U4,hγ j sj U4 hsj]
    ·rw[if_neg U4,if_neg U4]
 have RV:∀(j:Nat) (sj:lD),CT L i j=true->sp[j]?=some sj->∀k∈sj.sup,CT L i k=true:=fun j sj hj hsj k hk=>by
  by_cases e:j=i
  ·subst e;rw[hs]at hsj;injection hsj with hsj;subst hsj
   rcases aah k hk with rfl|h
   ·exact qZ
   ·by_cases e2:k=j
    ·subst e2;exact qZ
    ·rw[jP e2];exact h
  ·rw[jP e]at hj;have:=h4 j sj hj hsj k hk
   by_cases e2:k=i
   ·subst e2;exact qZ
   ·rw[jP e2];exact this
 unfold wpOp;simp only[ho,aai,if_true];left
 cases uS:s.obj with
 |none=>
  rw[uS]at Ct;simp only[Oper.wp,Ct,Oper.upon];refine⟨γ,by simpa [Act.put] using h1,h2,hget γ (fun _ _ _ _=>rfl),RV,fun j sj o hj hsj Jw=>?_,fun j k sj sk hj hk hsj hsk hoj hok hne=>?_,h7,h8⟩
  ·by_cases e:j=i
   ·subst e;rw[hs]at hsj;injection hsj with hsj;subst hsj;rw[uS]at Jw;cases Jw
   ·rw[jP e]at hj;exact h5 j sj o hj hsj Jw
  ·have h9:∀(m:Nat) (sm:lD),CT L i m=true->sp[m]?=some sm->sm.obj.isSome=true->L m=true:=fun m sm hm sy NR=>by
    by_cases e:m=i
    ·subst e;rw[hs]at sy;injection sy with sy;subst sy;rw[uS]at NR;cases NR
    ·rw[jP e]at hm;exact hm
   exact h6 j k sj sk (h9 j sj hj hsj hoj) (h9 k sk hk hsk hok) hsj hsk hoj hok hne
 |some ob=>
  rw[uS]at Ct;simp only[Oper.wp,Ct,Oper.upon];have hγ:∀(j:Nat) (sj:lD),L j=true->sp[j]?=some sj->∀k∈sj.sup,bE γ i w'.heap.size k=γ k:=fun j sj hj hsj k hk=>bk _ _ (fun e=>by have:=h4 j sj hj hsj k hk;rw[e,NY]at this;cases this);refine⟨bE γ i w'.heap.size,by simpa [Act.put] using h1,h2,hget _ (fun j sj hj hsj=>(hval sj (aD hsj) γ _ (hγ j sj hj hsj)).1),RV,fun j sj o hj hsj Jw=>?_,fun j k sj sk hj hk hsj hsk hoj hok hne=>?_,hSa _ _ h7,h8.trans ((aq _ _).alloc h8.size _)⟩
  ·by_cases e:j=i
   ·subst e;rw[hs]at hsj;injection hsj with hsj;subst hsj
    rw[uS]at Jw;injection Jw with Jw;subst Jw
    rw[aW];exact⟨aS _ _,h8.size⟩
   ·rw[jP e]at hj;obtain⟨g1,g2⟩:=h5 j sj o hj hsj Jw;rw[bk _ _ e,(hval sj (aD hsj) γ _ (hγ j sj hj hsj)).2 o Jw];exact⟨(heap_alloc_old _ _ ((au.1 g1).1)).trans g1,g2⟩
  ·have h9:∀(m:Nat) (sm:lD),m≠i->CT L i m=true->sp[m]?=some sm->sm.obj.isSome=true->L m=true/\γ m<w'.heap.size:=fun m sm hmi hm sy NR=>by
    rw[jP hmi]at hm;obtain⟨o,ho3⟩:=Option.isSome_iff_exists.1 NR;exact⟨hm,(au.1 (h5 m sm o hm sy ho3).1).1⟩
   by_cases e:j=i
   ·subst e;rw[aW,bk _ _ (fun e2=>hne e2.symm)];have:=(h9 k sk (fun e2=>hne e2.symm) hk hsk hok).2;omega
   ·rw[bk _ _ e]
    by_cases e2:k=i
    ·subst e2;rw[aW];have:=(h9 j sj e hj hsj hoj).2;omega
    ·rw[bk _ _ e2];exact h6 j k sj sk (h9 j sj e hj hsj hoj).1 (h9 k sk e2 hk hsk hok).1 hsj hsk hoj hok hne
theorem wJ{P:Program}{id:Nat}{ops:Array Oper}{Q:Exit->Act->World->Prop}{a:Act}{w:World}(hm:P.follows .mixedOrders=true)(D:List (List Nat))(hD:pI .any ops=D)(hdn:rS 0 D=true)(sp:List lD)(S:World->Prop)(hlen:D.length=sp.length)
 (hdB:ndB (sp.map lD.d)=true) (U5:(sp.all fun s=>decide (s.d<a.tmps.size))=true) (hS:S w.drew) (hSa:∀w o,S w->S (w.alloc o))
 (hval:∀s∈sp,∀γ γ':Nat->Nat,(∀k∈s.sup,γ' k=γ k)->s.val γ'=s.val γ/\∀o,s.obj=some o->o γ'=o γ) (hsup:Ee sp D=true)
 (LW:rW P ops S a sp D 0 sp)
 (hdone:∀(γ:Nat->Nat) (w':World),(∀(j:Nat) (s:lD) o,sp[j]?=some s->s.obj=some o->w'.heap[γ j]?=some (o γ)/\w.heap.size<=γ j)->(∀(i j:Nat) (s r:lD),sp[i]?=some s->sp[j]?=some r->s.obj.isSome=true->r.obj.isSome=true->i≠j->γ i≠γ j)->Below w.heap.size w w'->S w'->Q .normal (puts γ sp a) w'):
 (Code.region id ops true).wp P Q a w:=by
 have hd:=Ef hdB;have hsz:∀s∈sp,s.d<a.tmps.size:=fun s hs=>by simpa using List.all_eq_true.1 U5 s hs
 refine oW hm D hD hdn (fun fa L a' w'=>∃γ,IA w S fa sp L γ a' w') (fun fa=>⟨fun _=>0,rfl,rfl,fun t=>?_,fun j s h=>by simp at h,fun j s o h=>by simp at h,fun i j s r h=>by simp at h,hS,(aq _ _).drew⟩) (fun L a' w' hL h=>?_) (Steps.of 0 D fun i d hi L a' w' h NY PX=>?_)
 ·cases xR sp t with
  |none=>rfl
  |some j=>simp
 ·obtain⟨γ,h1,h2,h3,h4,h5,h6,h7,h8⟩:=h;have hall:∀(j:Nat) (s:lD),sp[j]?=some s->L j=true:=fun j s hj=>hL j (by rw[hlen];exact(aC.1 hj).1)
  have e:a'=puts γ sp a:=by
   obtain⟨g1,g2⟩:=rz γ sp a;refine Gr (h1.trans g1.symm) (h2.trans g2.symm) fun t=>?_;rw[h3,uU γ sp a hd hsz]
   cases hx:xR sp t with
   |none=>rfl
   |some j=>
    obtain⟨s,hs,_⟩:=qz hx;simp only[hall j s hs,if_true]
  rw[e];exact hdone γ w' (fun j s o hj ho=>h5 j s o (hall j s hj) hj ho) (fun i j s r hi hj=>h6 i j s r (hall i s hi) (hall j r hj) hi hj) h8 h7
 ·rw[Nat.zero_add]at NY⊢;exact IA.op D sp S hi (by rw[<-hlen];exact(aC.1 hi).1) hd hsz hSa hval hsup LW h NY PX
theorem IA.full{S:World->Prop}{a a':Act}{w w':World}{sp:List lD}{L:Nat->Bool}{γ:Nat->Nat}(hd:(sp.map lD.d).Nodup)(hsz:∀s∈sp,s.d<a.tmps.size)(h:IA w S a sp L γ a' w')(hL:∀i,i<sp.length->L i=true):
 a'=puts γ sp a/\(∀(j:Nat) (s:lD) o,sp[j]?=some s->s.obj=some o->w'.heap[γ j]?=some (o γ)/\w.heap.size<=γ j)/\(∀(i j:Nat) (s r:lD),sp[i]?=some s->sp[j]?=some r->s.obj.isSome=true->r.obj.isSome=true->i≠j->γ i≠γ j)/\Below w.heap.size w w'/\S w':=by
 obtain⟨h1,h2,h3,h4,h5,h6,h7,h8⟩:=h;have hall:∀(j:Nat) (s:lD),sp[j]?=some s->L j=true:=fun j s hj=>hL j (aC.1 hj).1;refine⟨?_,fun j s o hj ho=>h5 j s o (hall j s hj) hj ho,fun i j s r hi hj=>h6 i j s r (hall i s hi) (hall j r hj) hi hj,h8,h7⟩;obtain⟨g1,g2⟩:=rz γ sp a;refine Gr (h1.trans g1.symm) (h2.trans g2.symm) fun t=>?_;rw[h3,uU γ sp a hd hsz]
 cases hx:xR sp t with
 |none=>rfl
 |some j=>
  obtain⟨s,hs,_⟩:=qz hx;simp only[hall j s hs,if_true]
def PY(D:List (List Nat)):Nat->List Nat->List Nat
 |0,l=>l
 |k+1,l=>PY D k (l++l.flatMap fun i=>(D[i]?).getD [])
theorem Gs{D:List (List Nat)}{L:Nat->Bool}(hL:∀i,L i=true->∀j∈(D[i]?).getD [],L j=true):∀(k:Nat) (l:List Nat),(∀i∈l,L i=true)->∀i∈PY D k l,L i=true
 |0,l,h=>h
 |k+1,l,h=>Gs hL k _ fun i hi=>(List.mem_append.1 hi).elim (h i) fun h2=>by
   obtain⟨x,hx,hi⟩:=List.mem_flatMap.1 h2;exact hL x (h x hx) i hi
theorem uV{P:Program}{id:Nat}{ops:Array Oper}{Q:Exit->Act->World->Prop}{a:Act}{w:World}(hm:P.follows .mixedOrders=true)(D:List (List Nat))(hD:pI .any ops=D)(hdn:rS 0 D=true)(sp:List lD)(S:World->Prop)(hlen:D.length=sp.length+1)(f:Nat)(hall:((List.range sp.length).all fun i=>(PY D f ((D[sp.length]?).getD [])).contains i)=true)
 (hdB:ndB (sp.map lD.d)=true) (U5:(sp.all fun s=>decide (s.d<a.tmps.size))=true) (hS:S w.drew) (hSa:∀w o,S w->S (w.alloc o))
 (hval:∀s∈sp,∀γ γ':Nat->Nat,(∀k∈s.sup,γ' k=γ k)->s.val γ'=s.val γ/\∀o,s.obj=some o->o γ'=o γ) (hsup:Ee sp D=true)
 (LW:rW P ops S a sp D 0 sp)
 (hlast:∀(γ:Nat->Nat) (w':World),(∀(j:Nat) (s:lD) o,sp[j]?=some s->s.obj=some o->w'.heap[γ j]?=some (o γ)/\w.heap.size<=γ j)->(∀(i j:Nat) (s r:lD),sp[i]?=some s->sp[j]?=some r->s.obj.isSome=true->r.obj.isSome=true->i≠j->γ i≠γ j)->Below w.heap.size w w'->S w'->wpOp P ops Q sp.length (Q .normal) (puts γ sp a) w'):
 (Code.region id ops true).wp P Q a w:=by
 have hd:=Ef hdB;have hsz:∀s∈sp,s.d<a.tmps.size:=fun s hs=>by simpa using List.all_eq_true.1 U5 s hs
 refine oW hm D hD hdn (fun fa L a' w'=>(∀i,L i=true->∀j∈(D[i]?).getD [],L j=true)/\(L sp.length=false->∃γ,IA w S fa sp L γ a' w')/\(L sp.length=true->Q .normal a' w')) (fun fa=>⟨fun i h=>by simp at h,fun _=>⟨fun _=>0,rfl,rfl,fun t=>?_,fun j s h=>by simp at h,fun j s o h=>by simp at h,fun i j s r h=>by simp at h,hS,(aq _ _).drew⟩,fun h=>by simp at h⟩) (fun L a' w' hL h=>h.2.2 (hL _ (by omega))) (Steps.of 0 D fun i d hi L a' w' h NY PX=>?_)
 ·cases xR sp t with
  |none=>rfl
  |some j=>simp
 ·rw[Nat.zero_add]at NY⊢;obtain⟨hc,h1,h2⟩:=h
  have U6:∀j∈PY D f ((D[sp.length]?).getD []),L sp.length=true∨(i=sp.length)->L j=true:=fun j hj iX=>by
   refine Gs hc f _ (fun x hx=>?_) j hj;rcases iX with h|rfl
   ·exact hc _ h x hx
   ·rw[hi]at hx;exact PX x (by simpa using hx)
  have Zy:(L sp.length=true∨i=sp.length)->∀j,j<sp.length->L j=true:=fun iX j hj=>U6 j (by
   have:=List.all_eq_true.1 hall j (List.mem_range.2 hj)
   simpa using this) iX
  have hcl:∀x,CT L i x=true->∀j∈(D[x]?).getD [],CT L i j=true:=fun x hx j hj=>by
   by_cases e:x=i
   ·subst e;rw[hi]at hj
    by_cases e2:j=x
    ·subst e2;exact qZ
    ·rw[jP e2];exact PX j (by simpa using hj)
   ·rw[jP e]at hx
    by_cases e2:j=i
    ·subst e2;exact qZ
    ·rw[jP e2];exact hc x hx j hj
  have hil:i<D.length:=(aC.1 hi).1
  by_cases hie:i=sp.length
  ·obtain⟨γ,hI⟩:=h1 (by rw[<-hie];exact NY);obtain⟨rfl,g2,g3,g4,g5⟩:=hI.full hd hsz (Zy (.inr hie));rw[hie];refine wpOp_mono (fun a2 w2 hq=>?_) (hlast γ w' g2 g3 g4 g5);rw[hie]at hcl;exact⟨hcl,fun h=>(by rw[qZ]at h;cases h),fun _=>hq⟩
  ·have hilt:i<sp.length:=by omega
   have hLm:L sp.length=false:=by
    cases e:L sp.length with
    |false=>rfl
    |true=>rw[Zy (.inl e) i hilt]at NY;cases NY
   refine wpOp_mono (fun a2 w2 hq=>?_) (IA.op (Q:=Q) D sp S hi hilt hd hsz hSa hval hsup LW (h1 hLm) NY PX);have hne:sp.length≠i:=fun h=>hie h.symm;exact⟨hcl,fun _=>hq,fun h=>by rw[jP hne,hLm]at h;cases h⟩
theorem Eg{P:Program}{ops:Array Oper}{Q:Exit->Act->World->Prop}{K:Act->World->Prop}{i:Nat}{a:Act}{w w':World}{o:Oper}(hi:ops[i]?=some o)(hg:o.guard=none)(hr:(execOp a.eval o).run P w= .ok .skip w')(hk:K (a.put o.dst undef) w'):wpOp P ops Q i K a w:=by
 have hw:Region.wanted o (yielded ops a.tmps)=true:=by simp[Region.wanted,hg]
 unfold wpOp;simp only[hi,hw,if_true];left;simp only[Oper.wp,hr,Oper.upon];exact hk
end Go.Proofs.YtkmpoleajjgfaaaGreat
