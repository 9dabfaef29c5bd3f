/- Parts of the proof, in order. -/
import Derived.Test.YtkmpoleajjgfaaaGreatQ10
namespace Go.Proofs.YtkmpoleajjgfaaaGreat
open Go.RowKit Gm
set_option maxRecDepth 100000
set_option maxHeartbeats 16000000
def gv:List (Nat×Rat)->Nat->Rat
 |[],_=>0
 |p::l,j=>(if p.1=j then p.2 else 0)+gv l j
def jo(l:List (Nat×Rat)):Prop:=∀(a b:Nat) (p q:Nat×Rat),a<b->l[a]?=some p->l[b]?=some q->p.1<q.1
theorem Py{l:List (Nat×Rat)}(h:∀a p q,l[a]?=some p->l[a+1]?=some q->p.1<q.1):jo l:=by
 intro a b p q hab hp hq;obtain⟨d,rfl⟩:∃d,b=a+1+d:=⟨b- (a+1),by omega⟩
 induction d generalizing q with
 |zero=>exact h a p q hp hq
 |succ d ih=>
  obtain⟨r,hr⟩:∃r,l[a+1+d]?=some r:=by
   have:=(aC.1 hq).1;exact⟨l[a+1+d]'(by omega),aB _⟩
  exact Nat.lt_trans (ih r (by omega) hr) (h _ r q hr hq)
def ZI(w:World)(P:Prop)(e:Ending)(w':World):Prop:=∃f,e= .returned (.bool f)/\(f=true↔P)/\Below w.heap.size w w'
def EC(w:World)(b o:Nat)(p:Nat×Rat)(K:Nat):Prop:=
 w.cell? ⟨b,o,none⟩=some (.int .i64 (p.1:Int))/\∃x y z,w.cell? ⟨b,o+1,none⟩=some x/\w.cell? ⟨b,o+2,none⟩=some y/\w.cell? ⟨b,o+3,none⟩=some z/\bG w x y z p.2 K
def EL(w:World)(D:Option Addr)(l:List (Nat×Rat))(K:Nat):Prop:=
 0<l.length->∃b off,D=some ⟨b,off,none⟩/\b<w.heap.size/\∀i p,l[i]?=some p->EC w b (off+i*4) p K
section
variable {w w':World}{D:Option Addr}{l:List (Nat×Rat)}{K L b o:Nat}{p:Nat×Rat}
theorem EC.below(h:EC w b o p K)(hb:Below w.heap.size w w')(hlt:b<w.heap.size):EC w' b o p K:=by
 obtain⟨h1,x,y,z,h2,h3,h4,h5⟩:=h;exact⟨(hb.cell (p:=⟨b,_,none⟩) hlt).trans h1,x,y,z,(hb.cell (p:=⟨b,_,none⟩) hlt).trans h2,(hb.cell (p:=⟨b,_,none⟩) hlt).trans h3,(hb.cell (p:=⟨b,_,none⟩) hlt).trans h4,h5.keep hb⟩
theorem EL.below(h:EL w D l K)(hb:Below w.heap.size w w'):EL w' D l K:=fun h0=>by
 obtain⟨b,off,e,hlt,hc⟩:=h h0;exact⟨b,off,e,ak hlt hb.size,fun i p hp=>(hc i p hp).below hb hlt⟩
theorem EC.mono(h:EC w b o p K)(hk:K<=L):EC w b o p L:=by
 obtain⟨h1,x,y,z,h2,h3,h4,h5⟩:=h;exact⟨h1,x,y,z,h2,h3,h4,h5.mono hk⟩
theorem EL.mono(h:EL w D l K)(hk:K<=L):EL w D l L:=fun h0=>by
 obtain⟨b,off,e,hlt,hc⟩:=h h0;exact⟨b,off,e,hlt,fun i p hp=>(hc i p hp).mono hk⟩
theorem EL.nil:EL w D [] K:=fun h=>absurd h (by simp)
end
theorem LA{w:World}{D:Option Addr}{l:List (Nat×Rat)}{c K:Nat}(hl:EL w D l K)(hm:l.length<=1048576):
 Calls Tryz.prog 109 #[.slice D l.length c] w (ZI w (jo l)):=by
 obtain⟨m,em⟩:=xeq l.length;rw[em]at hm⊢;go_enter Tryz.func109,Tryz.ntmps109
 go_wp2_with fail
 go_loopw [3] (fun s wr=>∃k:Nat,s= .int .i64 (k:Int)/\1<=k/\(k<=m∨k=1)/\(∀a p q,a+1<k->l[a]?=some p->l[a+1]?=some q->p.1<q.1)/\Below w.heap.size w wr) (fun s _=>m- (intOf s).toNat)
 case atStart=>exact⟨1,rfl,aj _, .inr rfl,fun a p q h=>by omega,aq _ _⟩
 case round=>
  obtain⟨k,rfl,h1,h2,h3,hb⟩:=hrel
  by_cases hlt:k<m
  ·obtain⟨b,off,rfl,hbl,hc⟩:=(hl.below hb) (by omega);obtain⟨k',ek⟩:∃k',k=k'+1:=⟨k-1,by omega⟩;obtain⟨p,hp⟩:∃p,l[k']?=some p:=⟨_,aB (show k'<l.length by omega)⟩;obtain⟨q,hq⟩:∃p,l[k]?=some p:=⟨l[k]'(by omega),aB _⟩;have c0:=(hc _ p hp).1;have c1:=(hc _ q hq).1;obtain⟨x,ex⟩:=xeq p.1;obtain⟨y,ey⟩:=xeq q.1;rw[ex]at c0;rw[ey]at c1;have i0:(0:Int)<=(k':Int):=by omega
   have i1:(k':Int)<m:=by omega
   have j0:(0:Int)<=(k:Int):=by omega
   have j1:(k:Int)<m:=by omega
   have e1:IntKind.i64.wrap ((k:Int) -1)=(k':Int):=by rw[show(k:Int) -1=(k':Int) by omega];exact IntWalk.i64_in _ (by omega)
   clear hc hl
   by_cases hxy:x<y
   ·have hxy':¬(y:Int)<=(x:Int):=by omega
    have H:=ah (show∀a p q,a+1<k+1->l[a]?=some p->l[a+1]?=some q->p.1<q.1 from fun a p' q' ha hp' hq'=>by
     by_cases e:a=k'
     ·subst e;rw[<-ek]at hq';rw[hp]at hp';rw[hq]at hq';injection hp' with hp';injection hq' with hq';subst hp' hq';omega
     ·exact h3 a p' q' (by omega) hp' hq')
    clear h3 hp hq ex ey ek;go_upto_region 4 with fail
    go_still (by kernel_rfl)
    have hbz:Below w.heap.size w ({heap:=wr.heap,tape:=wr.tape,drawn:=wr.drawn+1,os:=wr.os,output:=wr.output}:World):=hb.trans ((aq _ _).drew.mono hb.size);clear hb c0 c1;generalize ({heap:=wr.heap,tape:=wr.tape,drawn:=wr.drawn+1,os:=wr.os,output:=wr.output}:World)=Wz at hbz⊢;go_wp2_with fail
    go_roundw
    case rel=>exact⟨k+1,by go_num,by omega, .inl (by omega),H.out,hbz⟩
    case measure=>simp[intOf];omega
   ·have hxy':(y:Int)<=(x:Int):=by omega
    have H:=ah (show¬jo l from fun h=>hxy (by have:=h k' k p q (by omega) hp hq;omega));clear h3 hp hq ex ey ek;go_upto_region 4 with fail
    go_still (by kernel_rfl)
    have hbz:Below w.heap.size w ({heap:=wr.heap,tape:=wr.tape,drawn:=wr.drawn+1,os:=wr.os,output:=wr.output}:World):=hb.trans ((aq _ _).drew.mono hb.size);clear hb c0 c1;generalize ({heap:=wr.heap,tape:=wr.tape,drawn:=wr.drawn+1,os:=wr.os,output:=wr.output}:World)=Wz at hbz⊢;go_wp2_with fail
    go_ret;exact⟨_,rfl,⟨fun h=>by simp at h,fun h=>absurd h H.out⟩,hbz⟩
  ·have i1:¬(k:Int)<m:=by omega
   have H:=ah (show jo l from Py fun a p q hp hq=>h3 a p q (by have:=(aC.1 hq).1;omega) hp hq);clear hl h3;go_wp2_with fail
   go_ret;exact⟨_,rfl,⟨fun _=>H.out,fun _=>rfl⟩,hb⟩
structure Cr(w:World)(N:Nat)(i b s t:Value):Prop where
 c0:w.cell? ⟨N,0,none⟩=some i
 c1:w.cell? ⟨N,1,none⟩=some b
 c2:w.cell? ⟨N,2,none⟩=some s
 c3:w.cell? ⟨N,3,none⟩=some t
 f0:w.frozen? ⟨N,0,none⟩=false
 f1:w.frozen? ⟨N,1,none⟩=false
 f2:w.frozen? ⟨N,2,none⟩=false
 f3:w.frozen? ⟨N,3,none⟩=false
theorem Cr.lt{w:World}{N:Nat}{i b s t:Value}(h:Cr w N i b s t):N<w.heap.size:=aG w _ h.c0
theorem Cr.keep{w w':World}{N:Nat}{i b s t:Value}(h:Cr w N i b s t)(hb:Below w.heap.size w w'):Cr w' N i b s t:=
 have hN:=h.lt
 ⟨(hb.cell (p:=⟨N,0,none⟩) hN).trans h.c0,(hb.cell (p:=⟨N,1,none⟩) hN).trans h.c1,(hb.cell (p:=⟨N,2,none⟩) hN).trans h.c2,(hb.cell (p:=⟨N,3,none⟩) hN).trans h.c3,(hb.frozen (p:=⟨N,0,none⟩) hN).trans h.f0,(hb.frozen (p:=⟨N,1,none⟩) hN).trans h.f1,(hb.frozen (p:=⟨N,2,none⟩) hN).trans h.f2,(hb.frozen (p:=⟨N,3,none⟩) hN).trans h.f3⟩
theorem Cr.new(w:World)(i b s t:Value):Cr (w.alloc (.cells #[i,b,s,t] 92)) w.heap.size i b s t:=by
 refine⟨?_,?_,?_,?_,?_,?_,?_,?_⟩<;>go_simp
theorem yU{l:List (Nat×Rat)}{k:Nat}{p:Nat×Rat}(hp:l[k]?=some p)(j:Nat):gv (l.take (k+1)) j=gv (l.take k) j+ (if p.1=j then p.2 else 0):=by
 induction l generalizing k with
 |nil=>simp at hp
 |cons a l ih=>
  cases k with
  |zero=>simp at hp;subst hp;simp[gv,Rat.zero_add,Rat.add_zero]
  |succ k=>
   simp only[List.getElem?_cons_succ]at hp;rw[List.take_succ_cons,List.take_succ_cons,gv,gv,ih hp,Rat.add_assoc]
theorem LB{l:List (Nat×Rat)}(h:jo l)(j:Nat):(gv l j=0/\∀p∈l,p.1≠j)∨∃p∈l,p.1=j/\gv l j=p.2:=by
 induction l with
 |nil=>exact .inl ⟨rfl,fun p hp=>by simp at hp⟩
 |cons a l ih=>
  have ht:jo l:=fun x y p q hxy hp hq=>h (x+1) (y+1) p q (by omega) (by simpa using hp) (by simpa using hq)
  have ha:∀p∈l,a.1<p.1:=fun p hp=>by
   obtain⟨k,hk⟩:=aJ hp;exact h 0 (k+1) a p (by omega) rfl (by simpa using hk)
  by_cases e:a.1=j
  ·right;refine⟨a,by simp,e,?_⟩;rcases ih ht with ⟨h1,_⟩|⟨p,hp,hpj,_⟩
   ·rw[gv,if_pos e,h1,Rat.add_zero]
   ·have:=ha p hp;omega
  ·rcases ih ht with ⟨h1,h2⟩|⟨p,hp,hpj,h3⟩
   ·left;refine⟨by rw[gv,if_neg e,h1,Rat.add_zero],fun p hp=>?_⟩;rcases List.mem_cons.1 hp with rfl|hp
    ·exact e
    ·exact h2 p hp
   ·exact .inr ⟨p,by simp[hp],hpj,by rw[gv,if_neg e,h3,Rat.zero_add]⟩
theorem jo.take{l:List (Nat×Rat)}(h:jo l)(k:Nat):jo (l.take k):=fun a b p q hab hp hq=>by
 rw[List.getElem?_take]at hp hq;split at hp
 ·split at hq
  ·exact h a b p q hab hp hq
  ·cases hq
 ·cases hp
theorem EL.sz{w:World}{D:Option Addr}{l:List (Nat×Rat)}{K:Nat}(h:EL w D l K):∀p∈l,Sz p.2 K:=fun p hp=>by
 obtain⟨i,hi⟩:=aJ hp;obtain⟨b,off,_,_,hc⟩:=h (by have:=(aC.1 hi).1;omega);obtain⟨_,_,_,_,_,_,_,h5⟩:=hc i p hi;exact h5.sz
theorem RR{l:List (Nat×Rat)}{K:Nat}(h:jo l)(hz:∀p∈l,Sz p.2 K)(h1:1<=K)(j:Nat):Sz (gv l j) K:=by
 rcases LB h j with ⟨e,_⟩|⟨p,hp,_,e⟩
 ·rw[e];exact fk h1
 ·rw[e];exact hz p hp
theorem LC{w:World}{D:Option Addr}{l:List (Nat×Rat)}{c K j:Nat}(hl:EL w D l K)(hm:l.length<=1048576)(hs:jo l)(hj:j<=1048576)(mB:1<=K)(hK:K<=1099511627776):
 Calls Tryz.prog 51 #[.slice D l.length c, .int .i64 (j:Int)] w (nV w (gv l j)):=by
 obtain⟨m,em⟩:=xeq l.length;rw[em]at hm⊢;obtain⟨W,hW,bC,i0⟩:∃W,w.alloc (.cells #[.bool false, .slice none 0 0, .slice none 0 0] 45)=W/\Below w.heap.size w W/\cK W w.heap.size (.bool false) (.slice none 0 0) (.slice none 0 0):=⟨_,rfl,bI _ _,cK.new _ _ _ _⟩;have wU:=i0.lt;have HW:=ah hW;have E0:=ah (show mkRat 0 1=(0:Rat)from rfl);clear hW;go_enter Tryz.func51,Tryz.ntmps51
 go_wp2_with fail
 rw[HW.out];refine(fO (by omega) (by omega) E0.out).mono ?_;rintro e w1 ⟨b1,s1,t1,rfl,o1,g1⟩;obtain⟨w2,hw2⟩:=xeq (w1.alloc (.cells #[b1,s1,t1] 45));have i1:cK w2 w1.heap.size b1 s1 t1:=by rw[<-hw2];exact cK.new _ _ _ _
 have g2:Below w1.heap.size w1 w2:=by rw[<-hw2];exact bI _ _
 obtain⟨q0,q1,q2⟩:=o1.st;have g12:=g1.trans (g2.mono g1.size);have hb2:=bC.trans (g12.mono bC.size);have zZ:=i0.keep g12;have o2:=(o1.mono bC.size).keep g2;have nN:w.heap.size<w1.heap.size:=ak wU g1.size;obtain⟨N,eN⟩:=xeq w1.heap.size;have HW2:=ah hw2;clear hw2 i0 o1 g1 g2 g12 bC HW;go_wp2_with fail
 rw[HW2.out];rw[eN]at i1 nN
 try rw[eN]
 clear eN HW2 q0 q1 q2
 go_loopw [11] (fun v wr=>∃k:Nat,v= .int .i64 (k:Int)/\k<=m/\∃b' s' t',cK wr N b' s' t'/\cV w.heap.size wr b' s' t' (gv (l.take k) j)/\cK wr w.heap.size (.bool false) (.slice none 0 0) (.slice none 0 0)/\Below w.heap.size w wr) (fun v _=>m- (intOf v).toNat)
 case atStart=>exact⟨0,rfl,aF _,b1,s1,t1,i1,o2,zZ,hb2⟩
 case round=>
  clear i1 o2 zZ hb2;obtain⟨k,rfl,hk,b',s',t',i1,o2,zZ,hb2⟩:=hrel
  by_cases hlt:k<m
  ·obtain⟨p,hp⟩:∃p,l[k]?=some p:=⟨l[k]'(by omega),aB _⟩;obtain⟨b,off,rfl,hbl,hc⟩:=(hl.below hb2) (by omega);obtain⟨c0,x,y,z,c1,c2,c3,hx⟩:=hc k p hp;have hz:=RR (hs.take k) (fun p hp=>hl.sz p (List.mem_of_mem_take hp)) mB j;have hgt:=yU hp j;obtain⟨u,eu⟩:=xeq p.1;obtain⟨r,er⟩:=xeq p.2;rw[eu]at c0 hgt;rw[er]at hx hgt;have v0:(0:Int)<=(k:Int):=by omega
   have v1:(k:Int)<m:=by omega
   have bo:=bI wr (.cells #[.int .i64 (u:Int),x,y,z] 92);have i5:=Cr.new wr (.int .i64 (u:Int)) x y z;have Xp:=i1.keep bo;have Pz:=zZ.keep bo;have QU:=hx.keep bo;have o3:=o2.keep bo;have akg:=o2.nol;obtain⟨q0,q1,q2⟩:=hx.st;have fq:=hb2.trans (bo.mono hb2.size);obtain⟨v2,v3,v4,v5,v6,v7,v8,v9⟩:=id i5;clear hc hl hp eu er bo i5 i1 zZ o2 hb2 hx
   by_cases e:u=j
   ·subst e;rw[if_pos rfl]at hgt;have HG:=ah hgt;have o4:=o3.is hz;obtain⟨u0,u1,u2,u3,u4,u5⟩:=id Xp;clear o3;go_wp2_with fail
    refine(kI o4 QU hK HG.out.symm).mono ?_;rintro e w3 ⟨b3,s3,t3,rfl,o4,g3⟩;have i1:=Xp.keep g3;have zZ:=Pz.keep g3;obtain⟨y0,y1,y2,y3,y4,y5⟩:=id i1;obtain⟨z0,z1,z2⟩:=o4.st;have hb4:=fq.trans (g3.mono fq.size);have HR:=ah (show cK (((w3.setCell ⟨N,0,none⟩ b3).setCell ⟨N,1,none⟩ s3).setCell ⟨N,2,none⟩ t3) N b3 s3 t3/\cV w.heap.size (((w3.setCell ⟨N,0,none⟩ b3).setCell ⟨N,1,none⟩ s3).setCell ⟨N,2,none⟩ t3) b3 s3 t3 _/\cK (((w3.setCell ⟨N,0,none⟩ b3).setCell ⟨N,1,none⟩ s3).setCell ⟨N,2,none⟩ t3) w.heap.size (.bool false) (.slice none 0 0) (.slice none 0 0)/\Below w.heap.size w (((w3.setCell ⟨N,0,none⟩ b3).setCell ⟨N,1,none⟩ s3).setCell ⟨N,2,none⟩ t3)from⟨i1.put _ _ _,(o4.mono fq.size).gY i1 akg _ _ _,zZ.Cq (by omega) _ _ _,dD hb4 (by omega) _ _ _⟩);clear o4 i1 zZ Xp Pz QU hgt;go_wp2_with fail
    go_roundw
    case rel=>exact⟨k+1,by go_num,by omega,b3,s3,t3,HR.out⟩
    case measure=>simp[intOf];omega
   ·have e':¬(u:Int)=(j:Int):=by omega
    rw[if_neg e,Rat.add_zero]at hgt;have HR:=ah (show cK (wr.alloc (.cells #[.int .i64 (u:Int),x,y,z] 92)) N b' s' t'/\cV w.heap.size (wr.alloc (.cells #[.int .i64 (u:Int),x,y,z] 92)) b' s' t' (gv (l.take (k+1)) j)/\cK (wr.alloc (.cells #[.int .i64 (u:Int),x,y,z] 92)) w.heap.size (.bool false) (.slice none 0 0) (.slice none 0 0)/\Below w.heap.size w (wr.alloc (.cells #[.int .i64 (u:Int),x,y,z] 92))from⟨Xp,by rw[hgt];exact o3,Pz,fq⟩);clear o3 Xp Pz QU hgt fq;go_wp2_with fail
    go_roundw
    case rel=>exact⟨k+1,by go_num,by omega,b',s',t',HR.out⟩
    case measure=>simp[intOf];omega
  ·obtain rfl:k=m:=by omega
   rw[aI (by omega)]at o2;obtain⟨y0,y1,y2,y3,y4,y5⟩:=id i1;obtain⟨z0,z1,z2,z3,z4,z5⟩:=id zZ;obtain⟨q0,q1,q2⟩:=o2.st;have dw:=ah (Bb (w:=w) zZ (aj _) o2 (aj _) hb2);clear o2 i1 zZ hl;go_wp2_with fail
   exact bodyPost_ret (v:= .agg #[b',s',t']) (by simp[results,Tryz.results51,go_sem,z0,z1,z2]) rfl dw.out
structure Can(n:Nat)(l:List (Nat×Rat)):Prop where
 jF:jo l
 lt:∀p∈l,p.1<n
 ne:∀p∈l,p.2≠0
theorem lU{r:Rat}(h:r≠0):fZ r.num≠0:=by
 have h1:r.num≠0:=fun e=>h (Rat.num_eq_zero.1 e);unfold fZ;split
 ·omega
 ·split<;>omega
theorem PA{w:World}{D:Option Addr}{l:List (Nat×Rat)}{c K n:Nat}(hl:EL w D l K)(hm:l.length<=1048576)(hv:Can n l)(hK:K<=1099511627776):
 Calls Tryz.prog 112 #[.slice D l.length c, .int .i64 (n:Int)] w (fun e w'=>e= .returned (.bool true)/\Below w.heap.size w w'):=by
 have hA:=LA (c:=c) hl hm;obtain⟨m,em⟩:=xeq l.length;rw[em]at hm hA⊢;go_enter Tryz.func112,Tryz.ntmps112
 go_wp2_with fail
 refine hA.mono ?_;rintro e w1 ⟨f,rfl,hf,g1⟩;obtain rfl:=hf.2 hv.jF;clear hf hA;go_wp2_with fail
 go_loopw [12] (fun v wr=>∃k:Nat,v= .int .i64 (k:Int)/\k<=m/\Below w.heap.size w wr) (fun v _=>m- (intOf v).toNat)
 case atStart=>exact⟨0,rfl,aF _,g1⟩
 case round=>
  clear g1;obtain⟨k,rfl,hk,hb⟩:=hrel
  by_cases hlt:k<m
  ·obtain⟨p,hp⟩:∃p,l[k]?=some p:=⟨l[k]'(by omega),aB _⟩;have hpm:=aD hp;have jB:=hv.lt p hpm;have Xy:=lU (hv.ne p hpm);obtain⟨b,off,rfl,hbl,hc⟩:=(hl.below hb) (by omega);obtain⟨c0,x,y,z,c1,c2,c3,hx⟩:=hc k p hp;obtain⟨u,eu⟩:=xeq p.1;obtain⟨r,er⟩:=xeq p.2;rw[eu]at c0 jB;rw[er]at hx Xy;have v0:(0:Int)<=(k:Int):=by omega
   have v1:(k:Int)<m:=by omega
   have p0:¬(u:Int)<0:=by omega
   have p1:¬(n:Int)<=(u:Int):=by omega
   have bo:=bI wr (.cells #[.int .i64 (u:Int),x,y,z] 92);have i5:=Cr.new wr (.int .i64 (u:Int)) x y z;have QU:=hx.keep bo;obtain⟨q0,q1,q2⟩:=hx.st;have fq:=hb.trans (bo.mono hb.size);obtain⟨v2,v3,v4,v5,v6,v7,v8,v9⟩:=id i5;obtain⟨sg,kZ⟩:=xeq (fZ r.num);rw[kZ]at Xy;have ES:=ah kZ;clear hc hl hp eu er bo i5 hx hpm hv kZ;go_wp2_with fail
   refine(fN QU hK ES.out).mono ?_;rintro e w3 ⟨rfl,g3⟩;have hb4:=fq.trans (g3.mono fq.size);clear QU;go_wp2_with fail
   go_roundw
   case rel=>exact⟨k+1,by go_num,by omega,hb4⟩
   case measure=>simp[intOf];omega
  ·obtain rfl:k=m:=by omega
   clear hl hv;go_wp2_with fail
   go_ret;exact⟨rfl,hb⟩
def Av(P:Nat->Prop)(s:Value):Prop:=∀A n c,s= .slice (some A) n c->0<n->¬P A.block
theorem Av.mono{P Q:Nat->Prop}{s:Value}(h:Av P s)(hq:∀k,Q k->P k):Av Q s:=fun A n c e h0 CY=>h A n c e h0 (hq _ CY)
theorem Av.or{P Q:Nat->Prop}{s:Value}(h:Av P s)(h2:Av Q s):Av (fun k=>P k∨Q k) s:=fun A n c e h0 hq=>by
 rcases hq with hq|hq
 ·exact h A n c e h0 hq
 ·exact h2 A n c e h0 hq
theorem bQ.bJ{P:Nat->Prop}{w w':World}{A:Option Addr}{c:Nat}{xs:List Nat}(h:bQ w A c xs)(hc:bw P w w')(ha:Av P (.slice A xs.length c)):bQ w' A c xs:=
 ⟨h.lb,h.cap,h.max,fun h0=>by
   obtain⟨b,off,rfl,hlt,hd⟩:=h.cells h0;exact⟨b,off,rfl,ak hlt hc.size,fun k hk=>hc.cell (ha _ _ _ rfl h0) (hd k hk)⟩⟩
theorem bG.bJ{P:Nat->Prop}{w w':World}{b s t:Value}{r:Rat}{K:Nat}(h:bG w b s t r K)(hc:bw P w w')(h1:Av P s)(h2:Av P t):bG w' b s t r K:=by
 obtain⟨p,A,xs,c,B,ys,d,rfl,rfl,rfl,ha,hb,hs,ht,h3,hr⟩:=h;exact⟨p,A,xs,c,B,ys,d,rfl,rfl,rfl,ha.bJ hc h1,hb.bJ hc h2,hs,ht,h3,hr⟩
theorem bQ.av{w:World}{A:Option Addr}{c:Nat}{xs:List Nat}(h:bQ w A c xs):Av (fun k=>w.heap.size<=k) (.slice A xs.length c):=fun A' n c' e h0=>by
 injection e with e1 e2 e3
 subst e2;obtain⟨b,off,e4,hlt,_⟩:=h.cells h0;rw[e1]at e4;injection e4 with e4
 subst e4;exact Nat.not_le.2 hlt
theorem Own.av{lo:Nat}{w:World}{A:Option Addr}{c:Nat}{xs:List Nat}(h:Own lo w A c xs):Av (fun k=>k<lo) (.slice A xs.length c):=fun A' n c' e h0=>by
 injection e with e1 e2 e3
 subst e2;obtain⟨b,off,e4,hlo,hlt,_⟩:=h.cells h0;rw[e1]at e4;injection e4 with e4
 subst e4;exact Nat.not_lt.2 hlo
theorem bG.av{w:World}{b s t:Value}{r:Rat}{K:Nat}(h:bG w b s t r K):Av (fun k=>w.heap.size<=k) s/\Av (fun k=>w.heap.size<=k) t:=by
 obtain⟨p,A,xs,c,B,ys,d,rfl,rfl,rfl,ha,hb,hs,ht,h3,hr⟩:=h;exact⟨ha.av,hb.av⟩
theorem cV.av{lo:Nat}{w:World}{b s t:Value}{r:Rat}(h:cV lo w b s t r):Av (fun k=>k<lo) s/\Av (fun k=>k<lo) t:=by
 obtain⟨A,c,B,d,rfl,rfl,rfl,ha,hd⟩:=h;exact⟨ha.av,hd.av⟩
def nr(w:World)(P:Nat->Prop)(l:List (Nat×Rat))(xs:List Value)(K:Nat):Prop:=
 ∀i p,l[i]?=some p->xs[i*4]?=some (.int .i64 (p.1:Int))/\∃x y z,xs[i*4+1]?=some x/\xs[i*4+2]?=some y/\xs[i*4+3]?=some z/\bG w x y z p.2 K/\Av P y/\Av P z
def EO(w:World)(lo:Nat)(v:Value)(l:List (Nat×Rat))(K:Nat):Prop:=
 ∃xs,w.ownsRow lo 92 4 v l.length xs/\nr w (fun k=>k<lo∨v.ownBlock=some k) l xs K
theorem nr.keep{P:Nat->Prop}{w w':World}{l:List (Nat×Rat)}{xs:List Value}{K:Nat}(h:nr w P l xs K)(hb:Below w.heap.size w w'):nr w' P l xs K:=fun i p hp=>by
 obtain⟨h1,x,y,z,h2,h3,h4,h5,h6⟩:=h i p hp;exact⟨h1,x,y,z,h2,h3,h4,h5.keep hb,h6⟩
theorem nr.bJ{P Q:Nat->Prop}{w w':World}{l:List (Nat×Rat)}{xs:List Value}{K:Nat}(h:nr w P l xs K)(hc:bw Q w w')(hq:∀k,Q k->P k∨w.heap.size<=k):nr w' P l xs K:=fun i p hp=>by
 obtain⟨h1,x,y,z,h2,h3,h4,h5,h6,h7⟩:=h i p hp;obtain⟨a1,a2⟩:=h5.av;exact⟨h1,x,y,z,h2,h3,h4,h5.bJ hc ((h6.or a1).mono hq) ((h7.or a2).mono hq),h6,h7⟩
theorem nr.wide{P Q:Nat->Prop}{w:World}{l:List (Nat×Rat)}{xs:List Value}{K:Nat}(h:nr w P l xs K)(hq:∀k,Q k->P k∨w.heap.size<=k):nr w Q l xs K:=fun i p hp=>by
 obtain⟨h1,x,y,z,h2,h3,h4,h5,h6,h7⟩:=h i p hp;obtain⟨a1,a2⟩:=h5.av;exact⟨h1,x,y,z,h2,h3,h4,h5,(h6.or a1).mono hq,(h7.or a2).mono hq⟩
theorem EO.below{w w':World}{lo:Nat}{v:Value}{l:List (Nat×Rat)}{K:Nat}(h:EO w lo v l K)(hb:Below w.heap.size w w'):EO w' lo v l K:=by
 obtain⟨xs,h1,h2⟩:=h;exact⟨xs,bL h1 (bw.of (P:=fun _=>False) hb) (fun _ _ h=>h),h2.keep hb⟩
theorem EO.nil(w:World)(lo K:Nat):EO w lo (.slice none 0 0) [] K:=⟨[],World.ownsRow_nil _ _ _ _,fun i p hp=>by simp at hp⟩
theorem EO.slice{w:World}{lo:Nat}{v:Value}{l:List (Nat×Rat)}{K:Nat}(h:EO w lo v l K):∃D c,v= .slice D l.length c/\EL w D l K/\(l.length<=c/\c<=9223372036854775807):=by
 obtain⟨xs,h,hx⟩:=h;have hcl:=fun g=> @World.ownsRow.cells _ _ _ _ _ _ _ h g;obtain⟨h1,⟨rfl,h0⟩|⟨g,cap,cur,rfl,hb,hh,hc,hm,_⟩⟩:=h
 ·exact⟨none,0,by rw[h0],fun h=>by omega,by omega,by omega⟩
 ·have hlt:=(au.1 hh).1;refine⟨some ⟨g,0,none⟩,cap,rfl,fun _=>⟨g,0,rfl,hlt,fun i p hp=>?_⟩,hc,hm⟩;obtain⟨k0,x,y,z,k1,k2,k3,k4,_⟩:=hx i p hp;have a0:=hcl g rfl _ _ k0;have a1:=hcl g rfl _ _ k1;have a2:=hcl g rfl _ _ k2;have a3:=hcl g rfl _ _ k3;rw[ow]at a0 a1 a2 a3;refine⟨?_,x,y,z,?_,?_,?_,k4⟩
  ·rw[Nat.zero_add];exact a0
  ·rw[Nat.zero_add];exact a1
  ·rw[Nat.zero_add];exact a2
  ·rw[Nat.zero_add];exact a3
theorem EL.tail{w:World}{b off:Nat}{p:Nat×Rat}{l:List (Nat×Rat)}{K:Nat}(h:EL w (some ⟨b,off,none⟩) (p::l) K):EL w (some ⟨b,off+4,none⟩) l K:=fun h0=>by
 obtain⟨b',off',e,hlt,hc⟩:=h (by simp);injection e with e
 injection e with e1 e2 _
 subst e1 e2
 exact⟨b,off+4,rfl,hlt,fun i q hq=>by
  have:=hc (i+1) q (by simpa using hq);rw[show off+ (i+1)*4=off+4+i*4 by omega]at this;exact this⟩
theorem jo.tail{p:Nat×Rat}{l:List (Nat×Rat)}(h:jo (p::l)):jo l/\∀q∈l,p.1<q.1:=
 ⟨fun x y p q hxy hp hq=>h (x+1) (y+1) p q (by omega) (by simpa using hp) (by simpa using hq),fun q hq=>by
   obtain⟨k,hk⟩:=aJ hq;exact h 0 (k+1) p q (by omega) rfl (by simpa using hk)⟩
theorem iU{l:List (Nat×Rat)}{j:Nat}(h:∀p∈l,p.1≠j):gv l j=0:=by
 induction l with
 |nil=>rfl
 |cons a l ih=>rw[gv,if_neg (h a (by simp)),ih fun p hp=>h p (by simp[hp]),Rat.zero_add]
theorem fJ(l m:List (Nat×Rat))(j:Nat):gv (l++m) j=gv l j+gv m j:=by
 induction l with
 |nil=>rw[List.nil_append,gv,Rat.zero_add]
 |cons a l ih=>rw[List.cons_append,gv,gv,ih,Rat.add_assoc]
structure iO(n:Nat)(a b:List (Nat×Rat))(i:Nat)(x y:Rat)(a' b':List (Nat×Rat)):Prop where
 other:∀j,j≠i->gv a j=gv a' j/\gv b j=gv b' j
 gx:gv a i=x
 gy:gv b i=y
 up:(∀p∈a',i<p.1)/\∀p∈b',i<p.1
 jF:jo a'/\jo b'
 sub:(∀p∈a',p∈a)/\∀p∈b',p∈b
 len:a'.length+b'.length<a.length+b.length
 le:a'.length<=a.length/\b'.length<=b.length
 ex:∃p,(p∈a∨p∈b)/\p.1=i
theorem iO.symm{n:Nat}{a b a' b':List (Nat×Rat)}{i:Nat}{x y:Rat}(h:iO n a b i x y a' b'):iO n b a i y x b' a':=
 ⟨fun j hj=>(h.other j hj).symm,h.gy,h.gx,h.up.symm,h.jF.symm,h.sub.symm,by have:=h.len;omega,h.le.symm,by obtain⟨p,h1,h2⟩:=h.ex;exact⟨p,h1.symm,h2⟩⟩
theorem iO.left{n:Nat}{p:Nat×Rat}{a b:List (Nat×Rat)}(ha:jo (p::a))(hb:jo b)(hu:∀q∈b,p.1<q.1):iO n (p::a) b p.1 p.2 0 a b:=by
 obtain⟨h1,h2⟩:=ha.tail;refine⟨fun j hj=>⟨by rw[gv,if_neg (fun e=>hj e.symm),Rat.zero_add],rfl⟩,?_,iU fun q hq=>by have:=hu q hq;omega,⟨h2,hu⟩,⟨h1,hb⟩,⟨fun q hq=>by simp[hq],fun q hq=>hq⟩,by simp only[List.length_cons];omega,⟨by simp,aj _⟩,⟨p, .inl (by simp),rfl⟩⟩;rw[gv,if_pos rfl,iU fun q hq=>by have:=h2 q hq;omega,Rat.add_zero]
theorem iO.both{n:Nat}{p q:Nat×Rat}{a b:List (Nat×Rat)}(ha:jo (p::a))(hb:jo (q::b))(e:q.1=p.1):iO n (p::a) (q::b) p.1 p.2 q.2 a b:=by
 obtain⟨h1,h2⟩:=ha.tail;obtain⟨k1,k2⟩:=hb.tail;refine⟨fun j hj=>⟨by rw[gv,if_neg (fun e=>hj e.symm),Rat.zero_add],by rw[gv,if_neg (fun e2=>hj (by rw[<-e2,e])),Rat.zero_add]⟩,?_,?_,⟨h2,fun r hr=>by have:=k2 r hr;omega⟩,⟨h1,k1⟩,⟨fun q hq=>by simp[hq],fun q hq=>by simp[hq]⟩,by simp only[List.length_cons];omega,⟨by simp,by simp⟩,⟨p, .inl (by simp),rfl⟩⟩
 ·rw[gv,if_pos rfl,iU fun q hq=>by have:=h2 q hq;omega,Rat.add_zero]
 ·rw[gv,if_pos e,iU fun r hr=>by have:=k2 r hr;omega,Rat.add_zero]
structure sD(n:Nat)(op:Rat->Rat->Rat)(A B a b r:List (Nat×Rat)):Prop where
 eq:∀j,gv r j+op (gv a j) (gv b j)=op (gv A j) (gv B j)
 can:Can n r
 jF:jo a/\jo b
 up:∀p∈r,(∀q∈a,p.1<q.1)/\∀q∈b,p.1<q.1
 lt:(∀p∈a,p.1<n)/\∀p∈b,p.1<n
 len:r.length+a.length+b.length<=A.length+B.length
theorem jo.snoc{l:List (Nat×Rat)}{p:Nat×Rat}(h:jo l)(hp:∀q∈l,q.1<p.1):jo (l++ [p]):=fun a b q r hab hq hr=>by
 have hb:=(aC.1 hr).1;simp at hb
 by_cases e:b<l.length
 ·rw[aL (by omega)]at hq;rw[aL e]at hr;exact h a b q r hab hq hr
 ·obtain rfl:b=l.length:=by omega
  rw[aL (by omega)]at hq;rw[aK (aj _)]at hr;simp at hr;subst hr;exact hp q (aD hq)
section
variable {n i:Nat}{op:Rat->Rat->Rat}{A B a b r a' b':List (Nat×Rat)}{x y:Rat}
theorem sD.lti(h:sD n op A B a b r)(s:iO n a b i x y a' b'):i<n/\∀p∈r,p.1<i:=by
 obtain⟨p,hp,rfl⟩:=s.ex;rcases hp with hp|hp
 ·exact⟨h.lt.1 p hp,fun q hq=>(h.up q hq).1 p hp⟩
 ·exact⟨h.lt.2 p hp,fun q hq=>(h.up q hq).2 p hp⟩
theorem sD.skip(h:sD n op A B a b r)(h0:op 0 0=0)(s:iO n a b i x y a' b')(hz:op x y=0):sD n op A B a' b' r:=by
 obtain⟨hi,hr⟩:=h.lti s;refine⟨fun j=>?_,h.can,s.jF,fun p hp=>⟨fun q hq=>(h.up p hp).1 q (s.sub.1 q hq),fun q hq=>(h.up p hp).2 q (s.sub.2 q hq)⟩,⟨fun p hp=>h.lt.1 p (s.sub.1 p hp),fun p hp=>h.lt.2 p (s.sub.2 p hp)⟩,by have:=h.len;have:=s.len;omega⟩;rw[<-h.eq j]
 by_cases e:j=i
 ·subst e;rw[iU (l:=a') fun p hp=>by have:=s.up.1 p hp;omega,iU (l:=b') fun p hp=>by have:=s.up.2 p hp;omega,s.gx,s.gy,hz,h0]
 ·rw[(s.other j e).1,(s.other j e).2]
theorem sD.push(h:sD n op A B a b r)(h0:op 0 0=0)(s:iO n a b i x y a' b')(hz:op x y≠0):sD n op A B a' b' (r++ [(i,op x y)]):=by
 obtain⟨hi,hr⟩:=h.lti s;refine⟨fun j=>?_,⟨h.can.jF.snoc hr,fun p hp=>?_,fun p hp=>?_⟩,s.jF,fun p hp=>?_,⟨fun p hp=>h.lt.1 p (s.sub.1 p hp),fun p hp=>h.lt.2 p (s.sub.2 p hp)⟩,by have:=h.len;have:=s.len;simp;omega⟩
 ·rw[<-h.eq j,fJ]
  by_cases e:j=i
  ·subst e;rw[iU (l:=a') fun p hp=>by have:=s.up.1 p hp;omega,iU (l:=b') fun p hp=>by have:=s.up.2 p hp;omega,s.gx,s.gy,h0,Rat.add_zero,gv,gv,if_pos rfl,Rat.add_zero]
  ·rw[(s.other j e).1,(s.other j e).2,gv,gv,if_neg (fun e2=>e e2.symm),Rat.add_zero,Rat.add_zero]
 ·rcases List.mem_append.1 hp with hp|hp
  ·exact h.can.lt p hp
  ·simp at hp;subst hp;exact hi
 ·rcases List.mem_append.1 hp with hp|hp
  ·exact h.can.ne p hp
  ·simp at hp;subst hp;exact hz
 ·rcases List.mem_append.1 hp with hp|hp
  ·exact⟨fun q hq=>(h.up p hp).1 q (s.sub.1 q hq),fun q hq=>(h.up p hp).2 q (s.sub.2 q hq)⟩
  ·simp at hp;subst hp;exact s.up
end
theorem nr.snoc{P:Nat->Prop}{w:World}{l:List (Nat×Rat)}{xs:List Value}{K i:Nat}{r:Rat}{x y z:Value}(h:nr w P l xs K)(hx:xs.length=l.length*4)(hr:bG w x y z r K)(hy:Av P y)(hz:Av P z):nr w P (l++ [(i,r)]) (xs++ [.int .i64 (i:Int),x,y,z]) K:=fun k p hp=>by
 have hk:=(aC.1 hp).1;simp at hk
 by_cases e:k<l.length
 ·rw[aL e]at hp;obtain⟨h1,x',y',z',h2,h3,h4,h5⟩:=h k p hp;have hl:k*4+3<xs.length:=by omega
  exact⟨by rw[aL (by omega)];exact h1,x',y',z',by rw[aL (by omega)];exact h2,by rw[aL (by omega)];exact h3,by rw[aL (by omega)];exact h4,h5⟩
 ·obtain rfl:k=l.length:=by omega
  rw[aK (aj _)]at hp;simp at hp;subst hp;refine⟨?_,x,y,z,?_,?_,?_,hr,hy,hz⟩
  ·rw[aK (by omega),hx,Nat.sub_self];rfl
  ·rw[aK (by omega),hx,Nat.add_sub_cancel_left];rfl
  ·rw[aK (by omega),hx,Nat.add_sub_cancel_left];rfl
  ·rw[aK (by omega),hx,Nat.add_sub_cancel_left];rfl
theorem EO.push{w w':World}{lo g cap K i:Nat}{v:Value}{l:List (Nat×Rat)}{xs:List Value}{r:Rat}{x y z:Value}(h:nr w (fun k=>k<lo∨v.ownBlock=some k) l xs K)(hx:xs.length=l.length*4)(hr:bG w x y z r K)(hy:Av (fun k=>k<lo∨v.ownBlock=some k) y)(hz:Av (fun k=>k<lo∨v.ownBlock=some k) z)
 (ho:w'.ownsRow lo 92 4 (.slice (some ⟨g,0,none⟩) (l.length+1) cap) (l.length+1) (xs++ [.int .i64 (i:Int),x,y,z])) (hg:w.grownBy w' v.ownBlock) (iX:v.ownBlock=some g∨g=w.heap.size):EO w' lo (.slice (some ⟨g,0,none⟩) (l.length+1) cap) (l++ [(i,r)]) K:=by
 refine⟨_,by rw[List.length_append];exact ho,?_⟩;have h1:=(h.snoc (i:=i) hx hr hy hz).bJ (bw.grown hg) (fun k hk=> .inl (.inr hk.symm))
 have h2:=(h.snoc (i:=i) hx hr hy hz).wide (Q:=fun k=>k<lo∨some g=some k) (fun k hk=>by
  rcases hk with hk|hk
  ·exact .inl (.inl hk)
  ·injection hk with hk
   subst hk;rcases iX with e|e
   ·exact .inl (.inr e)
   ·exact .inr (Nat.le_of_eq e.symm))
 intro k p hp;obtain⟨a1,x',y',z',a2,a3,a4,a5,a6⟩:=h1 k p hp;obtain⟨b1,x2,y2,z2,b2,b3,b4,b5,b6⟩:=h2 k p hp;rw[a3]at b3;rw[a4]at b4;injection b3 with b3
 injection b4 with b4
 subst b3 b4;exact⟨a1,x',y',z',a2,a3,a4,a5,b6⟩
theorem bT:Tryz.prog.info? 92=some (((Tryz.prog.info? 92).getD default))/\(((Tryz.prog.info? 92).getD default)).zero=some (.agg #[.int .i64 0, .bool false, .slice none 0 0, .slice none 0 0])/\(((Tryz.prog.info? 92).getD default)).size=4/\(((Tryz.prog.info? 92).getD default)).bytes=64:=by
 refine⟨?_,?_,?_,?_⟩<;>kernel_rfl
theorem pJ{w:World}{ops:Array Oper}{rest:List Oper}{o:Oper}{a:Act}{Q:Exit->Act->World->Prop}(hgd:o.guard=none)(s x:Operand)(ho:o.op= .call {callee:= .builtin .append,args:=#[s,x],argTypes:=#[40,40]}){lo n:Nat}{v:Value}{xs:List Value}(hs:a.eval s=v)(hown:w.ownsRow lo 92 4 v n xs){B:Nat}{k p q r:Value}(hx:a.eval x= .slice (some ⟨B,0,none⟩) 1 1)(hb:w.heap[B]?=some (.cells #[k,p,q,r] 92 (0,0)))(h1:∀u∈[k,p,q,r],u.oneCell'=true)(hn:n<=1048576)(hlo:lo<=w.heap.size)
 (h:∀g cap w',w'.ownsRow lo 92 4 (.slice (some ⟨g,0,none⟩) (n+1) cap) (n+1) (xs++ [k,p,q,r])->w.grownBy w' v.ownBlock->(v.ownBlock=some g∨g=w.heap.size)->g<w'.heap.size->wpList Tryz.prog ops Q rest (a.put o.dst (.slice (some ⟨g,0,none⟩) (n+1) cap)) w'):wpList Tryz.prog ops Q (o::rest) a w:=
 wpList_append_lies w hgd s x 40 ho lo 92 _ (.agg #[.int .i64 0, .bool false, .slice none 0 0, .slice none 0 0]) 4 64 Tryz.underlying40 bT.1 bT.2.1 bT.2.2.1 bT.2.2.2 rfl (by decide) v n xs hs hown ⟨B,0,none⟩ 1 1 [k,p,q,r] hx rfl (World.news_of_block hb) h1 (by decide) (by simp only[maxLen];omega) (by omega) hlo w.heap.size rfl h
theorem bG.qG{w:World}{b s t:Value}{r:Rat}{K:Nat}(h:bG w b s t r K)(i:Int):∀u∈[Value.int .i64 i,b,s,t],u.oneCell'=true:=by
 obtain⟨p,A,xs,c,B,ys,d,rfl,rfl,rfl,_⟩:=h;intro u hu;simp at hu;rcases hu with rfl|rfl|rfl|rfl<;>simp[Value.oneCell']
theorem PB(z:Int)(n:Nat)(hz:z=(n:Int))(hn:n<=1048576)(u:World):
 (Instr.makeSlice 40 (.int .i64 0) (.int .i64 z)).run Tryz.prog u= .ok (.slice (some ⟨u.heap.size,0,none⟩) 0 n) (u.alloc (.cells (madeCells (Value.agg #[.int .i64 0, .bool false, .slice none 0 0, .slice none 0 0]).cells (n*4)) 92)):=by
 obtain⟨hi,hz0,hz1,hz2⟩:=bT;subst hz;have h:=run_make (P:=Tryz.prog) u 40 92 _ _ Tryz.underlying40 hi hz0 .i64 .i64 0 (n:Int) (Int.le_refl _) (by omega) (by rw[hz2];omega) (by omega);simp only[Int.toNat_natCast]at h;rw[hz1]at h;exact h
theorem EO.made(w:World)(lo n K:Nat)(z:Value)(h:lo<=w.heap.size)(hn:n<=1048576):EO (w.alloc (.cells (madeCells z.cells (n*4)) 92)) lo (.slice (some ⟨w.heap.size,0,none⟩) 0 n) [] K:=
 ⟨[],⟨rfl, .inr ⟨w.heap.size,n,_,rfl,h,aS w _,aF _,by simp only[maxLen];omega,by simp[madeCells],by simp⟩⟩,fun i p hp=>by simp at hp⟩
def sE:Value->Nat
 | .slice _ n _=>n
 |_=>0
theorem sD.start{n:Nat}{op:Rat->Rat->Rat}{A B:List (Nat×Rat)}(hsa:jo A)(hsb:jo B)(hna:∀p∈A,p.1<n)(hnb:∀p∈B,p.1<n):sD n op A B A B []:=
 ⟨fun j=>by rw[show gv [] j=0 from rfl,Rat.zero_add],⟨fun a b p q _ hp=>by simp at hp,fun p hp=>by simp at hp,fun p hp=>by simp at hp⟩,⟨hsa,hsb⟩,fun p hp=>by simp at hp,⟨hna,hnb⟩,by simp⟩
def rT(w:World)(n M:Nat)(f:Nat->Rat)(e:Ending)(w':World):Prop:=∃v r,e= .returned v/\EO w' w.heap.size v r M/\Can n r/\(∀j,gv r j=f j)/\Below w.heap.size w w'
theorem ZJ(w:World)(m:Nat):Below w.heap.size w (w.drewN m):=⟨rfl,rfl,rfl,aj _,fun _ _=>rfl⟩
theorem EO.blk{w:World}{lo:Nat}{v:Value}{l:List (Nat×Rat)}{K:Nat}(h:EO w lo v l K):∀k,v.ownBlock=some k->lo<=k/\k<w.heap.size:=fun k hk=>by
 obtain⟨xs,h1,_⟩:=h;exact h1.lt k hk
theorem EO.gY{w:World}{lo N:Nat}{v b s t:Value}{l:List (Nat×Rat)}{K:Nat}(h:EO w lo v l K)(hN:cK w N b s t)(k:iY b/\iY s/\iY t)(hv:v.ownBlock≠some N)(b' s' t':Value):EO (((w.setCell ⟨N,0,none⟩ b').setCell ⟨N,1,none⟩ s').setCell ⟨N,2,none⟩ t') lo v l K:=by
 obtain⟨xs,h1,h2⟩:=h
 have c:bw (·=N) w (((w.setCell ⟨N,0,none⟩ b').setCell ⟨N,1,none⟩ s').setCell ⟨N,2,none⟩ t'):=
  ((bw.set (P:=(·=N)) (p:=⟨N,0,none⟩) rfl _ _).trans (bw.set (P:=(·=N)) (p:=⟨N,1,none⟩) rfl _ _)).trans (bw.set (P:=(·=N)) (p:=⟨N,2,none⟩) rfl _ _)
 refine⟨xs,bL h1 c (fun k hk e=>hv (by rw[hk,e])),fun i p hp=>?_⟩;obtain⟨a1,x,y,z,a2,a3,a4,a5,a6⟩:=h2 i p hp;exact⟨a1,x,y,z,a2,a3,a4,a5.gY hN k _ _ _,a6⟩
theorem EL.UK{w:World}{b off:Nat}{c:Nat}{l:List (Nat×Rat)}{K:Nat}(h:EL w (some ⟨b,off+4,none⟩) l K)(hc:l.length<=c-1):EL w (if c=1 then some ⟨b,off,none⟩else some ⟨b,off+4,none⟩) l K:=by
 by_cases e:c=1
 ·intro h0;omega
 ·rw[if_neg e];exact h
theorem yZ{w:World}{Da Db:Option Addr}{A B:List (Nat×Rat)}{ca cb K M n kf:Nat}{cs:Array Value}{op:Rat->Rat->Rat}(hla:EL w Da A K)(hlb:EL w Db B K)(hca:A.length<=ca)(hcb:B.length<=cb)(hma:A.length<=262144)(hmb:B.length<=262144)(hsa:jo A)(hsb:jo B)(hna:∀p∈A,p.1<n)(hnb:∀p∈B,p.1<n)(_hn:n<=1048576)(mB:1<=K)(hM:M<=1099511627776)(h00:op 0 0=0)(hsz:∀x y,Sz x K->Sz y K->Sz (op x y) M)
 (TA:∀(a:Array Value) (w:World),(callFunc kf a).run Tryz.prog w= .ok (.enter kf a) w)
 (hop:∀wr a b c a' b' c' x y,Below w.heap.size w wr->bG wr a b c x K->bG wr a' b' c' y K->Calls Tryz.prog kf (#[.agg #[a,b,c], .agg #[a',b',c']]++cs) wr (nV wr (op x y))):
 Calls Tryz.prog 70 #[.slice Da A.length ca, .slice Db B.length cb, .func (.func kf) #[] cs] w (rT w n M fun j=>op (gv A j) (gv B j)):=by
 obtain⟨ma,ema⟩:=xeq A.length;obtain⟨mb,PG⟩:=xeq B.length;have LM:=ah hca;have JY:=ah hcb;clear hca hcb;rw[ema]at hma⊢;rw[PG]at hmb⊢;have hmk:=PB (max (ma:Int) mb) (max ma mb) (by omega) (by omega);have hO:=EO.made w w.heap.size (max ma mb) M (.agg #[.int .i64 0, .bool false, .slice none 0 0, .slice none 0 0]) (aj _) (by omega);have vT:=bI w (.cells (madeCells (Value.agg #[.int .i64 0, .bool false, .slice none 0 0, .slice none 0 0]).cells (max ma mb*4)) 92);have HI:=sD.start (n:=n) (op:=op) hsa hsb hna hnb;have XB:=ah ema;have XC:=ah PG;have HS:=ah hsz;clear hsa hsb hna hnb ema PG;go_enter Tryz.func70,Tryz.ntmps70
 go_wp2_with fail
 clear hmk
 go_loopw [0,1,7] (fun s u v wr=>∃D1 a c1 D2 b c2 r,s= .slice D1 a.length c1/\u= .slice D2 b.length c2/\EL w D1 a K/\EL w D2 b K/\a.length<=c1/\b.length<=c2/\EO wr w.heap.size v r M/\sD n op A B a b r/\Below w.heap.size w wr) (fun s u _ _=>sE s+sE u)
 case atStart=>exact⟨Da,A,ca,Db,B,cb,[],by rw[XB.out],by rw[XC.out],hla,hlb,LM.out,JY.out,hO,HI,vT⟩
 case round=>
  clear hla hlb hO vT HI LM JY;obtain⟨D1,a,c1,D2,b,c2,r,rfl,rfl,hla,hlb,hca,hcb,dY,hin,hb⟩:=hrel;have kQ:True:=trivial
  cases a with
  |nil=>
   cases b with
   |nil=>
    have hcan:=hin.can;have heq:∀j,gv r j=op (gv A j) (gv B j):=fun j=>by have:=hin.eq j;rw[show gv [] j=0 from rfl,h00,Rat.add_zero]at this;exact this
    have H:=ah (show EO wr w.heap.size u7 r M/\Can n r/\(∀j,gv r j=op (gv A j) (gv B j))/\Below w.heap.size w wr from⟨dY,hcan,heq,hb⟩);clear hla hlb dY hin hb hcan heq hop hca hcb;go_wp2_with fail
    go_ret;exact⟨u7,r,rfl,H.out⟩
   |cons q b=>
    obtain⟨kb,ob,rfl,iK,uL⟩:=(hlb.below hb) (by simp);obtain⟨b0,bX,bY,bZ,b1,b2,b3,hbr⟩:=uL 0 q rfl;rw[Nat.zero_mul,Nat.add_zero]at b0 b1 b2 b3;have qu:iO n [] (q::b) q.1 0 q.2 [] b:=(iO.left (n:=n) hin.jF.2 hin.jF.1 (fun _ h=>by simp at h)).symm;obtain⟨ib,Gi⟩:=xeq q.1;obtain⟨rb,LN⟩:=xeq q.2;rw[Gi]at b0 qu;rw[LN]at hbr qu;obtain⟨lb,Gj,flb⟩:∃l,(q::b).length=l/\l=b.length+1:=⟨_,rfl,rfl⟩;rw[Gj]at hcb⊢;have UM:(0:Int)< (lb:Int):=by omega
    have DW:0<lb:=by omega
    have DX:¬lb=0:=by omega
    have DY:¬(lb:Int)=0:=by omega
    have DZ:((lb:Int)==0)=false:=by rw[beq_eq_false_iff_ne];omega
    have ze:=ah flb;have wG:=hlb.tail;have qv:=hin;clear hin uL flb Gi LN Gj;have hin:=qv;clear qv;go_upto_region 5 with fail
    obtain⟨W4,sw,ba,bx,dX⟩:∃W4,(wr.alloc (.cells #[.bool false, .slice none 0 0, .slice none 0 0] 45)).alloc (.cells #[.bool false, .slice none 0 0, .slice none 0 0] 45)=W4/\Below wr.heap.size wr W4/\cK W4 wr.heap.size (.bool false) (.slice none 0 0) (.slice none 0 0)/\cK W4 (wr.heap.size+1) (.bool false) (.slice none 0 0) (.slice none 0 0):=⟨_,rfl,((aq _ _).alloc (aj _) _).alloc (by simp) _,by refine⟨?_,?_,?_,?_,?_,?_⟩<;>go_simp,by refine⟨?_,?_,?_,?_,?_,?_⟩<;>go_simp⟩;rw[sw];obtain⟨Nx,oI⟩:=xeq wr.heap.size;rw[oI]at bx dX iK;have kX:=ba;have QW:=ba.size;rw[oI]at kX QW
    try rw[oI]
    have hvl:∀k,u7.ownBlock=some k->k<Nx:=fun k hk=>by rw[<-oI];exact(dY.blk k hk).2
    have hNx:w.heap.size<=Nx:=by rw[<-oI];exact hb.size
    replace b0:=(kX.cell (p:=⟨kb,_,none⟩) iK).trans b0;replace b1:=(kX.cell (p:=⟨kb,_,none⟩) iK).trans b1;replace b2:=(kX.cell (p:=⟨kb,_,none⟩) iK).trans b2;replace b3:=(kX.cell (p:=⟨kb,_,none⟩) iK).trans b3;replace hbr:=hbr.keep ba;replace dY:=dY.below ba;replace hb:=hb.trans (ba.mono hb.size);clear ba kX sw oI
    go_quiet (fail)
    rename_i nq
    have bD:=ZJ W4 nq;replace b0:=(bD.cell (p:=⟨kb,_,none⟩) (show kb<_ by omega)).trans b0;replace b1:=(bD.cell (p:=⟨kb,_,none⟩) (show kb<_ by omega)).trans b1;replace b2:=(bD.cell (p:=⟨kb,_,none⟩) (show kb<_ by omega)).trans b2;replace b3:=(bD.cell (p:=⟨kb,_,none⟩) (show kb<_ by omega)).trans b3;replace hbr:=hbr.keep bD;replace dY:=dY.below bD;replace hb:=hb.trans (bD.mono hb.size);replace bx:=bx.keep bD;replace dX:=dX.keep bD;clear bD;generalize W4.drewN nq=W5 at*;have sz5:=dX.lt;obtain⟨q0,q1,q2⟩:=hbr.st;go_upto_region 11 with fail
    go_still_tail 9,(by kernel_rfl)
    change wpList _ _ _ _ _ W5.drew
    have bD:Below W5.heap.size W5 W5.drew:=(aq _ _).drew;replace b0:=(bD.cell (p:=⟨kb,_,none⟩) (show kb<_ by omega)).trans b0;replace b1:=(bD.cell (p:=⟨kb,_,none⟩) (show kb<_ by omega)).trans b1;replace b2:=(bD.cell (p:=⟨kb,_,none⟩) (show kb<_ by omega)).trans b2;replace b3:=(bD.cell (p:=⟨kb,_,none⟩) (show kb<_ by omega)).trans b3;replace hbr:=hbr.keep bD;replace dY:=dY.below bD;replace hb:=hb.trans (bD.mono hb.size);replace bx:=bx.keep bD;replace dX:=dX.keep bD;clear bD;generalize W5.drew=W6 at*;have sz6:=dX.lt;have hnb:u7.ownBlock≠some (Nx+1):=fun e=>by have:=hvl _ e;omega
    obtain⟨wx,hwx,qw,Bo,nX,hb',mr⟩:∃wx,((W6.setCell ⟨Nx+1,0,none⟩ bX).setCell ⟨Nx+1,1,none⟩ bY).setCell ⟨Nx+1,2,none⟩ bZ=wx/\cK wx (Nx+1) bX bY bZ/\cK wx Nx (.bool false) (.slice none 0 0) (.slice none 0 0)/\EO wx w.heap.size u7 r M/\Below w.heap.size w wx/\bG wx bX bY bZ rb K:=⟨_,rfl,dX.put _ _ _,bx.Cq (by omega) _ _ _,dY.gY dX ng hnb _ _ _,dD hb (by omega) _ _ _,hbr.gY dX ng _ _ _⟩;have Bs:=ah hwx;obtain⟨y3,y4,y5,y6,y7,y8⟩:=id dX;clear hwx b0 b1 b2 b3 bx dX dY hb hbr;have dX:=qw;clear qw;have bx:=Bo;clear Bo;have dY:=nX;clear nX;have hb:=hb';clear hb';have hbr:=mr;clear mr;go_upto_region 12 with fail
    rw[Bs.out];clear y3 y4 y5 y6 y7 y8 q0 q1 q2 Bs hnb;go_upto_region 13 with fail
    rw[show lb-1=b.length by rw[ze.out];rfl];have qH:b.length<=c2-1:=by have:=ze.out;omega
    have uM:=wG.UK qH;generalize (if c2=1 then some (⟨kb,ob,none⟩:Addr)else some ⟨kb,ob+4,none⟩)=Dnb at uM⊢;clear hlb wG hcb UM DW DX DY DZ;obtain⟨rx,UN⟩:=xeq (0:Rat);have hx:bG wx (.bool false) (.slice none 0 0) (.slice none 0 0) rx K:=by rw[<-UN];exact bG.zero _ mB
    rw[UN]at qu;clear UN;have hy:=hbr;clear hbr;have kY:=hb;clear hb;have hz:=HS.out rx rb hx.sz hy.sz;have HR:=hop wx (.bool false) (.slice none 0 0) (.slice none 0 0) bX bY bZ rx rb kY hx hy;obtain⟨xc0,QX,QY,_,_,_⟩:=id bx;obtain⟨QZ,Q0,Q5,_,_,_⟩:=id dX;obtain⟨q,eq⟩:=xeq (op rx rb);have qP:=ah qu;have rm:=ah hin;have zh:=ah eq;rw[eq]at HR hz;clear hx hy bx dX qu hin eq;go_upto_region 13 with fail
    go_wp2_with (first|(refine HR.mono ?_))
    rintro e w3 ⟨b3,s3,t3,rfl,o3,g3⟩;have nA:=dY.below g3;have fq:=kY.trans (g3.mono kY.size);have Bt:Av (fun k=>k<wx.heap.size) s3/\Av (fun k=>k<wx.heap.size) t3:=o3.av
    have nK:∀k,k<w.heap.size∨u7.ownBlock=some k->k<wx.heap.size:=fun k hk=>by
     rcases hk with hk|hk
     ·exact ak hk kY.size
     obtain⟨xs,ho,_⟩:=dY;exact(ho.lt k hk).2
    have bo:=bI w3 (.cells #[b3,s3,t3] 45);have i5:=cK.new w3 b3 s3 t3;obtain⟨w4,iG⟩:=xeq (w3.alloc (.cells #[b3,s3,t3] 45));rw[iG]at bo i5;have o4:=(o3.keep bo).is hz;have nh:=nA.below bo;have hb4:=fq.trans (bo.mono fq.size);obtain⟨q0,q1,q2⟩:=o3.st;obtain⟨v0,v1,v2,v3,v4,v5⟩:=id i5;obtain⟨sg,kZ⟩:=xeq (fZ q.num);have ES:=ah kZ;have pU:=ah iG;clear dY nA o3 g3 bo fq kY HR xc0 QX QY QZ Q0 Q5 iG kZ;have zi:=i5;clear i5;go_wp2_with fail
    rw[pU.out];refine(fN o4 hM ES.out).mono ?_;rintro e w5 ⟨rfl,g5⟩;have oQ:=nh.below g5;have gj:=hb4.trans (g5.mono hb4.size);have o5:=o4.keep g5;have i6:=zi.keep g5;obtain⟨v0',v1',Lj,ZQ,Lk,v5'⟩:=id i6
    by_cases jG:q=0
    ·have hs0:sg=0:=by rw[<-ES.out,jG];rfl
     subst hs0;have HM:=ah (rm.out.skip h00 qP.out (by rw[zh.out,jG]));have HL:=ah qP.out.len;clear o5 i6 nh o4 zi v0 v1 v2 v3 v4 v5 hb4 pU;go_wp2_with fail
     go_roundw
     case rel=>exact⟨_,_,_,_,_,_,r,rfl,rfl,hla,uM,hca,qH,oQ,HM.out,gj⟩
     case measure=>have hb:=ze.out;simp[sE];try omega
    ·have hs0:¬sg=0:=by rw[<-ES.out];exact lU jG
     have HP:=rm.out.push h00 qP.out (by rw[zh.out];exact jG);rw[zh.out]at HP;have HM:=ah HP;have HL:=ah qP.out.len;have hrl:r.length<=1048576:=by have:=rm.out.len;have:=XB.out;have:=XC.out;omega
     obtain⟨xs,hown,ld⟩:=oQ;have hxl:=hown.1;have a6:=bI w5 (.cells #[.int .i64 (ib:Int),b3,s3,t3] 92);obtain⟨w6,iB⟩:=xeq (w5.alloc (.cells #[.int .i64 (ib:Int),b3,s3,t3] 92));have h6:w6.heap[w5.heap.size]?=some (.cells #[.int .i64 (ib:Int),b3,s3,t3] 92 (0,0)):=by rw[<-iB];exact aS w5 _
     rw[iB]at a6;have o6:=o5.keep a6;have gJ:=bL hown (bw.of (P:=fun _=>False) a6) (fun _ _ h=>h);have jK:=ld.keep a6;have eC:=gj.trans (a6.mono gj.size);have hone:=o5.qG (ib:Int);obtain⟨c0,c1,c2⟩:=o5.cl;clear o5 i6 nh o4 zi v0 v1 v2 v3 v4 v5 hb4 pU HP hown ld a6 gj;have HJ:=ah hxl;have Bu:=ah Bt;have AK:=ah nK;clear hxl Bt nK;go_upto_region 15 with fail
     go_wp2_with (first
      |(at_builtin;(try rw[iB]);refine pJ rfl (.tmp 89) (.tmp 93) rfl rfl gJ rfl h6 hone hrl eC.size ?_;intro g7 bR w7 ew dR eO kR))
     have iu:w6.grownBy w7 u7.ownBlock:=dR;have jM:u7.ownBlock=some g7∨g7=w6.heap.size:=eO;have rI:=EO.push jK HJ.out o6 (Bu.out.1.mono fun k hk=>AK.out k hk) (Bu.out.2.mono fun k hk=>AK.out k hk) ew iu jM;have fW:=eC.trans ((bw.grown iu).below eC.size (fun k hk e=>by have:=(gJ.lt k e.symm).1;omega));clear dR eO iu jM ew gJ jK h6 iB eC o6 kR;go_wp2_with fail
     go_roundw
     case rel=>exact⟨_,_,_,_,_,_,_,rfl,rfl,hla,uM,hca,qH,rI,HM.out,fW⟩
     case measure=>have hb:=ze.out;simp[sE];try omega
  |cons p a=>
   cases b with
   |nil=>
    obtain⟨ka,oa,rfl,kK,uN⟩:=(hla.below hb) (by simp);obtain⟨a0,aX,aY,aZ,a1,a2,a3,har⟩:=uN 0 p rfl;rw[Nat.zero_mul,Nat.add_zero]at a0 a1 a2 a3;have qu:iO n (p::a) [] p.1 p.2 0 a []:=iO.left hin.jF.1 hin.jF.2 (fun _ h=>by simp at h);obtain⟨ia,Gl⟩:=xeq p.1;obtain⟨ra,era⟩:=xeq p.2;rw[Gl]at a0 qu;rw[era]at har qu;obtain⟨la,kL,fla⟩:∃l,(p::a).length=l/\l=a.length+1:=⟨_,rfl,rfl⟩;rw[kL]at hca⊢;have UO:(0:Int)< (la:Int):=by omega
    have D9:0<la:=by omega
    have Ea:¬la=0:=by omega
    have Eb:¬(la:Int)=0:=by omega
    have Ec:((la:Int)==0)=false:=by rw[beq_eq_false_iff_ne];omega
    have zj:=ah fla;have wH:=hla.tail;have qv:=hin;clear hin uN fla Gl era kL;have hin:=qv;clear qv;go_upto_region 5 with fail
    obtain⟨W4,sw,ba,bx,dX⟩:∃W4,(wr.alloc (.cells #[.bool false, .slice none 0 0, .slice none 0 0] 45)).alloc (.cells #[.bool false, .slice none 0 0, .slice none 0 0] 45)=W4/\Below wr.heap.size wr W4/\cK W4 wr.heap.size (.bool false) (.slice none 0 0) (.slice none 0 0)/\cK W4 (wr.heap.size+1) (.bool false) (.slice none 0 0) (.slice none 0 0):=⟨_,rfl,((aq _ _).alloc (aj _) _).alloc (by simp) _,by refine⟨?_,?_,?_,?_,?_,?_⟩<;>go_simp,by refine⟨?_,?_,?_,?_,?_,?_⟩<;>go_simp⟩;rw[sw];obtain⟨Nx,oI⟩:=xeq wr.heap.size;rw[oI]at bx dX kK;have kX:=ba;have QW:=ba.size;rw[oI]at kX QW
    try rw[oI]
    have hvl:∀k,u7.ownBlock=some k->k<Nx:=fun k hk=>by rw[<-oI];exact(dY.blk k hk).2
    have hNx:w.heap.size<=Nx:=by rw[<-oI];exact hb.size
    replace a0:=(kX.cell (p:=⟨ka,_,none⟩) kK).trans a0;replace a1:=(kX.cell (p:=⟨ka,_,none⟩) kK).trans a1;replace a2:=(kX.cell (p:=⟨ka,_,none⟩) kK).trans a2;replace a3:=(kX.cell (p:=⟨ka,_,none⟩) kK).trans a3;replace har:=har.keep ba;replace dY:=dY.below ba;replace hb:=hb.trans (ba.mono hb.size);clear ba kX sw oI
    go_quiet (fail)
    rename_i nq
    have bD:=ZJ W4 nq;replace a0:=(bD.cell (p:=⟨ka,_,none⟩) (show ka<_ by omega)).trans a0;replace a1:=(bD.cell (p:=⟨ka,_,none⟩) (show ka<_ by omega)).trans a1;replace a2:=(bD.cell (p:=⟨ka,_,none⟩) (show ka<_ by omega)).trans a2;replace a3:=(bD.cell (p:=⟨ka,_,none⟩) (show ka<_ by omega)).trans a3;replace har:=har.keep bD;replace dY:=dY.below bD;replace hb:=hb.trans (bD.mono hb.size);replace bx:=bx.keep bD;replace dX:=dX.keep bD;clear bD;generalize W4.drewN nq=W5 at*;have sz5:=dX.lt;obtain⟨q0,q1,q2⟩:=har.st;go_upto_region 6 with fail
    go_still_tail 9,(by kernel_rfl)
    change wpList _ _ _ _ _ W5.drew
    have bD:Below W5.heap.size W5 W5.drew:=(aq _ _).drew;replace a0:=(bD.cell (p:=⟨ka,_,none⟩) (show ka<_ by omega)).trans a0;replace a1:=(bD.cell (p:=⟨ka,_,none⟩) (show ka<_ by omega)).trans a1;replace a2:=(bD.cell (p:=⟨ka,_,none⟩) (show ka<_ by omega)).trans a2;replace a3:=(bD.cell (p:=⟨ka,_,none⟩) (show ka<_ by omega)).trans a3;replace har:=har.keep bD;replace dY:=dY.below bD;replace hb:=hb.trans (bD.mono hb.size);replace bx:=bx.keep bD;replace dX:=dX.keep bD;clear bD;generalize W5.drew=W6 at*;have sz6:=dX.lt;have hnb:u7.ownBlock≠some (Nx):=fun e=>by have:=hvl _ e;omega
    obtain⟨wx,hwx,Bo,qw,nX,hb',qx⟩:∃wx,((W6.setCell ⟨Nx,0,none⟩ aX).setCell ⟨Nx,1,none⟩ aY).setCell ⟨Nx,2,none⟩ aZ=wx/\cK wx (Nx) aX aY aZ/\cK wx (Nx+1) (.bool false) (.slice none 0 0) (.slice none 0 0)/\EO wx w.heap.size u7 r M/\Below w.heap.size w wx/\bG wx aX aY aZ ra K:=⟨_,rfl,bx.put _ _ _,dX.Cq (by omega) _ _ _,dY.gY bx ng hnb _ _ _,dD hb (by omega) _ _ _,har.gY bx ng _ _ _⟩;have Bs:=ah hwx;obtain⟨y3,y4,y5,y6,y7,y8⟩:=id bx;clear hwx a0 a1 a2 a3 bx dX dY hb har;have bx:=Bo;clear Bo;have dX:=qw;clear qw;have dY:=nX;clear nX;have hb:=hb';clear hb';have har:=qx;clear qx;go_upto_region 7 with fail
    rw[Bs.out];clear y3 y4 y5 y6 y7 y8 q0 q1 q2 Bs hnb;go_upto_region 13 with fail
    rw[show la-1=a.length by rw[zj.out];rfl];have qI:a.length<=c1-1:=by have:=zj.out;omega
    have uO:=wH.UK qI;generalize (if c1=1 then some (⟨ka,oa,none⟩:Addr)else some ⟨ka,oa+4,none⟩)=Dna at uO⊢;clear hla wH hca UO D9 Ea Eb Ec;obtain⟨ry,UQ⟩:=xeq (0:Rat);have hy:bG wx (.bool false) (.slice none 0 0) (.slice none 0 0) ry K:=by rw[<-UQ];exact bG.zero _ mB
    rw[UQ]at qu;clear UQ;have hx:=har;clear har;have kY:=hb;clear hb;have hz:=HS.out ra ry hx.sz hy.sz;have HR:=hop wx aX aY aZ (.bool false) (.slice none 0 0) (.slice none 0 0) ra ry kY hx hy;obtain⟨xc0,QX,QY,_,_,_⟩:=id bx;obtain⟨QZ,Q0,Q5,_,_,_⟩:=id dX;obtain⟨q,eq⟩:=xeq (op ra ry);have qP:=ah qu;have rm:=ah hin;have zh:=ah eq;rw[eq]at HR hz;clear hx hy bx dX qu hin eq;go_upto_region 13 with fail
    go_wp2_with (first|(refine HR.mono ?_))
    rintro e w3 ⟨b3,s3,t3,rfl,o3,g3⟩;have nA:=dY.below g3;have fq:=kY.trans (g3.mono kY.size);have Bt:Av (fun k=>k<wx.heap.size) s3/\Av (fun k=>k<wx.heap.size) t3:=o3.av
    have nK:∀k,k<w.heap.size∨u7.ownBlock=some k->k<wx.heap.size:=fun k hk=>by
     rcases hk with hk|hk
     ·exact ak hk kY.size
     obtain⟨xs,ho,_⟩:=dY;exact(ho.lt k hk).2
    have bo:=bI w3 (.cells #[b3,s3,t3] 45);have i5:=cK.new w3 b3 s3 t3;obtain⟨w4,iG⟩:=xeq (w3.alloc (.cells #[b3,s3,t3] 45));rw[iG]at bo i5;have o4:=(o3.keep bo).is hz;have nh:=nA.below bo;have hb4:=fq.trans (bo.mono fq.size);obtain⟨q0,q1,q2⟩:=o3.st;obtain⟨v0,v1,v2,v3,v4,v5⟩:=id i5;obtain⟨sg,kZ⟩:=xeq (fZ q.num);have ES:=ah kZ;have pU:=ah iG;clear dY nA o3 g3 bo fq kY HR xc0 QX QY QZ Q0 Q5 iG kZ;have zi:=i5;clear i5;go_wp2_with fail
    rw[pU.out];refine(fN o4 hM ES.out).mono ?_;rintro e w5 ⟨rfl,g5⟩;have oQ:=nh.below g5;have gj:=hb4.trans (g5.mono hb4.size);have o5:=o4.keep g5;have i6:=zi.keep g5;obtain⟨v0',v1',Lj,ZQ,Lk,v5'⟩:=id i6
    by_cases jG:q=0
    ·have hs0:sg=0:=by rw[<-ES.out,jG];rfl
     subst hs0;have HM:=ah (rm.out.skip h00 qP.out (by rw[zh.out,jG]));have HL:=ah qP.out.len;clear o5 i6 nh o4 zi v0 v1 v2 v3 v4 v5 hb4 pU;go_wp2_with fail
     go_roundw
     case rel=>exact⟨_,_,_,_,_,_,r,rfl,rfl,uO,hlb,qI,hcb,oQ,HM.out,gj⟩
     case measure=>have ha:=zj.out;simp[sE];try omega
    ·have hs0:¬sg=0:=by rw[<-ES.out];exact lU jG
     have HP:=rm.out.push h00 qP.out (by rw[zh.out];exact jG);rw[zh.out]at HP;have HM:=ah HP;have HL:=ah qP.out.len;have hrl:r.length<=1048576:=by have:=rm.out.len;have:=XB.out;have:=XC.out;omega
     obtain⟨xs,hown,ld⟩:=oQ;have hxl:=hown.1;have a6:=bI w5 (.cells #[.int .i64 (ia:Int),b3,s3,t3] 92);obtain⟨w6,iB⟩:=xeq (w5.alloc (.cells #[.int .i64 (ia:Int),b3,s3,t3] 92));have h6:w6.heap[w5.heap.size]?=some (.cells #[.int .i64 (ia:Int),b3,s3,t3] 92 (0,0)):=by rw[<-iB];exact aS w5 _
     rw[iB]at a6;have o6:=o5.keep a6;have gJ:=bL hown (bw.of (P:=fun _=>False) a6) (fun _ _ h=>h);have jK:=ld.keep a6;have eC:=gj.trans (a6.mono gj.size);have hone:=o5.qG (ia:Int);obtain⟨c0,c1,c2⟩:=o5.cl;clear o5 i6 nh o4 zi v0 v1 v2 v3 v4 v5 hb4 pU HP hown ld a6 gj;have HJ:=ah hxl;have Bu:=ah Bt;have AK:=ah nK;clear hxl Bt nK;go_upto_region 15 with fail
     go_wp2_with (first
      |(at_builtin;(try rw[iB]);refine pJ rfl (.tmp 89) (.tmp 93) rfl rfl gJ rfl h6 hone hrl eC.size ?_;intro g7 bR w7 ew dR eO kR))
     have iu:w6.grownBy w7 u7.ownBlock:=dR;have jM:u7.ownBlock=some g7∨g7=w6.heap.size:=eO;have rI:=EO.push jK HJ.out o6 (Bu.out.1.mono fun k hk=>AK.out k hk) (Bu.out.2.mono fun k hk=>AK.out k hk) ew iu jM;have fW:=eC.trans ((bw.grown iu).below eC.size (fun k hk e=>by have:=(gJ.lt k e.symm).1;omega));clear dR eO iu jM ew gJ jK h6 iB eC o6 kR;go_wp2_with fail
     go_roundw
     case rel=>exact⟨_,_,_,_,_,_,_,rfl,rfl,uO,hlb,qI,hcb,rI,HM.out,fW⟩
     case measure=>have ha:=zj.out;simp[sE];try omega
   |cons q b=>
    rcases Nat.lt_trichotomy p.1 q.1 with hpq|hpq|hpq
    ·obtain⟨ka,oa,rfl,kK,uN⟩:=(hla.below hb) (by simp);obtain⟨a0,aX,aY,aZ,a1,a2,a3,har⟩:=uN 0 p rfl;rw[Nat.zero_mul,Nat.add_zero]at a0 a1 a2 a3;obtain⟨kb,ob,rfl,iK,uL⟩:=(hlb.below hb) (by simp);obtain⟨b0,bX,bY,bZ,b1,b2,b3,hbr⟩:=uL 0 q rfl;rw[Nat.zero_mul,Nat.add_zero]at b0 b1 b2 b3
     have qu:iO n (p::a) (q::b) p.1 p.2 0 a (q::b):=iO.left hin.jF.1 hin.jF.2 (fun x hx=>by
      rcases List.mem_cons.1 hx with rfl|hx
      ·exact hpq
      ·have:=hin.jF.2.tail.2 x hx;omega)
     obtain⟨ia,Gl⟩:=xeq p.1;obtain⟨ra,era⟩:=xeq p.2;rw[Gl]at a0 qu;rw[era]at har qu;obtain⟨ib,Gi⟩:=xeq q.1;obtain⟨rb,LN⟩:=xeq q.2;rw[Gi]at b0;rw[LN]at hbr;rw[Gl,Gi]at hpq;have hle:(ia:Int)<=(ib:Int):=by omega
     have hne:¬(ib:Int)=(ia:Int):=by omega
     have hbe:((ib:Int)==(ia:Int))=false:=by rw[beq_eq_false_iff_ne];omega
     obtain⟨la,kL,fla⟩:∃l,(p::a).length=l/\l=a.length+1:=⟨_,rfl,rfl⟩;rw[kL]at hca⊢;have UO:(0:Int)< (la:Int):=by omega
     have D9:0<la:=by omega
     have Ea:¬la=0:=by omega
     have Eb:¬(la:Int)=0:=by omega
     have Ec:((la:Int)==0)=false:=by rw[beq_eq_false_iff_ne];omega
     have zj:=ah fla;have wH:=hla.tail;obtain⟨lb,Gj,flb⟩:∃l,(q::b).length=l/\l=b.length+1:=⟨_,rfl,rfl⟩;rw[Gj]at hcb⊢;have UM:(0:Int)< (lb:Int):=by omega
     have DW:0<lb:=by omega
     have DX:¬lb=0:=by omega
     have DY:¬(lb:Int)=0:=by omega
     have DZ:((lb:Int)==0)=false:=by rw[beq_eq_false_iff_ne];omega
     have ze:=ah flb;have wG:=hlb.tail;have qv:=hin;clear hin uN fla uL flb Gl era Gi LN kL Gj hpq;have hin:=qv;clear qv;go_upto_region 5 with fail
     obtain⟨W4,sw,ba,bx,dX⟩:∃W4,(wr.alloc (.cells #[.bool false, .slice none 0 0, .slice none 0 0] 45)).alloc (.cells #[.bool false, .slice none 0 0, .slice none 0 0] 45)=W4/\Below wr.heap.size wr W4/\cK W4 wr.heap.size (.bool false) (.slice none 0 0) (.slice none 0 0)/\cK W4 (wr.heap.size+1) (.bool false) (.slice none 0 0) (.slice none 0 0):=⟨_,rfl,((aq _ _).alloc (aj _) _).alloc (by simp) _,by refine⟨?_,?_,?_,?_,?_,?_⟩<;>go_simp,by refine⟨?_,?_,?_,?_,?_,?_⟩<;>go_simp⟩;rw[sw];obtain⟨Nx,oI⟩:=xeq wr.heap.size;rw[oI]at bx dX kK iK;have kX:=ba;have QW:=ba.size;rw[oI]at kX QW
     try rw[oI]
     have hvl:∀k,u7.ownBlock=some k->k<Nx:=fun k hk=>by rw[<-oI];exact(dY.blk k hk).2
     have hNx:w.heap.size<=Nx:=by rw[<-oI];exact hb.size
     replace a0:=(kX.cell (p:=⟨ka,_,none⟩) kK).trans a0;replace a1:=(kX.cell (p:=⟨ka,_,none⟩) kK).trans a1;replace a2:=(kX.cell (p:=⟨ka,_,none⟩) kK).trans a2;replace a3:=(kX.cell (p:=⟨ka,_,none⟩) kK).trans a3;replace b0:=(kX.cell (p:=⟨kb,_,none⟩) iK).trans b0;replace b1:=(kX.cell (p:=⟨kb,_,none⟩) iK).trans b1;replace b2:=(kX.cell (p:=⟨kb,_,none⟩) iK).trans b2;replace b3:=(kX.cell (p:=⟨kb,_,none⟩) iK).trans b3;replace har:=har.keep ba;replace hbr:=hbr.keep ba;replace dY:=dY.below ba;replace hb:=hb.trans (ba.mono hb.size);clear ba kX sw oI
     go_quiet (fail)
     rename_i nq
     have bD:=ZJ W4 nq;replace a0:=(bD.cell (p:=⟨ka,_,none⟩) (show ka<_ by omega)).trans a0;replace a1:=(bD.cell (p:=⟨ka,_,none⟩) (show ka<_ by omega)).trans a1;replace a2:=(bD.cell (p:=⟨ka,_,none⟩) (show ka<_ by omega)).trans a2;replace a3:=(bD.cell (p:=⟨ka,_,none⟩) (show ka<_ by omega)).trans a3;replace b0:=(bD.cell (p:=⟨kb,_,none⟩) (show kb<_ by omega)).trans b0;replace b1:=(bD.cell (p:=⟨kb,_,none⟩) (show kb<_ by omega)).trans b1;replace b2:=(bD.cell (p:=⟨kb,_,none⟩) (show kb<_ by omega)).trans b2;replace b3:=(bD.cell (p:=⟨kb,_,none⟩) (show kb<_ by omega)).trans b3;replace har:=har.keep bD;replace hbr:=hbr.keep bD;replace dY:=dY.below bD;replace hb:=hb.trans (bD.mono hb.size);replace bx:=bx.keep bD;replace dX:=dX.keep bD;clear bD;generalize W4.drewN nq=W5 at*;have sz5:=dX.lt;obtain⟨q0,q1,q2⟩:=har.st;go_upto_region 6 with fail
     go_still_tail 9,(by kernel_rfl)
     change wpList _ _ _ _ _ W5.drew
     have bD:Below W5.heap.size W5 W5.drew:=(aq _ _).drew;replace a0:=(bD.cell (p:=⟨ka,_,none⟩) (show ka<_ by omega)).trans a0;replace a1:=(bD.cell (p:=⟨ka,_,none⟩) (show ka<_ by omega)).trans a1;replace a2:=(bD.cell (p:=⟨ka,_,none⟩) (show ka<_ by omega)).trans a2;replace a3:=(bD.cell (p:=⟨ka,_,none⟩) (show ka<_ by omega)).trans a3;replace b0:=(bD.cell (p:=⟨kb,_,none⟩) (show kb<_ by omega)).trans b0;replace b1:=(bD.cell (p:=⟨kb,_,none⟩) (show kb<_ by omega)).trans b1;replace b2:=(bD.cell (p:=⟨kb,_,none⟩) (show kb<_ by omega)).trans b2;replace b3:=(bD.cell (p:=⟨kb,_,none⟩) (show kb<_ by omega)).trans b3;replace har:=har.keep bD;replace hbr:=hbr.keep bD;replace dY:=dY.below bD;replace hb:=hb.trans (bD.mono hb.size);replace bx:=bx.keep bD;replace dX:=dX.keep bD;clear bD;generalize W5.drew=W6 at*;have sz6:=dX.lt;have hnb:u7.ownBlock≠some (Nx):=fun e=>by have:=hvl _ e;omega
     have bS:Below Nx W6 (((W6.setCell ⟨Nx,0,none⟩ aX).setCell ⟨Nx,1,none⟩ aY).setCell ⟨Nx,2,none⟩ aZ):=dD (aq _ _) (aj _) _ _ _;obtain⟨wx,hwx,Bo,qw,nX,hb',qx,mr,ZR,Ou,ZS,ZT⟩:∃wx,((W6.setCell ⟨Nx,0,none⟩ aX).setCell ⟨Nx,1,none⟩ aY).setCell ⟨Nx,2,none⟩ aZ=wx/\cK wx (Nx) aX aY aZ/\cK wx (Nx+1) (.bool false) (.slice none 0 0) (.slice none 0 0)/\EO wx w.heap.size u7 r M/\Below w.heap.size w wx/\bG wx aX aY aZ ra K/\bG wx bX bY bZ rb K/\wx.cell? ⟨kb,ob,none⟩=some (.int .i64 (ib:Int))/\wx.cell? ⟨kb,ob+1,none⟩=some bX/\wx.cell? ⟨kb,ob+2,none⟩=some bY/\wx.cell? ⟨kb,ob+3,none⟩=some bZ:=⟨_,rfl,bx.put _ _ _,dX.Cq (by omega) _ _ _,dY.gY bx ng hnb _ _ _,dD hb (by omega) _ _ _,har.gY bx ng _ _ _,hbr.gY bx ng _ _ _,(bS.cell (p:=⟨kb,_,none⟩) iK).trans b0,(bS.cell (p:=⟨kb,_,none⟩) iK).trans b1,(bS.cell (p:=⟨kb,_,none⟩) iK).trans b2,(bS.cell (p:=⟨kb,_,none⟩) iK).trans b3⟩;have Bs:=ah hwx;obtain⟨y3,y4,y5,y6,y7,y8⟩:=id bx;clear hwx a0 a1 a2 a3 b0 b1 b2 b3 bx dX dY hb har hbr bS;have bx:=Bo;clear Bo;have dX:=qw;clear qw;have dY:=nX;clear nX;have hb:=hb';clear hb';have har:=qx;clear qx;have hbr:=mr;clear mr;have b0:=ZR;clear ZR;have b1:=Ou;clear Ou;have b2:=ZS;clear ZS;have b3:=ZT;clear ZT;go_upto_region 7 with fail
     rw[Bs.out];clear y3 y4 y5 y6 y7 y8 q0 q1 q2 Bs hnb;go_upto_region 13 with fail
     clear b0 b1 b2 b3;rw[show la-1=a.length by rw[zj.out];rfl];have qI:a.length<=c1-1:=by have:=zj.out;omega
     have uO:=wH.UK qI;generalize (if c1=1 then some (⟨ka,oa,none⟩:Addr)else some ⟨ka,oa+4,none⟩)=Dna at uO⊢;clear hla wH hca UO D9 Ea Eb Ec;rw[show lb=(q::b).length by rw[ze.out];rfl];have qH:(q::b).length<=c2:=by rw[show(q::b).length=b.length+1 from rfl,<-ze.out];exact hcb
     clear wG hcb UM DW DX DY DZ;obtain⟨ry,UQ⟩:=xeq (0:Rat);have hy:bG wx (.bool false) (.slice none 0 0) (.slice none 0 0) ry K:=by rw[<-UQ];exact bG.zero _ mB
     rw[UQ]at qu;clear UQ;have hx:=har;clear har;clear hbr hle hne hbe;have kY:=hb;clear hb;have hz:=HS.out ra ry hx.sz hy.sz;have HR:=hop wx aX aY aZ (.bool false) (.slice none 0 0) (.slice none 0 0) ra ry kY hx hy;obtain⟨xc0,QX,QY,_,_,_⟩:=id bx;obtain⟨QZ,Q0,Q5,_,_,_⟩:=id dX;obtain⟨q,eq⟩:=xeq (op ra ry);have qP:=ah qu;have rm:=ah hin;have zh:=ah eq;rw[eq]at HR hz;clear hx hy bx dX qu hin eq;go_upto_region 13 with fail
     go_wp2_with (first|(refine HR.mono ?_))
     rintro e w3 ⟨b3,s3,t3,rfl,o3,g3⟩;have nA:=dY.below g3;have fq:=kY.trans (g3.mono kY.size);have Bt:Av (fun k=>k<wx.heap.size) s3/\Av (fun k=>k<wx.heap.size) t3:=o3.av
     have nK:∀k,k<w.heap.size∨u7.ownBlock=some k->k<wx.heap.size:=fun k hk=>by
      rcases hk with hk|hk
      ·exact ak hk kY.size
      obtain⟨xs,ho,_⟩:=dY;exact(ho.lt k hk).2
     have bo:=bI w3 (.cells #[b3,s3,t3] 45);have i5:=cK.new w3 b3 s3 t3;obtain⟨w4,iG⟩:=xeq (w3.alloc (.cells #[b3,s3,t3] 45));rw[iG]at bo i5;have o4:=(o3.keep bo).is hz;have nh:=nA.below bo;have hb4:=fq.trans (bo.mono fq.size);obtain⟨q0,q1,q2⟩:=o3.st;obtain⟨v0,v1,v2,v3,v4,v5⟩:=id i5;obtain⟨sg,kZ⟩:=xeq (fZ q.num);have ES:=ah kZ;have pU:=ah iG;clear dY nA o3 g3 bo fq kY HR xc0 QX QY QZ Q0 Q5 iG kZ;have zi:=i5;clear i5;go_wp2_with fail
     rw[pU.out];refine(fN o4 hM ES.out).mono ?_;rintro e w5 ⟨rfl,g5⟩;have oQ:=nh.below g5;have gj:=hb4.trans (g5.mono hb4.size);have o5:=o4.keep g5;have i6:=zi.keep g5;obtain⟨v0',v1',Lj,ZQ,Lk,v5'⟩:=id i6
     by_cases jG:q=0
     ·have hs0:sg=0:=by rw[<-ES.out,jG];rfl
      subst hs0;have HM:=ah (rm.out.skip h00 qP.out (by rw[zh.out,jG]));have HL:=ah qP.out.len;clear o5 i6 nh o4 zi v0 v1 v2 v3 v4 v5 hb4 pU;go_wp2_with fail
      go_roundw
      case rel=>exact⟨_,_,_,_,_,_,r,rfl,rfl,uO,hlb,qI,qH,oQ,HM.out,gj⟩
      case measure=>have ha:=zj.out;have hb:=ze.out;simp[sE];try omega
     ·have hs0:¬sg=0:=by rw[<-ES.out];exact lU jG
      have HP:=rm.out.push h00 qP.out (by rw[zh.out];exact jG);rw[zh.out]at HP;have HM:=ah HP;have HL:=ah qP.out.len;have hrl:r.length<=1048576:=by have:=rm.out.len;have:=XB.out;have:=XC.out;omega
      obtain⟨xs,hown,ld⟩:=oQ;have hxl:=hown.1;have a6:=bI w5 (.cells #[.int .i64 (ia:Int),b3,s3,t3] 92);obtain⟨w6,iB⟩:=xeq (w5.alloc (.cells #[.int .i64 (ia:Int),b3,s3,t3] 92));have h6:w6.heap[w5.heap.size]?=some (.cells #[.int .i64 (ia:Int),b3,s3,t3] 92 (0,0)):=by rw[<-iB];exact aS w5 _
      rw[iB]at a6;have o6:=o5.keep a6;have gJ:=bL hown (bw.of (P:=fun _=>False) a6) (fun _ _ h=>h);have jK:=ld.keep a6;have eC:=gj.trans (a6.mono gj.size);have hone:=o5.qG (ia:Int);obtain⟨c0,c1,c2⟩:=o5.cl;clear o5 i6 nh o4 zi v0 v1 v2 v3 v4 v5 hb4 pU HP hown ld a6 gj;have HJ:=ah hxl;have Bu:=ah Bt;have AK:=ah nK;clear hxl Bt nK;go_upto_region 15 with fail
      go_wp2_with (first
       |(at_builtin;(try rw[iB]);refine pJ rfl (.tmp 89) (.tmp 93) rfl rfl gJ rfl h6 hone hrl eC.size ?_;intro g7 bR w7 ew dR eO kR))
      have iu:w6.grownBy w7 u7.ownBlock:=dR;have jM:u7.ownBlock=some g7∨g7=w6.heap.size:=eO;have rI:=EO.push jK HJ.out o6 (Bu.out.1.mono fun k hk=>AK.out k hk) (Bu.out.2.mono fun k hk=>AK.out k hk) ew iu jM;have fW:=eC.trans ((bw.grown iu).below eC.size (fun k hk e=>by have:=(gJ.lt k e.symm).1;omega));clear dR eO iu jM ew gJ jK h6 iB eC o6 kR;go_wp2_with fail
      go_roundw
      case rel=>exact⟨_,_,_,_,_,_,_,rfl,rfl,uO,hlb,qI,qH,rI,HM.out,fW⟩
      case measure=>have ha:=zj.out;have hb:=ze.out;simp[sE];try omega
    ·replace hpq:=hpq.symm;obtain⟨ka,oa,rfl,kK,uN⟩:=(hla.below hb) (by simp);obtain⟨a0,aX,aY,aZ,a1,a2,a3,har⟩:=uN 0 p rfl;rw[Nat.zero_mul,Nat.add_zero]at a0 a1 a2 a3;obtain⟨kb,ob,rfl,iK,uL⟩:=(hlb.below hb) (by simp);obtain⟨b0,bX,bY,bZ,b1,b2,b3,hbr⟩:=uL 0 q rfl;rw[Nat.zero_mul,Nat.add_zero]at b0 b1 b2 b3;have qu:iO n (p::a) (q::b) p.1 p.2 q.2 a b:=iO.both hin.jF.1 hin.jF.2 hpq;obtain⟨ia,Gl⟩:=xeq p.1;obtain⟨ra,era⟩:=xeq p.2;rw[Gl]at a0 qu;rw[era]at har qu;obtain⟨ib,Gi⟩:=xeq q.1;obtain⟨rb,LN⟩:=xeq q.2;rw[Gi]at b0;rw[LN]at hbr qu;rw[Gl,Gi]at hpq;subst hpq;have hle:(ib:Int)<=(ib:Int):=Int.le_refl _;obtain⟨la,kL,fla⟩:∃l,(p::a).length=l/\l=a.length+1:=⟨_,rfl,rfl⟩;rw[kL]at hca⊢;have UO:(0:Int)< (la:Int):=by omega
     have D9:0<la:=by omega
     have Ea:¬la=0:=by omega
     have Eb:¬(la:Int)=0:=by omega
     have Ec:((la:Int)==0)=false:=by rw[beq_eq_false_iff_ne];omega
     have zj:=ah fla;have wH:=hla.tail;obtain⟨lb,Gj,flb⟩:∃l,(q::b).length=l/\l=b.length+1:=⟨_,rfl,rfl⟩;rw[Gj]at hcb⊢;have UM:(0:Int)< (lb:Int):=by omega
     have DW:0<lb:=by omega
     have DX:¬lb=0:=by omega
     have DY:¬(lb:Int)=0:=by omega
     have DZ:((lb:Int)==0)=false:=by rw[beq_eq_false_iff_ne];omega
     have ze:=ah flb;have wG:=hlb.tail;have qv:=hin;clear hin uN fla uL flb Gl era Gi LN kL Gj;have hin:=qv;clear qv;go_upto_region 5 with fail
     obtain⟨W4,sw,ba,bx,dX⟩:∃W4,(wr.alloc (.cells #[.bool false, .slice none 0 0, .slice none 0 0] 45)).alloc (.cells #[.bool false, .slice none 0 0, .slice none 0 0] 45)=W4/\Below wr.heap.size wr W4/\cK W4 wr.heap.size (.bool false) (.slice none 0 0) (.slice none 0 0)/\cK W4 (wr.heap.size+1) (.bool false) (.slice none 0 0) (.slice none 0 0):=⟨_,rfl,((aq _ _).alloc (aj _) _).alloc (by simp) _,by refine⟨?_,?_,?_,?_,?_,?_⟩<;>go_simp,by refine⟨?_,?_,?_,?_,?_,?_⟩<;>go_simp⟩;rw[sw];obtain⟨Nx,oI⟩:=xeq wr.heap.size;rw[oI]at bx dX kK iK;have kX:=ba;have QW:=ba.size;rw[oI]at kX QW
     try rw[oI]
     have hvl:∀k,u7.ownBlock=some k->k<Nx:=fun k hk=>by rw[<-oI];exact(dY.blk k hk).2
     have hNx:w.heap.size<=Nx:=by rw[<-oI];exact hb.size
     replace a0:=(kX.cell (p:=⟨ka,_,none⟩) kK).trans a0;replace a1:=(kX.cell (p:=⟨ka,_,none⟩) kK).trans a1;replace a2:=(kX.cell (p:=⟨ka,_,none⟩) kK).trans a2;replace a3:=(kX.cell (p:=⟨ka,_,none⟩) kK).trans a3;replace b0:=(kX.cell (p:=⟨kb,_,none⟩) iK).trans b0;replace b1:=(kX.cell (p:=⟨kb,_,none⟩) iK).trans b1;replace b2:=(kX.cell (p:=⟨kb,_,none⟩) iK).trans b2;replace b3:=(kX.cell (p:=⟨kb,_,none⟩) iK).trans b3;replace har:=har.keep ba;replace hbr:=hbr.keep ba;replace dY:=dY.below ba;replace hb:=hb.trans (ba.mono hb.size);clear ba kX sw oI
     go_quiet (fail)
     rename_i nq
     have bD:=ZJ W4 nq;replace a0:=(bD.cell (p:=⟨ka,_,none⟩) (show ka<_ by omega)).trans a0;replace a1:=(bD.cell (p:=⟨ka,_,none⟩) (show ka<_ by omega)).trans a1;replace a2:=(bD.cell (p:=⟨ka,_,none⟩) (show ka<_ by omega)).trans a2;replace a3:=(bD.cell (p:=⟨ka,_,none⟩) (show ka<_ by omega)).trans a3;replace b0:=(bD.cell (p:=⟨kb,_,none⟩) (show kb<_ by omega)).trans b0;replace b1:=(bD.cell (p:=⟨kb,_,none⟩) (show kb<_ by omega)).trans b1;replace b2:=(bD.cell (p:=⟨kb,_,none⟩) (show kb<_ by omega)).trans b2;replace b3:=(bD.cell (p:=⟨kb,_,none⟩) (show kb<_ by omega)).trans b3;replace har:=har.keep bD;replace hbr:=hbr.keep bD;replace dY:=dY.below bD;replace hb:=hb.trans (bD.mono hb.size);replace bx:=bx.keep bD;replace dX:=dX.keep bD;clear bD;generalize W4.drewN nq=W5 at*;have sz5:=dX.lt;obtain⟨q0,q1,q2⟩:=har.st;go_upto_region 6 with fail
     go_still_tail 9,(by kernel_rfl)
     change wpList _ _ _ _ _ W5.drew
     have bD:Below W5.heap.size W5 W5.drew:=(aq _ _).drew;replace a0:=(bD.cell (p:=⟨ka,_,none⟩) (show ka<_ by omega)).trans a0;replace a1:=(bD.cell (p:=⟨ka,_,none⟩) (show ka<_ by omega)).trans a1;replace a2:=(bD.cell (p:=⟨ka,_,none⟩) (show ka<_ by omega)).trans a2;replace a3:=(bD.cell (p:=⟨ka,_,none⟩) (show ka<_ by omega)).trans a3;replace b0:=(bD.cell (p:=⟨kb,_,none⟩) (show kb<_ by omega)).trans b0;replace b1:=(bD.cell (p:=⟨kb,_,none⟩) (show kb<_ by omega)).trans b1;replace b2:=(bD.cell (p:=⟨kb,_,none⟩) (show kb<_ by omega)).trans b2;replace b3:=(bD.cell (p:=⟨kb,_,none⟩) (show kb<_ by omega)).trans b3;replace har:=har.keep bD;replace hbr:=hbr.keep bD;replace dY:=dY.below bD;replace hb:=hb.trans (bD.mono hb.size);replace bx:=bx.keep bD;replace dX:=dX.keep bD;clear bD;generalize W5.drew=W6 at*;have sz6:=dX.lt;have hnb:u7.ownBlock≠some (Nx):=fun e=>by have:=hvl _ e;omega
     have bS:Below Nx W6 (((W6.setCell ⟨Nx,0,none⟩ aX).setCell ⟨Nx,1,none⟩ aY).setCell ⟨Nx,2,none⟩ aZ):=dD (aq _ _) (aj _) _ _ _;obtain⟨wx,hwx,Bo,qw,nX,hb',qx,mr,ZR,Ou,ZS,ZT⟩:∃wx,((W6.setCell ⟨Nx,0,none⟩ aX).setCell ⟨Nx,1,none⟩ aY).setCell ⟨Nx,2,none⟩ aZ=wx/\cK wx (Nx) aX aY aZ/\cK wx (Nx+1) (.bool false) (.slice none 0 0) (.slice none 0 0)/\EO wx w.heap.size u7 r M/\Below w.heap.size w wx/\bG wx aX aY aZ ra K/\bG wx bX bY bZ rb K/\wx.cell? ⟨kb,ob,none⟩=some (.int .i64 (ib:Int))/\wx.cell? ⟨kb,ob+1,none⟩=some bX/\wx.cell? ⟨kb,ob+2,none⟩=some bY/\wx.cell? ⟨kb,ob+3,none⟩=some bZ:=⟨_,rfl,bx.put _ _ _,dX.Cq (by omega) _ _ _,dY.gY bx ng hnb _ _ _,dD hb (by omega) _ _ _,har.gY bx ng _ _ _,hbr.gY bx ng _ _ _,(bS.cell (p:=⟨kb,_,none⟩) iK).trans b0,(bS.cell (p:=⟨kb,_,none⟩) iK).trans b1,(bS.cell (p:=⟨kb,_,none⟩) iK).trans b2,(bS.cell (p:=⟨kb,_,none⟩) iK).trans b3⟩;have Bs:=ah hwx;obtain⟨y3,y4,y5,y6,y7,y8⟩:=id bx;clear hwx a0 a1 a2 a3 b0 b1 b2 b3 bx dX dY hb har hbr bS;have bx:=Bo;clear Bo;have dX:=qw;clear qw;have dY:=nX;clear nX;have hb:=hb';clear hb';have har:=qx;clear qx;have hbr:=mr;clear mr;have b0:=ZR;clear ZR;have b1:=Ou;clear Ou;have b2:=ZS;clear ZS;have b3:=ZT;clear ZT;go_upto_region 7 with fail
     rw[Bs.out];clear y3 y4 y5 y6 y7 y8 q0 q1 q2 Bs hnb;obtain⟨q0,q1,q2⟩:=hbr.st;obtain⟨y3,y4,y5,y6,y7,y8⟩:=id dX;have hnb:u7.ownBlock≠some (Nx+1):=fun e=>by have:=hvl _ e;omega
     have sz7:=dX.lt;obtain⟨wy,hwy,by',Bo,nX,hb',qx,mr⟩:∃wy,((wx.setCell ⟨Nx+1,0,none⟩ bX).setCell ⟨Nx+1,1,none⟩ bY).setCell ⟨Nx+1,2,none⟩ bZ=wy/\cK wy (Nx+1) bX bY bZ/\cK wy Nx aX aY aZ/\EO wy w.heap.size u7 r M/\Below w.heap.size w wy/\bG wy aX aY aZ ra K/\bG wy bX bY bZ rb K:=⟨_,rfl,dX.put _ _ _,bx.Cq (by omega) _ _ _,dY.gY dX ng hnb _ _ _,dD hb (by omega) _ _ _,har.gY dX ng _ _ _,hbr.gY dX ng _ _ _⟩;have HWY:=ah hwy;clear hwy bx dX dY hb har hbr;have dX:=by'
     have bx:=Bo;have dY:=nX;have hb:=hb';have har:=qx;have hbr:=mr;clear by' Bo nX hb' qx mr
     go_upto_region 13 with fail
     rw[HWY.out];clear y3 y4 y5 y6 y7 y8 q0 q1 q2 HWY hnb b0 b1 b2 b3;rw[show la-1=a.length by rw[zj.out];rfl];have qI:a.length<=c1-1:=by have:=zj.out;omega
     have uO:=wH.UK qI;generalize (if c1=1 then some (⟨ka,oa,none⟩:Addr)else some ⟨ka,oa+4,none⟩)=Dna at uO⊢;clear hla wH hca UO D9 Ea Eb Ec;rw[show lb-1=b.length by rw[ze.out];rfl];have qH:b.length<=c2-1:=by have:=ze.out;omega
     have uM:=wG.UK qH;generalize (if c2=1 then some (⟨kb,ob,none⟩:Addr)else some ⟨kb,ob+4,none⟩)=Dnb at uM⊢;clear hlb wG hcb UM DW DX DY DZ;have hx:=har;have hy:=hbr;clear har hbr;have kY:=hb;clear hb;have hz:=HS.out ra rb hx.sz hy.sz;have HR:=hop wy aX aY aZ bX bY bZ ra rb kY hx hy;obtain⟨xc0,QX,QY,_,_,_⟩:=id bx;obtain⟨QZ,Q0,Q5,_,_,_⟩:=id dX;obtain⟨q,eq⟩:=xeq (op ra rb);have qP:=ah qu;have rm:=ah hin;have zh:=ah eq;rw[eq]at HR hz;clear hx hy bx dX qu hin eq;go_upto_region 13 with fail
     go_wp2_with (first|(refine HR.mono ?_))
     rintro e w3 ⟨b3,s3,t3,rfl,o3,g3⟩;have nA:=dY.below g3;have fq:=kY.trans (g3.mono kY.size);have Bt:Av (fun k=>k<wy.heap.size) s3/\Av (fun k=>k<wy.heap.size) t3:=o3.av
     have nK:∀k,k<w.heap.size∨u7.ownBlock=some k->k<wy.heap.size:=fun k hk=>by
      rcases hk with hk|hk
      ·exact ak hk kY.size
      obtain⟨xs,ho,_⟩:=dY;exact(ho.lt k hk).2
     have bo:=bI w3 (.cells #[b3,s3,t3] 45);have i5:=cK.new w3 b3 s3 t3;obtain⟨w4,iG⟩:=xeq (w3.alloc (.cells #[b3,s3,t3] 45));rw[iG]at bo i5;have o4:=(o3.keep bo).is hz;have nh:=nA.below bo;have hb4:=fq.trans (bo.mono fq.size);obtain⟨q0,q1,q2⟩:=o3.st;obtain⟨v0,v1,v2,v3,v4,v5⟩:=id i5;obtain⟨sg,kZ⟩:=xeq (fZ q.num);have ES:=ah kZ;have pU:=ah iG;clear dY nA o3 g3 bo fq kY HR xc0 QX QY QZ Q0 Q5 iG kZ;have zi:=i5;clear i5;go_wp2_with fail
     rw[pU.out];refine(fN o4 hM ES.out).mono ?_;rintro e w5 ⟨rfl,g5⟩;have oQ:=nh.below g5;have gj:=hb4.trans (g5.mono hb4.size);have o5:=o4.keep g5;have i6:=zi.keep g5;obtain⟨v0',v1',Lj,ZQ,Lk,v5'⟩:=id i6
     by_cases jG:q=0
     ·have hs0:sg=0:=by rw[<-ES.out,jG];rfl
      subst hs0;have HM:=ah (rm.out.skip h00 qP.out (by rw[zh.out,jG]));have HL:=ah qP.out.len;clear o5 i6 nh o4 zi v0 v1 v2 v3 v4 v5 hb4 pU;go_wp2_with fail
      go_roundw
      case rel=>exact⟨_,_,_,_,_,_,r,rfl,rfl,uO,uM,qI,qH,oQ,HM.out,gj⟩
      case measure=>have ha:=zj.out;have hb:=ze.out;simp[sE];try omega
     ·have hs0:¬sg=0:=by rw[<-ES.out];exact lU jG
      have HP:=rm.out.push h00 qP.out (by rw[zh.out];exact jG);rw[zh.out]at HP;have HM:=ah HP;have HL:=ah qP.out.len;have hrl:r.length<=1048576:=by have:=rm.out.len;have:=XB.out;have:=XC.out;omega
      obtain⟨xs,hown,ld⟩:=oQ;have hxl:=hown.1;have a6:=bI w5 (.cells #[.int .i64 (ib:Int),b3,s3,t3] 92);obtain⟨w6,iB⟩:=xeq (w5.alloc (.cells #[.int .i64 (ib:Int),b3,s3,t3] 92));have h6:w6.heap[w5.heap.size]?=some (.cells #[.int .i64 (ib:Int),b3,s3,t3] 92 (0,0)):=by rw[<-iB];exact aS w5 _
      rw[iB]at a6;have o6:=o5.keep a6;have gJ:=bL hown (bw.of (P:=fun _=>False) a6) (fun _ _ h=>h);have jK:=ld.keep a6;have eC:=gj.trans (a6.mono gj.size);have hone:=o5.qG (ib:Int);obtain⟨c0,c1,c2⟩:=o5.cl;clear o5 i6 nh o4 zi v0 v1 v2 v3 v4 v5 hb4 pU HP hown ld a6 gj;have HJ:=ah hxl;have Bu:=ah Bt;have AK:=ah nK;clear hxl Bt nK;go_upto_region 15 with fail
      go_wp2_with (first
       |(at_builtin;(try rw[iB]);refine pJ rfl (.tmp 89) (.tmp 93) rfl rfl gJ rfl h6 hone hrl eC.size ?_;intro g7 bR w7 ew dR eO kR))
      have iu:w6.grownBy w7 u7.ownBlock:=dR;have jM:u7.ownBlock=some g7∨g7=w6.heap.size:=eO;have rI:=EO.push jK HJ.out o6 (Bu.out.1.mono fun k hk=>AK.out k hk) (Bu.out.2.mono fun k hk=>AK.out k hk) ew iu jM;have fW:=eC.trans ((bw.grown iu).below eC.size (fun k hk e=>by have:=(gJ.lt k e.symm).1;omega));clear dR eO iu jM ew gJ jK h6 iB eC o6 kR;go_wp2_with fail
      go_roundw
      case rel=>exact⟨_,_,_,_,_,_,_,rfl,rfl,uO,uM,qI,qH,rI,HM.out,fW⟩
      case measure=>have ha:=zj.out;have hb:=ze.out;simp[sE];try omega
    ·obtain⟨ka,oa,rfl,kK,uN⟩:=(hla.below hb) (by simp);obtain⟨a0,aX,aY,aZ,a1,a2,a3,har⟩:=uN 0 p rfl;rw[Nat.zero_mul,Nat.add_zero]at a0 a1 a2 a3;obtain⟨kb,ob,rfl,iK,uL⟩:=(hlb.below hb) (by simp);obtain⟨b0,bX,bY,bZ,b1,b2,b3,hbr⟩:=uL 0 q rfl;rw[Nat.zero_mul,Nat.add_zero]at b0 b1 b2 b3
     have qu:iO n (p::a) (q::b) q.1 0 q.2 (p::a) b:=(iO.left (n:=n) hin.jF.2 hin.jF.1 (fun x hx=>by
      rcases List.mem_cons.1 hx with rfl|hx
      ·exact hpq
      ·have:=hin.jF.1.tail.2 x hx;omega)).symm
     obtain⟨ia,Gl⟩:=xeq p.1;obtain⟨ra,era⟩:=xeq p.2;rw[Gl]at a0;rw[era]at har;obtain⟨ib,Gi⟩:=xeq q.1;obtain⟨rb,LN⟩:=xeq q.2;rw[Gi]at b0 qu;rw[LN]at hbr qu;rw[Gl,Gi]at hpq;have hle:¬(ia:Int)<=(ib:Int):=by omega
     have hne:¬(ib:Int)=(ia:Int):=by omega
     have hbe:((ib:Int)==(ia:Int))=false:=by rw[beq_eq_false_iff_ne];omega
     obtain⟨la,kL,fla⟩:∃l,(p::a).length=l/\l=a.length+1:=⟨_,rfl,rfl⟩;rw[kL]at hca⊢;have UO:(0:Int)< (la:Int):=by omega
     have D9:0<la:=by omega
     have Ea:¬la=0:=by omega
     have Eb:¬(la:Int)=0:=by omega
     have Ec:((la:Int)==0)=false:=by rw[beq_eq_false_iff_ne];omega
     have zj:=ah fla;have wH:=hla.tail;obtain⟨lb,Gj,flb⟩:∃l,(q::b).length=l/\l=b.length+1:=⟨_,rfl,rfl⟩;rw[Gj]at hcb⊢;have UM:(0:Int)< (lb:Int):=by omega
     have DW:0<lb:=by omega
     have DX:¬lb=0:=by omega
     have DY:¬(lb:Int)=0:=by omega
     have DZ:((lb:Int)==0)=false:=by rw[beq_eq_false_iff_ne];omega
     have ze:=ah flb;have wG:=hlb.tail;have qv:=hin;clear hin uN fla uL flb Gl era Gi LN kL Gj hpq;have hin:=qv;clear qv;go_upto_region 5 with fail
     obtain⟨W4,sw,ba,bx,dX⟩:∃W4,(wr.alloc (.cells #[.bool false, .slice none 0 0, .slice none 0 0] 45)).alloc (.cells #[.bool false, .slice none 0 0, .slice none 0 0] 45)=W4/\Below wr.heap.size wr W4/\cK W4 wr.heap.size (.bool false) (.slice none 0 0) (.slice none 0 0)/\cK W4 (wr.heap.size+1) (.bool false) (.slice none 0 0) (.slice none 0 0):=⟨_,rfl,((aq _ _).alloc (aj _) _).alloc (by simp) _,by refine⟨?_,?_,?_,?_,?_,?_⟩<;>go_simp,by refine⟨?_,?_,?_,?_,?_,?_⟩<;>go_simp⟩;rw[sw];obtain⟨Nx,oI⟩:=xeq wr.heap.size;rw[oI]at bx dX kK iK;have kX:=ba;have QW:=ba.size;rw[oI]at kX QW
     try rw[oI]
     have hvl:∀k,u7.ownBlock=some k->k<Nx:=fun k hk=>by rw[<-oI];exact(dY.blk k hk).2
     have hNx:w.heap.size<=Nx:=by rw[<-oI];exact hb.size
     replace a0:=(kX.cell (p:=⟨ka,_,none⟩) kK).trans a0;replace a1:=(kX.cell (p:=⟨ka,_,none⟩) kK).trans a1;replace a2:=(kX.cell (p:=⟨ka,_,none⟩) kK).trans a2;replace a3:=(kX.cell (p:=⟨ka,_,none⟩) kK).trans a3;replace b0:=(kX.cell (p:=⟨kb,_,none⟩) iK).trans b0;replace b1:=(kX.cell (p:=⟨kb,_,none⟩) iK).trans b1;replace b2:=(kX.cell (p:=⟨kb,_,none⟩) iK).trans b2;replace b3:=(kX.cell (p:=⟨kb,_,none⟩) iK).trans b3;replace har:=har.keep ba;replace hbr:=hbr.keep ba;replace dY:=dY.below ba;replace hb:=hb.trans (ba.mono hb.size);clear ba kX sw oI
     go_quiet (fail)
     rename_i nq
     have bD:=ZJ W4 nq;replace a0:=(bD.cell (p:=⟨ka,_,none⟩) (show ka<_ by omega)).trans a0;replace a1:=(bD.cell (p:=⟨ka,_,none⟩) (show ka<_ by omega)).trans a1;replace a2:=(bD.cell (p:=⟨ka,_,none⟩) (show ka<_ by omega)).trans a2;replace a3:=(bD.cell (p:=⟨ka,_,none⟩) (show ka<_ by omega)).trans a3;replace b0:=(bD.cell (p:=⟨kb,_,none⟩) (show kb<_ by omega)).trans b0;replace b1:=(bD.cell (p:=⟨kb,_,none⟩) (show kb<_ by omega)).trans b1;replace b2:=(bD.cell (p:=⟨kb,_,none⟩) (show kb<_ by omega)).trans b2;replace b3:=(bD.cell (p:=⟨kb,_,none⟩) (show kb<_ by omega)).trans b3;replace har:=har.keep bD;replace hbr:=hbr.keep bD;replace dY:=dY.below bD;replace hb:=hb.trans (bD.mono hb.size);replace bx:=bx.keep bD;replace dX:=dX.keep bD;clear bD;generalize W4.drewN nq=W5 at*;have sz5:=dX.lt;obtain⟨q0,q1,q2⟩:=hbr.st;go_upto_region 11 with fail
     go_still_tail 9,(by kernel_rfl)
     change wpList _ _ _ _ _ W5.drew
     have bD:Below W5.heap.size W5 W5.drew:=(aq _ _).drew;replace a0:=(bD.cell (p:=⟨ka,_,none⟩) (show ka<_ by omega)).trans a0;replace a1:=(bD.cell (p:=⟨ka,_,none⟩) (show ka<_ by omega)).trans a1;replace a2:=(bD.cell (p:=⟨ka,_,none⟩) (show ka<_ by omega)).trans a2;replace a3:=(bD.cell (p:=⟨ka,_,none⟩) (show ka<_ by omega)).trans a3;replace b0:=(bD.cell (p:=⟨kb,_,none⟩) (show kb<_ by omega)).trans b0;replace b1:=(bD.cell (p:=⟨kb,_,none⟩) (show kb<_ by omega)).trans b1;replace b2:=(bD.cell (p:=⟨kb,_,none⟩) (show kb<_ by omega)).trans b2;replace b3:=(bD.cell (p:=⟨kb,_,none⟩) (show kb<_ by omega)).trans b3;replace har:=har.keep bD;replace hbr:=hbr.keep bD;replace dY:=dY.below bD;replace hb:=hb.trans (bD.mono hb.size);replace bx:=bx.keep bD;replace dX:=dX.keep bD;clear bD;generalize W5.drew=W6 at*;have sz6:=dX.lt;have hnb:u7.ownBlock≠some (Nx+1):=fun e=>by have:=hvl _ e;omega
     obtain⟨wx,hwx,qw,Bo,nX,hb',qx,mr⟩:∃wx,((W6.setCell ⟨Nx+1,0,none⟩ bX).setCell ⟨Nx+1,1,none⟩ bY).setCell ⟨Nx+1,2,none⟩ bZ=wx/\cK wx (Nx+1) bX bY bZ/\cK wx Nx (.bool false) (.slice none 0 0) (.slice none 0 0)/\EO wx w.heap.size u7 r M/\Below w.heap.size w wx/\bG wx aX aY aZ ra K/\bG wx bX bY bZ rb K:=⟨_,rfl,dX.put _ _ _,bx.Cq (by omega) _ _ _,dY.gY dX ng hnb _ _ _,dD hb (by omega) _ _ _,har.gY dX ng _ _ _,hbr.gY dX ng _ _ _⟩;have Bs:=ah hwx;obtain⟨y3,y4,y5,y6,y7,y8⟩:=id dX;clear hwx a0 a1 a2 a3 b0 b1 b2 b3 bx dX dY hb har hbr;have dX:=qw;clear qw;have bx:=Bo;clear Bo;have dY:=nX;clear nX;have hb:=hb';clear hb';have har:=qx;clear qx;have hbr:=mr;clear mr;go_upto_region 12 with fail
     rw[Bs.out];clear y3 y4 y5 y6 y7 y8 q0 q1 q2 Bs hnb;go_upto_region 13 with fail
     rw[show la=(p::a).length by rw[zj.out];rfl];have qI:(p::a).length<=c1:=by rw[show(p::a).length=a.length+1 from rfl,<-zj.out];exact hca
     clear wH hca UO D9 Ea Eb Ec;rw[show lb-1=b.length by rw[ze.out];rfl];have qH:b.length<=c2-1:=by have:=ze.out;omega
     have uM:=wG.UK qH;generalize (if c2=1 then some (⟨kb,ob,none⟩:Addr)else some ⟨kb,ob+4,none⟩)=Dnb at uM⊢;clear hlb wG hcb UM DW DX DY DZ;obtain⟨rx,UN⟩:=xeq (0:Rat);have hx:bG wx (.bool false) (.slice none 0 0) (.slice none 0 0) rx K:=by rw[<-UN];exact bG.zero _ mB
     rw[UN]at qu;clear UN;have hy:=hbr;clear hbr;clear har hle hne hbe;have kY:=hb;clear hb;have hz:=HS.out rx rb hx.sz hy.sz;have HR:=hop wx (.bool false) (.slice none 0 0) (.slice none 0 0) bX bY bZ rx rb kY hx hy;obtain⟨xc0,QX,QY,_,_,_⟩:=id bx;obtain⟨QZ,Q0,Q5,_,_,_⟩:=id dX;obtain⟨q,eq⟩:=xeq (op rx rb);have qP:=ah qu;have rm:=ah hin;have zh:=ah eq;rw[eq]at HR hz;clear hx hy bx dX qu hin eq;go_upto_region 13 with fail
     go_wp2_with (first|(refine HR.mono ?_))
     rintro e w3 ⟨b3,s3,t3,rfl,o3,g3⟩;have nA:=dY.below g3;have fq:=kY.trans (g3.mono kY.size);have Bt:Av (fun k=>k<wx.heap.size) s3/\Av (fun k=>k<wx.heap.size) t3:=o3.av
     have nK:∀k,k<w.heap.size∨u7.ownBlock=some k->k<wx.heap.size:=fun k hk=>by
      rcases hk with hk|hk
      ·exact ak hk kY.size
      obtain⟨xs,ho,_⟩:=dY;exact(ho.lt k hk).2
     have bo:=bI w3 (.cells #[b3,s3,t3] 45);have i5:=cK.new w3 b3 s3 t3;obtain⟨w4,iG⟩:=xeq (w3.alloc (.cells #[b3,s3,t3] 45));rw[iG]at bo i5;have o4:=(o3.keep bo).is hz;have nh:=nA.below bo;have hb4:=fq.trans (bo.mono fq.size);obtain⟨q0,q1,q2⟩:=o3.st;obtain⟨v0,v1,v2,v3,v4,v5⟩:=id i5;obtain⟨sg,kZ⟩:=xeq (fZ q.num);have ES:=ah kZ;have pU:=ah iG;clear dY nA o3 g3 bo fq kY HR xc0 QX QY QZ Q0 Q5 iG kZ;have zi:=i5;clear i5;go_wp2_with fail
     rw[pU.out];refine(fN o4 hM ES.out).mono ?_;rintro e w5 ⟨rfl,g5⟩;have oQ:=nh.below g5;have gj:=hb4.trans (g5.mono hb4.size);have o5:=o4.keep g5;have i6:=zi.keep g5;obtain⟨v0',v1',Lj,ZQ,Lk,v5'⟩:=id i6
     by_cases jG:q=0
     ·have hs0:sg=0:=by rw[<-ES.out,jG];rfl
      subst hs0;have HM:=ah (rm.out.skip h00 qP.out (by rw[zh.out,jG]));have HL:=ah qP.out.len;clear o5 i6 nh o4 zi v0 v1 v2 v3 v4 v5 hb4 pU;go_wp2_with fail
      go_roundw
      case rel=>exact⟨_,_,_,_,_,_,r,rfl,rfl,hla,uM,qI,qH,oQ,HM.out,gj⟩
      case measure=>have ha:=zj.out;have hb:=ze.out;simp[sE];try omega
     ·have hs0:¬sg=0:=by rw[<-ES.out];exact lU jG
      have HP:=rm.out.push h00 qP.out (by rw[zh.out];exact jG);rw[zh.out]at HP;have HM:=ah HP;have HL:=ah qP.out.len;have hrl:r.length<=1048576:=by have:=rm.out.len;have:=XB.out;have:=XC.out;omega
      obtain⟨xs,hown,ld⟩:=oQ;have hxl:=hown.1;have a6:=bI w5 (.cells #[.int .i64 (ib:Int),b3,s3,t3] 92);obtain⟨w6,iB⟩:=xeq (w5.alloc (.cells #[.int .i64 (ib:Int),b3,s3,t3] 92));have h6:w6.heap[w5.heap.size]?=some (.cells #[.int .i64 (ib:Int),b3,s3,t3] 92 (0,0)):=by rw[<-iB];exact aS w5 _
      rw[iB]at a6;have o6:=o5.keep a6;have gJ:=bL hown (bw.of (P:=fun _=>False) a6) (fun _ _ h=>h);have jK:=ld.keep a6;have eC:=gj.trans (a6.mono gj.size);have hone:=o5.qG (ib:Int);obtain⟨c0,c1,c2⟩:=o5.cl;clear o5 i6 nh o4 zi v0 v1 v2 v3 v4 v5 hb4 pU HP hown ld a6 gj;have HJ:=ah hxl;have Bu:=ah Bt;have AK:=ah nK;clear hxl Bt nK;go_upto_region 15 with fail
      go_wp2_with (first
       |(at_builtin;(try rw[iB]);refine pJ rfl (.tmp 89) (.tmp 93) rfl rfl gJ rfl h6 hone hrl eC.size ?_;intro g7 bR w7 ew dR eO kR))
      have iu:w6.grownBy w7 u7.ownBlock:=dR;have jM:u7.ownBlock=some g7∨g7=w6.heap.size:=eO;have rI:=EO.push jK HJ.out o6 (Bu.out.1.mono fun k hk=>AK.out k hk) (Bu.out.2.mono fun k hk=>AK.out k hk) ew iu jM;have fW:=eC.trans ((bw.grown iu).below eC.size (fun k hk e=>by have:=(gJ.lt k e.symm).1;omega));clear dR eO iu jM ew gJ jK h6 iB eC o6 kR;go_wp2_with fail
      go_roundw
      case rel=>exact⟨_,_,_,_,_,_,_,rfl,rfl,hla,uM,qI,qH,rI,HM.out,fW⟩
      case measure=>have ha:=zj.out;have hb:=ze.out;simp[sE];try omega
end Go.Proofs.YtkmpoleajjgfaaaGreat
