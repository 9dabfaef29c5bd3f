/- Parts of the proof, in order. -/
import Derived.Test.YtkmpoleajjgfaaaGreatQ15
namespace Go.Proofs.YtkmpoleajjgfaaaGreat
open Go.RowKit Gm Go.Sort Go.Shelf
section
variable {w w' w2:World}{M M' P P':Nat->Prop}{D:Option Addr}{l:List (Nat×Rat)}{O:List Nat}{K n:Nat}{b s t:Value}{r:Rat}
theorem bw.Wt(h:bw P w w')(h2:bw P' w' w2)(hp:∀k,P' k->P k∨w.heap.size<=k):bw P w w2:=⟨h2.os.trans h.os,h2.tape.trans h.tape,h2.output.trans h.output,ay h.size h2.size,fun k hk hq=>(h2.block k (ak hk h.size) (fun h3=>(hp k h3).elim hq (fun h4=>by omega))).trans (h.block k hk hq)⟩
theorem RW.step(h:RW w M D l K)(hb:∀k,M' k->M k∨w.heap.size<=k)(hc:bw P w w')(hp:∀k,P k->M k):RW w' M' D l K:=
 ((h.wide (M':=fun k=>M k∨M' k) (fun _ hk=>hk.elim .inl (hb _))).bJ hc (fun _ hk=> .inl (hp _ hk))).wide (fun _ hk=> .inl (.inr hk))
def RO(w:World)(M:Nat->Prop)(b s t:Value)(r:Rat)(K:Nat):Prop:=bG w b s t r K/\Av M s/\Av M t
theorem RO.bJ(h:RO w M b s t r K)(hc:bw P w w')(hp:∀k,P k->M k):RO w' M b s t r K:=⟨h.1.bJ hc (h.2.1.mono hp) (h.2.2.mono hp),h.2.1,h.2.2⟩
theorem RO.wide(h:RO w M b s t r K)(hb:∀k,M' k->M k∨w.heap.size<=k):RO w M' b s t r K:=by
 obtain⟨a1,a2⟩:=h.1.av;exact⟨h.1,(h.2.1.or a1).mono hb,(h.2.2.or a2).mono hb⟩
theorem RO.step(h:RO w M b s t r K)(hb:∀k,M' k->M k∨w.heap.size<=k)(hc:bw P w w')(hp:∀k,P k->M k):RO w' M' b s t r K:=
 ((h.wide (M':=fun k=>M k∨M' k) (fun _ hk=>hk.elim .inl (hb _))).bJ hc (fun _ hk=> .inl (hp _ hk))).wide (fun _ hk=> .inl (.inr hk))
theorem cV.ro{lo:Nat}(o:cV lo w b s t r)(hz:Sz r K)(hm:∀k,M k->k<lo):RO w M b s t r K:=⟨o.is hz,o.av.1.mono hm,o.av.2.mono hm⟩
def XJ(w:World)(M:Nat->Prop)(D:Option Addr)(O:List Nat):Prop:=0<O.length->∃ob,D=some ⟨ob,0,none⟩/\¬M ob/\ob<w.heap.size/\∀(m x:Nat),O[m]?=some x->w.cell? ⟨ob,m,none⟩=some (.int .i64 (x:Int))
theorem XJ.step(h:XJ w M D O)(hb:∀k,M' k->M k∨w.heap.size<=k)(hc:bw P w w')(hp:∀k,P k->M k):XJ w' M' D O:=fun h0=>by
 obtain⟨ob,h1,h2,h3,h4⟩:=h h0;exact⟨ob,h1,fun hm=>(hb _ hm).elim h2 (fun h=>by omega),ak h3 hc.size,fun m x hx=>hc.cell (fun h=>h2 (hp _ h)) (h4 m x hx)⟩
def V1(w:World)(M:Nat->Prop)(p:Nat)(v:Value):Prop:=w.cell? ⟨p,0,none⟩=some v/\¬M p
theorem V1.step{p:Nat}{v:Value}(h:V1 w M p v)(hb:∀k,M' k->M k∨w.heap.size<=k)(hc:bw P w w')(hp:∀k,P k->M k):V1 w' M' p v:=
 ⟨hc.cell (fun h2=>h.2 (hp _ h2)) h.1,fun hm=>(hb _ hm).elim h.2 (fun h2=>by have:=aG w _ h.1;dsimp only at this;omega)⟩
def V3(w:World)(M:Nat->Prop)(p:Nat)(b s t:Value):Prop:=cK w p b s t/\¬M p
theorem V3.step{p:Nat}(h:V3 w M p b s t)(hb:∀k,M' k->M k∨w.heap.size<=k)(hc:bw P w w')(hp:∀k,P k->M k):V3 w' M' p b s t:=
 ⟨h.1.bJ hc (fun h2=>h.2 (hp _ h2)),fun hm=>(hb _ hm).elim h.2 (fun h2=>by have:=h.1.lt;omega)⟩
structure Env(w:World)(M:Nat->Prop)(n:Nat)(D0:Nat->Option Addr)(A0:Nat->List (Nat×Rat))(K eb pb qb fb:Nat)(vp b s t:Value)(f:Rat)(DO:Option Addr)(O:List Nat):Prop where
 rows:∀i,i<n->RW w M (D0 i) (A0 i) K
 p:V1 w M pb vp
 q:V1 w M qb (.pointer (some ⟨eb,0,none⟩))
 v:V3 w M fb b s t
 fr:RO w M b s t f K
 o:XJ w M DO O
theorem Env.step{D0:Nat->Option Addr}{A0:Nat->List (Nat×Rat)}{eb pb qb fb:Nat}{vp:Value}{f:Rat}{DO:Option Addr}(h:Env w M n D0 A0 K eb pb qb fb vp b s t f DO O)(hb:∀k,M' k->M k∨w.heap.size<=k)(hc:bw P w w')(hp:∀k,P k->M k):Env w' M' n D0 A0 K eb pb qb fb vp b s t f DO O:=
 ⟨fun i hi=>(h.rows i hi).step hb hc hp,h.p.step hb hc hp,h.q.step hb hc hp,h.v.step hb hc hp,h.fr.step hb hc hp,h.o.step hb hc hp⟩
theorem Env.bJ{D0:Nat->Option Addr}{A0:Nat->List (Nat×Rat)}{eb pb qb fb:Nat}{vp:Value}{f:Rat}{DO:Option Addr}(h:Env w M n D0 A0 K eb pb qb fb vp b s t f DO O)(hc:bw P w w')(hp:∀k,P k->M k):Env w' M n D0 A0 K eb pb qb fb vp b s t f DO O:=h.step (fun _ h=> .inl h) hc hp
theorem Env.below{D0:Nat->Option Addr}{A0:Nat->List (Nat×Rat)}{eb pb qb fb:Nat}{vp:Value}{f:Rat}{DO:Option Addr}(h:Env w M n D0 A0 K eb pb qb fb vp b s t f DO O)(hb:Below w.heap.size w w'):Env w' M n D0 A0 K eb pb qb fb vp b s t f DO O:=h.bJ (P:=fun _=>False) (bw.of hb) (fun _ h=>h.elim)
theorem ju.L0{e:ju}{Vl:Nat->Value}{i g' m cap:Nat}(iX:(Vl i).ownBlock=some g'∨g'=w.heap.size)(hi:i<n){k:Nat}(hk:e.all n (bE Vl i (.slice (some ⟨g',0,none⟩) m cap)) k):e.all n Vl k∨w.heap.size<=k:=by
 rcases hk with (e2|⟨j,hj,e2⟩)|hk
 ·exact .inl (.inl (.inl e2))
 ·by_cases e3:j=i
  ·subst e3;rw[aW]at e2;injection e2 with e2
   rcases iX with e4|e4
   ·exact .inl (.inl (.inr ⟨j,hj,by rw[e4,<-e2]⟩))
   ·exact .inr (by rw[<-e2];exact Nat.le_of_eq e4.symm)
  ·rw[bk _ _ e3]at e2;exact .inl (.inl (.inr ⟨j,hj,e2⟩))
 ·exact .inl (.inr hk)
end
def RZ(n k r c:Nat)(act:Nat->Prop)(A Ls A' Gx:Nat->List (Nat×Rat)):Prop:=∀i,i<n->
 (act i/\i≠r/\gv (A i) c≠0->(∀j,gv (A' i) j=gv (A i) j-gv (A i) c* (gv (A r) c)⁻¹*gv (A r) j)/\Gx i=Ls i++ [(k,gv (A i) c* (gv (A r) c)⁻¹)])/\
 (¬(act i/\i≠r/\gv (A i) c≠0)->A' i=A i/\Gx i=Ls i)
structure SG(w wr:World)(e:ju)(n k r c:Nat)(act:Nat->Prop)(A Ls:Nat->List (Nat×Rat))(Vl:Nat->Value)(lf:List Nat)(K:Nat)(O:List Nat)(D0:Nat->Option Addr)(c0:Nat->Nat)(pb qb fb:Nat)(vp b s t:Value)(DO:Option Addr)(m:Nat)(Nk rK:Nat->Value)(L1:Nat->List Value)(A1 zQ:Nat->List (Nat×Rat)):Prop where
 st:EST wr e n Nk rK L1 A1 zQ (fun j i=>(act i/\i≠r)/\gv (A1 i) j≠0) lf (6*K+1)
 env:Env wr (e.all n rK) n D0 A K e.eb pb qb fb vp b s t (gv (A r) c)⁻¹ DO O
 can:∀i,i<n->Can n (A1 i)
 don:∀i,i∈O.take m->(∀j,gv (A1 i) j=gv (A i) j-gv (A i) c* (gv (A r) c)⁻¹*gv (A r) j)/\zQ i=Ls i++ [(k,gv (A i) c* (gv (A r) c)⁻¹)]
 old:∀i,i<n->i∉O.take m->A1 i=A i/\zQ i=Ls i/\Nk i= .slice (D0 i) (A i).length (c0 i)
 bJ:bw (e.all n Vl) w wr
 blk:∀x,e.all n rK x->e.all n Vl x∨w.heap.size<=x
theorem EL.gsz{w:World}{D:Option Addr}{l:List (Nat×Rat)}{K:Nat}(h:EL w D l K)(hs:jo l)(h1:1<=K)(j:Nat):Sz (gv l j) K:=by
 refine RR hs (fun p hp=>?_) h1 j;obtain⟨a,ha⟩:=aJ hp;have h0:=(aC.1 ha).1;obtain⟨b,off,_,_,h3⟩:=h (by omega);obtain⟨_,x,y,z,_,_,_,h4⟩:=h3 a p ha;exact h4.sz
set_option maxRecDepth 100000 in
set_option maxHeartbeats 16000000 in
/-- one step of the elimination -/
theorem Vc{w:World}{e:ju}{n k r c:Nat}{Vr Vl:Nat->Value}{L:Nat->List Value}{A Ls:Nat->List (Nat×Rat)}{Q:Nat->Nat->Prop}{lf:List Nat}{K:Nat}(h:EST w e n Vr Vl L A Ls Q lf K)(hn:n<=12)(mB:1<=K)(hK:6*K+1<=1099511627776)(hr:r<n)(hc:c<n)(hz:gv (A r) c≠0)(hcan:∀i,i<n->Can n (A i))(act:Nat->Prop)(hact:∀i,act i->i<n)(hQ:∀j i,j<n->(Q j i↔act i/\gv (A i) j≠0))(iW:act r)(hLs:∀i,i<n->(Ls i).length<=12):
 Calls Tryz.prog 84 #[.pointer (some ⟨e.eb,0,none⟩), .int .i64 (k:Int), .int .i64 (r:Int), .int .i64 (c:Int)] w (fun ret w'=>ret= .returned (.tuple #[])/\∃Vr' XK L' A' Gx,EST w' e n Vr' XK L' A' Gx (fun j i=>(act i/\i≠r)/\gv (A' i) j≠0) lf (6*K+1)/\(∀i,i<n->Can n (A' i))/\RZ n k r c act A Ls A' Gx/\bw (e.all n Vl) w w'/\∀x,e.all n XK x->e.all n Vl x∨w.heap.size<=x):=by
 obtain⟨W,hW,bC,i0⟩:∃W,w.alloc (.cells #[.pointer (some ⟨e.eb,0,none⟩)] 126)=W/\Below w.heap.size w W/\W.cell? ⟨w.heap.size,0,none⟩=some (.pointer (some ⟨e.eb,0,none⟩)):=⟨_,rfl,bI _ _,aT _ _ 0 _ _ (0,0) (aS w _)⟩;have hall:=fun x=>h.lt (k:=x);obtain⟨q,RY⟩:=xeq w.heap.size;have Va:q<W.heap.size:=by rw[<-hW,<-RY];show _< (w.heap.push _).size;simp
 rw[RY]at i0 hall
 obtain⟨D0,c0,hrw⟩:∃(D0:Nat->Option Addr) (c0:Nat->Nat),∀i,i<n->Vr i= .slice (D0 i) (A i).length (c0 i)/\((A i).length<=c0 i/\c0 i<=9223372036854775807)/\RW w (FM e.gl n Vl (e.mu n)) (D0 i) (A i) K:=by
  have hx:∀i,∃p:Option Addr×Nat,i<n->Vr i= .slice p.1 (A i).length p.2/\((A i).length<=p.2/\p.2<=9223372036854775807)/\RW w (FM e.gl n Vl (e.mu n)) p.1 (A i) K:=fun i=>by
   by_cases hi:i<n
   ·obtain⟨D,c,h3⟩:=h.rws i hi;exact⟨(D,c),fun _=>h3⟩
   ·exact⟨(none,0),fun h=>absurd h hi⟩
  obtain⟨f,hf⟩:=Classical.axiomOfChoice hx;exact⟨fun i=>(f i).1,fun i=>(f i).2,hf⟩
 have hE:=h.below bC;have e0:=(aT W e.eb 0 _ _ (0,0) hE.st).trans (show _=some (Value.slice (some ⟨e.gr,0,none⟩) n n)from rfl);have rr:=hE.rows.cell hr;rw[(hrw r hr).1]at rr;obtain⟨la,kL⟩:=xeq ((A r).length);obtain⟨Dr,eDr⟩:=xeq (D0 r);obtain⟨cr,ecr⟩:=xeq (c0 r);rw[kL,eDr,ecr]at rr;have SJ:la<=12:=by have:=(hcan r hr).len;omega
 -- the pivot row's variable
 obtain⟨W2,Ki,hb2,p0⟩:∃W2,W.alloc (.cells #[.slice Dr la cr] 40)=W2/\Below W.heap.size W W2/\W2.cell? ⟨W.heap.size,0,none⟩=some (.slice Dr la cr):=⟨_,rfl,bI _ _,aT _ _ 0 _ _ (0,0) (aS W _)⟩;obtain⟨p,hpe⟩:=xeq W.heap.size;rw[hpe]at p0;have Oi:=hE.below hb2;have Vd:Below w.heap.size w W2:=bC.trans (hb2.mono bC.size);have Vb:¬e.all n Vl q:=fun hx=>by have:=(hall q hx).2;omega
 have hpa:¬e.all n Vl p:=fun hx=>by have:=(hall p hx).2;omega
 have q0:W2.cell? ⟨q,0,none⟩=some (.pointer (some ⟨e.eb,0,none⟩)):=(hb2.cell (p:=⟨q,0,none⟩) Va).trans i0;have XL:=(hrw r hr).2.2.below Vd;have hlv:=Gw (i:=r) (p:=p) (q:=q) (c:=cr) (D:=Dr) Oi hn (by rw[kL];exact p0) q0 Vb (by rw[<-eDr];exact XL) (hcan r hr);have v0:(0:Int)<=(r:Int):=by omega
 have v1:(r:Int)<n:=by omega
 have v2:(0:Int)<=(c:Int):=by omega
 have v3:(c:Int)<n:=by omega
 have HW:=ah hW;have HW2:=ah Ki;have L4:=ah hrw;have HQ:=ah hQ;have HX:=ah (ai mB (ai hK (ai hz (ai hcan (ai hact (ai iW hLs))))));have Hs:=ah hall;have HE:=ah (ai kL (ai eDr ecr));have HB:=ah (ai bC Vd);have HN:=ah (ai RY hpe);clear h hall hrw hE Oi XL hb2 Vd hQ bC hW Ki mB hK hz hcan hact iW hLs kL eDr ecr Va hpe;go_enter Tryz.func84,Tryz.ntmps84
 go_upto_region 1 with fail
 rw[HW.out];clear HW RY;go_upto_region 3 with fail
 rw[HW2.out,HN.out.2];clear i0 e0 rr HW2;go_wp2_with fail
 refine hlv.mono ?_;rintro ret w3 ⟨rfl,hE3,J8⟩;clear hlv;have BK:bw (e.all n Vl) w w3:=((bw.of (P:=fun _=>False) HB.out.2).mono (fun _ _ h=>h.elim)).trans (J8.mono (fun _ _ h=> .inr h));have p3:w3.cell? ⟨p,0,none⟩=some (.slice Dr la cr):=J8.cell (fun h=>hpa (.inr h)) p0;have q3:w3.cell? ⟨q,0,none⟩=some (.pointer (some ⟨e.eb,0,none⟩)):=J8.cell (fun h=>Vb (.inr h)) q0;have lp3:p<w3.heap.size:=aG w3 _ p3;have lq3:q<w3.heap.size:=aG w3 _ q3;have Q8:∀i,i<n->RW w3 (e.all n Vl) (D0 i) (A i) K:=fun i hi=>((L4.out i hi).2.2.below HB.out.2).bJ J8 (fun _ h=> .inr h);have hel:=(Q8 r hr).el;rw[HE.out.2.1]at hel;have hget:=LC (c:=cr) (j:=c) hel (by have:=HE.out.1;omega) (HX.out.2.2.2.1 r hr).jF (by omega) HX.out.1 (by have:=HX.out.2.1;omega);rw[HE.out.1]at hget;have XM:=hel.gsz (HX.out.2.2.2.1 r hr).jF HX.out.1 c;have J0:=ah XM;have QK:=ah (ai hE3 (ai BK (ai Q8 (ai p3 (ai q3 (ai lp3 lq3))))));clear hE3 J8 BK Q8 hel XM p0 q0 q3 lp3 lq3;go_wp2_with fail
 refine hget.mono ?_;rintro ret w4 ⟨b4,s4,t4,rfl,o4,g4⟩;clear hget;have hinv:=Pw (o4.is J0.out) (by have:=HX.out.2.1;omega) HX.out.2.2.1 rfl;clear o4;go_wp2_with fail
 refine hinv.mono ?_;rintro ret w5 ⟨b5,s5,t5,rfl,o5,g5⟩;clear hinv;have eC:=bI w5 (.cells #[b5,s5,t5] 45);have f6:=cK.jJ w5 45 b5 s5 t5;obtain⟨W6,CX⟩:=xeq (w5.alloc (.cells #[b5,s5,t5] 45));obtain⟨fb,pQ⟩:=xeq w5.heap.size;rw[CX]at eC f6;rw[pQ]at f6;obtain⟨y0,y1,y2⟩:=o5.st;have Jy:Below w3.heap.size w3 W6:=g4.trans ((g5.mono g4.size).trans (eC.mono (ay g4.size g5.size)));go_upto_region 5 with fail
 obtain⟨hE3,BK,Q8,p3',q3,lp3,lq3⟩:=QK.out;have hE6:=hE3.below Jy;have p6:=(Jy.cell (p:=⟨p,0,none⟩) lp3).trans p3';have q6:=(Jy.cell (p:=⟨q,0,none⟩) lq3).trans q3;have hfn:¬e.all n Vl fb:=fun hx=>by have:=(Hs.out fb hx).2;have:=BK.size;have:=g4.size;have:=g5.size;have:=HN.out.1;omega
 have hw5:w.heap.size<=w5.heap.size:=ay BK.size (ay g4.size g5.size);have iG:w.heap.size<=w4.heap.size:=ay BK.size g4.size
 have hro:RO W6 (e.all n Vl) b5 s5 t5 (gv (A r) c)⁻¹ K:=by
  have h1:=o5.ro (K:=K) (M:=e.all n Vl) (J0.out.inv rfl) (fun x hx=>by have:=(Hs.out x hx).2;have:=HN.out.1;omega);exact h1.bJ (P:=fun _=>False) (bw.of eC) (fun _ h=>h.elim)
 have aas:bw (e.all n Vl) w W6:=BK.trans ((bw.of (P:=fun _=>False) Jy).mono (fun _ _ h=>h.elim));have hR6:∀i,i<n->RW W6 (e.all n Vl) (D0 i) (A i) K:=fun i hi=>(Q8 i hi).below Jy;have z2:=(aT W6 e.eb 2 _ _ (0,0) hE6.st).trans (show _=some (Value.slice (some ⟨e.gi,0,none⟩) n n)from rfl);have mc:=hE6.maps.cell hc;obtain⟨S,hIM,hS⟩:=hE6.sm c hc;obtain⟨w7,hrun,wK,fW⟩:=hIM.range (T:=64) Tryz.underlying64;obtain⟨rb,hrb⟩:=xeq W6.heap.size;rw[hrb]at hrun wK fW;have HS:=ah hS;have HIT:=ah wK;have HB7:=ah fW;have Kj:=ah (ai hE6 (ai (ai p6 hpa) (ai (ai q6 Vb) (ai (ai f6 hfn) (ai hro (ai aas (ai hR6 hrb)))))));clear hE3 BK Q8 p3 p3' q3 lp3 lq3 hE6 p6 f6 hfn hw5 iG hro aas hR6 hIM wK fW hS g4 g5 eC Jy o5 CX pQ QK y0 y1 y2 hrb
 go_upto_block 0 with fail
 clear hrun mc z2 q6;have hQn:∀x,Q c x->x<n:=fun x hx=>HX.out.2.2.2.2.1 x ((HQ.out c x hc).1 hx).1
 go_cut [12] (fun t wx=>∃(O:List Nat) (DO:Option Addr) (cO:Nat),t= .slice DO O.length cO/\O.Nodup/\(∀i,i∈O↔Q c i/\¬(i=r/\gv (A r) c≠0))/\XJ wx (e.all n Vl) DO O/\Below rb W6 wx)
 case first=>
  go_wp2_with fail
  go_loopw [12] (fun t wr=>(∃O:List Nat,IT wr rb (e.mj c) S (O.map fun(i:Nat)=>((i:Int),Value.bool true))/\wr.ownsRow (rb+1) 3 1 t O.length (cH O))/\Below rb W6 wr) (fun _ wr=>S.length-Gv wr rb)
  case atStart=>exact⟨⟨[],HIT.out,World.ownsRow_nil _ _ _ _⟩,HB7.out⟩
  case round=>
   clear HIT HB7;obtain⟨⟨O,wK,hown⟩,hb⟩:=hrel
   have R4:∀i∈O,Q c i/\¬(i=r/\gv (A r) c≠0):=fun i hi=>by
    obtain⟨i2,h2,h3⟩:=(HS.out _).1 (wK.sub ((i:Int), .bool true) (List.mem_map.2 ⟨i,hi,rfl⟩));injection h2 with h2 _
    rw[show i=i2 by omega];exact h3
   have R5:O.Nodup:=by
    have h1:=wK.dn;rw[List.map_map]at h1;exact(List.pairwise_map.1 h1).imp (fun h2 e2=>h2 (by rw[e2]))
   have hOl:O.length<=n:=kG n O R5 (fun x hx=>hQn x (R4 x hx).1);obtain⟨DO,cO,rfl⟩:=lH hown;rcases wK.next 0 with ⟨SK,hnext⟩|⟨pp,hpS,jB,hlen,w5,hnext,zP,Yn⟩
   ·have HR:=ah (show(∀i,i∈O↔Q c i/\¬(i=r/\gv (A r) c≠0))/\XJ wr (e.all n Vl) DO O from by
     refine⟨fun i=>⟨R4 i,fun hi=>?_⟩,fun h0=>?_⟩
     ·have h1:=SK _ ((HS.out ((i:Int), .bool true)).2 ⟨i,rfl,hi⟩);obtain⟨i2,h2,h3⟩:=List.mem_map.1 h1;injection h3 with h3 _
      rw[show i=i2 by omega];exact h2
     ·obtain⟨gg,cc,h1,_,_⟩:=hown.form h0;injection h1 with h1 _ _
      subst h1;have hlt:=hown.lt gg rfl;have hrb:=Kj.out.2.2.2.2.2.2.2;refine⟨gg,rfl,fun hx=>?_,hlt.2,fun m x hm=>?_⟩
      ·have:=(Kj.out.1.lt hx).2;omega
      ·have h2:=hown.cells (g:=gg) rfl m (.int .i64 (x:Int)) (by unfold cH;rw[List.getElem?_map,hm];rfl);rw[qq,Nat.zero_add]at h2;exact h2)
    have HX2:=ah (ai R5 hb);clear R4 R5 SK wK hown hb;go_wp2_with fail
    go_meet;exact⟨O,DO,cO,rfl,HX2.out.1,HR.out.1,HR.out.2,HX2.out.2⟩
   ·obtain⟨i,rfl,hqi⟩:=(HS.out _).1 hpS;have LZ:=zP.entry;have gj:=hb.trans (Yn.below (aR wK.lt.1) (fun k hk e=>by omega));have aer:=bL hown Yn (fun k hk e=>by have:=(hown.lt k hk).1;omega);have ba:=bI w5 (.cells #[.int .i64 (i:Int)] 3);have jQ:=aer.alloc (.cells #[.int .i64 (i:Int)] 3);have h6:(w5.alloc (.cells #[.int .i64 (i:Int)] 3)).heap[w5.heap.size]?=some (.cells #[.int .i64 (i:Int)] 3 (0,0)):=aS w5 _;obtain⟨wa,iP⟩:=xeq (w5.alloc (.cells #[.int .i64 (i:Int)] 3));rw[iP]at ba jQ h6
    have hmjr:e.mj c<rb:=by
     have h1:=(Kj.out.1.sm c hc).lt;have h2:=Kj.out.2.2.2.2.2.2.2;omega
    have ale:rb+1<=wa.heap.size:=ay zP.lt.1 ba.size;have HI:=ah (ai wK.seen (ai hlen (zP.bJ (bw.of (P:=fun _=>False) ba) (fun h=>h) (fun h=>h))));have Eh:=ah (gj.trans (ba.mono (aR zP.lt.1)));have HOW:=ah jQ.lt;clear R4 R5 hown aer wK zP Yn hpS jB hlen ba hb gj hqi
    go_wp2_with (first
     |(at_builtin;(try rw[iP]);refine mP rfl (.tmp 49) (.tmp 51) rfl rfl jQ rfl h6 (by omega) ale ?_;intro g7 bR w8 ew dR eO kR))
    have nD:=bw.grown dR;have Wu:=HI.out.2.2.bJ nD (fun h=>by have:=(HOW.out _ h.symm).1;omega) (fun h=>by have:=(HOW.out _ h.symm).1;omega);have jV:=Eh.out.trans (nD.below (by omega) (fun k hk h=>by have:=(HOW.out _ h.symm).1;omega))
    have Jz:w8.ownsRow (rb+1) 3 1 (.slice (some ⟨g7,0,none⟩) (O.length+1) bR) (O++ [i]).length (cH (O++ [i])):=by
     rw[show cH (O++ [i])=cH O++ [.int .i64 (i:Int)] by simp[cH],List.length_append];exact ew
    have hs8:=Wu.seen;have HZ:=ah (ai Wu (ai Jz (ai jV hs8)));clear Wu Jz jV hs8 ew dR eO kR nD h6 jQ;go_roundw
    case rel=>exact⟨⟨O++ [i],by rw[List.map_append];exact HZ.out.1,HZ.out.2.1⟩,HZ.out.2.2.1⟩
    case measure=>rw[HZ.out.2.2.2,HI.out.1,List.length_append];have:=HI.out.2.1;simp only[List.length_cons,List.length_nil];omega
 case rest=>
  obtain⟨O,DO,cO,rfl,R5,R4,RA,hbc⟩:=hcut
  have hs0:SG w wc e n k r c act A Ls Vl lf K O D0 c0 p q fb (.slice Dr la cr) b5 s5 t5 DO 0 Vr Vl L A Ls:=by
   obtain⟨a1,a2,a3,a4,a5,a6,a7,a8⟩:=Kj.out;rw[<-a8]at hbc;have alf:Env W6 (e.all n Vl) n D0 A K e.eb p q fb (.slice Dr la cr) b5 s5 t5 (gv (A r) c)⁻¹ none []:=⟨a7,a2,a3,a4,a5,fun h=>absurd h (by simp)⟩;have lP:=alf.below hbc;have hk6:K<=6*K+1:=by omega
   refine⟨((a1.below hbc).mono hk6).jv (fun j hj x=>?_),⟨lP.rows,lP.p,lP.q,lP.v,lP.fr,RA⟩,HX.out.2.2.2.1,fun i hi=>by simp at hi,fun i hi _=>⟨rfl,rfl,(L4.out i hi).1⟩,a6.trans ((bw.of (P:=fun _=>False) hbc).mono (fun _ _ h=>h.elim)),fun x hx=> .inl hx⟩;rw[HQ.out j x hj];constructor
   ·rintro⟨⟨h1,h2⟩,h3⟩;exact⟨⟨h1,fun e1=>h3 ⟨e1,by rw[<-e1];exact h2⟩⟩,h2⟩
   ·rintro⟨⟨h1,h2⟩,h3⟩;exact⟨⟨h1,h3⟩,fun h4=>h2 h4.1⟩
  have hOl:O.length<=n:=kG n O R5 (fun x hx=>hQn x ((R4 x).1 hx).1);have Q9:=ah hs0;have HO:=ah (ai R5 R4);obtain⟨lO,elO⟩:=xeq O.length;rw[elO]at hOl⊢;have ELO:=ah elO;clear hs0 R5 R4 RA hbc Kj J0 HS hpa Vb elO;go_wp2_with fail
  go_loopw [55] (fun t wr=>∃(m:Nat) (Nk rK:Nat->Value) (L1:Nat->List Value) (A1 zQ:Nat->List (Nat×Rat)),m<=lO/\t= .int .i64 (m:Int)/\SG w wr e n k r c act A Ls Vl lf K O D0 c0 p q fb (.slice Dr la cr) b5 s5 t5 DO m Nk rK L1 A1 zQ) (fun t _=>lO- (intOf t).toNat)
  case atStart=>exact⟨0,_,_,_,_,_,aF _,rfl,Q9.out⟩
  case round=>
   clear Q9;obtain⟨m,Nk,rK,L1,A1,zQ,hm,rfl,hs⟩:=hrel
   by_cases hlm:m<lO
   ·obtain⟨i,hi⟩:∃i,O[m]?=some i:=⟨O[m]'(by have:=ELO.out;omega),aB _⟩;have hqi:=(HO.out.2 i).1 (aD hi);have hin:i<n:=hQn i hqi.1;have hai:=(HQ.out c i hc).1 hqi.1;have Ve:i≠r:=fun e1=>hqi.2 ⟨e1,HX.out.2.2.1⟩
    have hnt:i∉O.take m:=fun hh=>by
     obtain⟨a,ha⟩:=aJ hh;rw[List.getElem?_take]at ha;split at ha
     ·have h1:=(aC.1 ha).1;have:=(List.getElem?_inj h1 HO.out.1).1 (ha.trans hi.symm);omega
     ·cases ha
    obtain⟨ho1,Jw,ho3⟩:=hs.old i hin hnt;obtain⟨ob,rfl,aoj,aok,aes⟩:=hs.env.o (by have:=ELO.out;omega);have co:=aes m i hi;have e0:=(aT wr e.eb 0 _ _ (0,0) hs.st.st).trans (show _=some (Value.slice (some ⟨e.gr,0,none⟩) n n)from rfl);have ri:=hs.st.rows.cell hin;rw[ho3]at ri;obtain⟨li,XO⟩:=xeq ((A i).length);obtain⟨Di,eDi⟩:=xeq (D0 i);obtain⟨ci,R6⟩:=xeq (c0 i);rw[XO,eDi,R6]at ri;obtain⟨⟨f0,f1,f2,-,-,-⟩,-⟩:=hs.env.v;have q1:=hs.env.q.1;have Vf:=ah hs;have XP:=ah (ai ho1 (ai Jw (ai ho3 (ai hai (ai Ve hnt)))));have R7:=ah (ai XO (ai eDi R6));have w0:(0:Int)<=(m:Int):=by omega
    have w1:(m:Int)<lO:=by omega
    have w2:(0:Int)<=(i:Int):=by omega
    have w3':(i:Int)<n:=by omega
    clear hs ho1 Jw ho3 hai Ve hnt XO eDi R6 aoj aok aes hqi;go_upto_region 13 with fail
    have dH:=ah (show∀w',Below wr.heap.size wr w'->Below wr.heap.size wr w'/\w'.cell? ⟨q,0,none⟩=some (.pointer (some ⟨e.eb,0,none⟩))/\w'.cell? ⟨e.eb,0,none⟩=some (.slice (some ⟨e.gr,0,none⟩) n n)/\w'.cell? ⟨e.gr,i,none⟩=some (.slice Di li ci)/\w'.cell? ⟨fb,0,none⟩=some b5/\w'.cell? ⟨fb,1,none⟩=some s5/\w'.cell? ⟨fb,2,none⟩=some t5 from fun w' hb=>⟨hb,(hb.cell (aG wr _ q1)).trans q1,(hb.cell (aG wr _ e0)).trans e0,(hb.cell (aG wr _ ri)).trans ri,(hb.cell (aG wr _ f0)).trans f0,(hb.cell (aG wr _ f1)).trans f1,(hb.cell (aG wr _ f2)).trans f2⟩);have hgi:=(Vf.out.env.rows i hin).el.gsz (HX.out.2.2.2.1 i hin).jF HX.out.1 c;have HGS:=ah hgi
    have NP:=ah (show∀w',Below wr.heap.size wr w'->Calls Tryz.prog 51 #[.slice Di li ci, .int .i64 (c:Int)] w' (nV w' (gv (A i) c))from fun w' hb=>by
     have h1:=LC (c:=ci) (j:=c) ((Vf.out.env.rows i hin).el.below hb) (by have:=(HX.out.2.2.2.1 i hin).len;omega) (HX.out.2.2.2.1 i hin).jF (by omega) HX.out.1 (by have:=HX.out.2.1;omega);rw[R7.out.1,R7.out.2.1]at h1;exact h1)
    have HFR:=ah (show∀w',Below wr.heap.size wr w'->bG w' b5 s5 t5 (gv (A r) c)⁻¹ K from fun w' hb=>Vf.out.env.fr.1.keep hb);have HKS:=ah (show K<=1099511627776 by have:=HX.out.2.1;omega);obtain⟨vi,evi⟩:=xeq (gv (A i) c);obtain⟨vf,evf⟩:=xeq ((gv (A r) c)⁻¹);rw[evi]at HGS NP;rw[evf]at HFR;have qP:=ah (show Sz (vi*vf) (2*K)from Sz.mul' HGS.out (HFR.out wr (aq _ _)).sz rfl (by omega));have HEV:=ah (ai evi evf);clear hgi evi evf q1 e0 ri f0 f1 f2 co
    go_cut [16] (fun t wx=>∃(N:Nat) (b s t':Value),t= .pointer (some ⟨N,0,none⟩)/\cK wx N b s t'/\RO wx (fun x=>x<wr.heap.size) b s t' (vi*vf) (2*K)/\wr.heap.size<=N/\Below wr.heap.size wr wx)
    case first=>
     have c0:=dH.out wr (aq _ _);refine wp_region_held_drew (S:=(fun w'=>Below wr.heap.size wr w'/\w'.cell? ⟨q,0,none⟩=some (.pointer (some ⟨e.eb,0,none⟩))/\w'.cell? ⟨e.eb,0,none⟩=some (.slice (some ⟨e.gr,0,none⟩) n n)/\w'.cell? ⟨e.gr,i,none⟩=some (.slice Di li ci)/\w'.cell? ⟨fb,0,none⟩=some b5/\w'.cell? ⟨fb,1,none⟩=some s5/\w'.cell? ⟨fb,2,none⟩=some t5)) (by kernel_rfl) (dH.out _ (aq _ _).drew) (fun aU=>?_);refine tq 0 aU ?_;refine tq 1 aU ?_;refine tq 2 aU ?_;refine tq 3 aU ?_;refine tq 4 aU ?_;refine tq 5 aU ?_;refine tq 6 aU ?_;refine tq 7 aU ?_;refine tq 9 aU ?_;refine wpAnyH_ready (rs:=[8,11]) (by kernel_rfl) (by simp) ?_;refine nC 8 rfl (fun κ hκ=>?_) ?_
     focus
      go_simp;go_at_call 51;refine(NP.out _ aU.1).mono ?_;rintro ret w8 ⟨b8,s8,t8,rfl,o8,g8⟩;have jV:=aU.1.trans (g8.mono aU.1.size);have oR:=o8.is HGS.out;clear o8 g8;go_wp2_with fail
      refine hκ.out _ _ ?_ (fun aU=>?_)
      ·exact dH.out _ jV
      clear hκ κ;refine tu ?_;refine wpAnyH_ready (rs:=[10,11]) (by kernel_rfl) (by simp) ?_;refine nC 10 rfl (fun κ hκ=>?_) ?_
      focus
       go_simp;go_at_call 31;refine(iT oR (HFR.out _ aU.1) HKS.out rfl).mono ?_;rintro ret w10 ⟨b10,s10,t10,rfl,o10,g10⟩;have kU:=aU.1.trans (g10.mono aU.1.size);have hro:RO w10 (fun x=>x<wr.heap.size) b10 s10 t10 (vi*vf) (2*K):=o10.ro qP.out (fun x hx=>ak hx aU.1.size);have HST:=ah o10.st;clear o10 g10 oR;go_wp2_with fail
       refine hκ.out _ _ ?_ (fun aU=>?_)
       ·exact dH.out _ kU
       clear hκ κ;refine tu ?_;refine tv 11 (fun κ hκ=>?_);go_simp;have jL:Below wr.heap.size wr (w10.alloc (.cells #[.bool false, .slice none 0 0, .slice none 0 0] 45)):=aU.1.trans ((bI w10 (.cells #[.bool false, .slice none 0 0, .slice none 0 0] 45)).mono aU.1.size);have i11:cK (w10.alloc (.cells #[.bool false, .slice none 0 0, .slice none 0 0] 45)) w10.heap.size (.bool false) (.slice none 0 0) (.slice none 0 0):=cK.jJ w10 45 (.bool false) (.slice none 0 0) (.slice none 0 0);have eJ:Av (fun x=>x=w10.heap.size) s10/\Av (fun x=>x=w10.heap.size) t10:=⟨hro.1.av.1.mono (fun x hx=>by subst hx;exact aj _),hro.1.av.2.mono (fun x hx=>by subst hx;exact aj _)⟩;have fU:=hro.bJ (P:=fun _=>False) (bw.of (bI w10 (.cells #[.bool false, .slice none 0 0, .slice none 0 0] 45))) (fun _ h=>h.elim);clear hro;have hro:=fU;clear fU;have dB:w10.heap.size< (w10.alloc (.cells #[.bool false, .slice none 0 0, .slice none 0 0] 45)).heap.size:=i11.lt;obtain⟨N,hN⟩:∃N:Nat,N=w10.heap.size:=⟨_,rfl⟩;have oy:wr.heap.size<=N:=by rw[hN];exact aU.1.size
       rw[<-hN]at i11 dB eJ;obtain⟨W11,vA⟩:=xeq ((w10.alloc (.cells #[.bool false, .slice none 0 0, .slice none 0 0] 45)));rw[vA]at jL i11 dB hro;(try rw[vA]);(try rw[<-hN]);clear hN vA;refine hκ.out _ _ ?_ (fun aU=>?_)
       ·exact dH.out _ jL
       clear hκ κ;refine tu ?_;refine tv 12 (fun κ hκ=>?_);obtain⟨y0,y1,y2⟩:=HST.out;obtain⟨n0,n1,n2,n3,n4,n5⟩:=id i11;go_simp;clear n0 n1 n2 n3 n4 n5 y0 y1 y2;have vB:bw (fun x=>x=N) W11 (((W11.setCell ⟨N,0,none⟩ b10).setCell ⟨N,1,none⟩ s10).setCell ⟨N,2,none⟩ t10):=(bw.set (P:=(·=N)) (p:=⟨N,0,none⟩) rfl _ _).trans ((bw.set (P:=(·=N)) (p:=⟨N,1,none⟩) rfl _ _).trans (bw.set (P:=(·=N)) (p:=⟨N,2,none⟩) rfl _ _));have kx:=aU.1.trans (vB.below aU.1.size (fun k hk e=>by omega));have HP:=ah (ai (i11.put b10 s10 t10) (ai (show RO _ (fun x=>x<wr.heap.size) b10 s10 t10 (vi*vf) (2*K)from⟨hro.1.bJ vB eJ.1 eJ.2,hro.2⟩) (ai oy kx)));clear hro eJ i11 vB;refine hκ.out _ _ ?_ (fun aU=>?_)
       ·exact dH.out _ kx
       clear hκ κ;refine tu ?_;refine td ?_ _;go_wp2_with fail
       go_meet;exact⟨N,b10,s10,t10,rfl,HP.out.1,HP.out.2.1,HP.out.2.2.1,HP.out.2.2.2⟩
      refine nC 11 rfl (fun κ hκ=>?_) ?_
      focus
       go_simp;have jL:Below wr.heap.size wr (w8.alloc (.cells #[.bool false, .slice none 0 0, .slice none 0 0] 45)):=aU.1.trans ((bI w8 (.cells #[.bool false, .slice none 0 0, .slice none 0 0] 45)).mono aU.1.size);have i11:cK (w8.alloc (.cells #[.bool false, .slice none 0 0, .slice none 0 0] 45)) w8.heap.size (.bool false) (.slice none 0 0) (.slice none 0 0):=cK.jJ w8 45 (.bool false) (.slice none 0 0) (.slice none 0 0);have L5:=oR.keep (bI w8 (.cells #[.bool false, .slice none 0 0, .slice none 0 0] 45));clear oR;have oR:=L5;clear L5;have dB:w8.heap.size< (w8.alloc (.cells #[.bool false, .slice none 0 0, .slice none 0 0] 45)).heap.size:=i11.lt;obtain⟨N,hN⟩:∃N:Nat,N=w8.heap.size:=⟨_,rfl⟩;have oy:wr.heap.size<=N:=by rw[hN];exact aU.1.size
       rw[<-hN]at i11 dB;obtain⟨W11,vA⟩:=xeq ((w8.alloc (.cells #[.bool false, .slice none 0 0, .slice none 0 0] 45)));rw[vA]at jL i11 dB oR;(try rw[vA]);(try rw[<-hN]);clear hN vA;refine hκ.out _ _ ?_ (fun aU=>?_)
       ·exact dH.out _ jL
       clear hκ κ;refine tu ?_;refine tv 10 (fun κ hκ=>?_);go_simp;go_at_call 31;refine(iT oR (HFR.out _ aU.1) HKS.out rfl).mono ?_;rintro ret w10 ⟨b10,s10,t10,rfl,o10,g10⟩;have kU:=aU.1.trans (g10.mono aU.1.size);have nZ:=i11.keep g10;clear i11;have i11:=nZ;clear nZ;have eJ:Av (fun x=>x=N) s10/\Av (fun x=>x=N) t10:=⟨o10.av.1.mono (fun x hx=>by subst hx;exact dB),o10.av.2.mono (fun x hx=>by subst hx;exact dB)⟩;have hro:RO w10 (fun x=>x<wr.heap.size) b10 s10 t10 (vi*vf) (2*K):=o10.ro qP.out (fun x hx=>ak hx aU.1.size);have HST:=ah o10.st;clear o10 g10 oR;go_wp2_with fail
       refine hκ.out _ _ ?_ (fun aU=>?_)
       ·exact dH.out _ kU
       clear hκ κ;refine tu ?_;refine tv 12 (fun κ hκ=>?_);obtain⟨y0,y1,y2⟩:=HST.out;obtain⟨n0,n1,n2,n3,n4,n5⟩:=id i11;go_simp;clear n0 n1 n2 n3 n4 n5 y0 y1 y2;have vB:bw (fun x=>x=N) w10 (((w10.setCell ⟨N,0,none⟩ b10).setCell ⟨N,1,none⟩ s10).setCell ⟨N,2,none⟩ t10):=(bw.set (P:=(·=N)) (p:=⟨N,0,none⟩) rfl _ _).trans ((bw.set (P:=(·=N)) (p:=⟨N,1,none⟩) rfl _ _).trans (bw.set (P:=(·=N)) (p:=⟨N,2,none⟩) rfl _ _));have kx:=aU.1.trans (vB.below aU.1.size (fun k hk e=>by omega));have HP:=ah (ai (i11.put b10 s10 t10) (ai (show RO _ (fun x=>x<wr.heap.size) b10 s10 t10 (vi*vf) (2*K)from⟨hro.1.bJ vB eJ.1 eJ.2,hro.2⟩) (ai oy kx)));clear hro eJ i11 vB;refine hκ.out _ _ ?_ (fun aU=>?_)
       ·exact dH.out _ kx
       clear hκ κ;refine tu ?_;refine td ?_ _;go_wp2_with fail
       go_meet;exact⟨N,b10,s10,t10,rfl,HP.out.1,HP.out.2.1,HP.out.2.2.1,HP.out.2.2.2⟩
      exact AllReadyH.nil
     refine nC 11 rfl (fun κ hκ=>?_) ?_
     focus
      go_simp;have jL:Below wr.heap.size wr (wr.alloc (.cells #[.bool false, .slice none 0 0, .slice none 0 0] 45)).drew:=aU.1.trans ((bI wr.drew (.cells #[.bool false, .slice none 0 0, .slice none 0 0] 45)).mono aU.1.size);have i11:cK (wr.alloc (.cells #[.bool false, .slice none 0 0, .slice none 0 0] 45)).drew wr.heap.size (.bool false) (.slice none 0 0) (.slice none 0 0):=cK.jJ wr.drew 45 (.bool false) (.slice none 0 0) (.slice none 0 0);have dB:wr.heap.size< (wr.alloc (.cells #[.bool false, .slice none 0 0, .slice none 0 0] 45)).drew.heap.size:=i11.lt;obtain⟨N,hN⟩:∃N:Nat,N=wr.heap.size:=⟨_,rfl⟩;have oy:wr.heap.size<=N:=by rw[hN];exact aU.1.size
      rw[<-hN]at i11 dB;obtain⟨W11,vA⟩:=xeq ((wr.alloc (.cells #[.bool false, .slice none 0 0, .slice none 0 0] 45)).drew);rw[vA]at jL i11 dB;(try rw[vA]);(try rw[<-hN]);clear hN vA;refine hκ.out _ _ ?_ (fun aU=>?_)
      ·exact dH.out _ jL
      clear hκ κ;refine tu ?_;refine tv 8 (fun κ hκ=>?_);go_simp;go_at_call 51;refine(NP.out _ aU.1).mono ?_;rintro ret w8 ⟨b8,s8,t8,rfl,o8,g8⟩;have jV:=aU.1.trans (g8.mono aU.1.size);have oR:=o8.is HGS.out;have nZ:=i11.keep g8;clear i11;have i11:=nZ;clear nZ;have dQ:=ak dB g8.size;clear dB;have dB:=dQ;clear dQ;clear o8 g8;go_wp2_with fail
      refine hκ.out _ _ ?_ (fun aU=>?_)
      ·exact dH.out _ jV
      clear hκ κ;refine tu ?_;refine tv 10 (fun κ hκ=>?_);go_simp;go_at_call 31;refine(iT oR (HFR.out _ aU.1) HKS.out rfl).mono ?_;rintro ret w10 ⟨b10,s10,t10,rfl,o10,g10⟩;have kU:=aU.1.trans (g10.mono aU.1.size);have nZ:=i11.keep g10;clear i11;have i11:=nZ;clear nZ;have eJ:Av (fun x=>x=N) s10/\Av (fun x=>x=N) t10:=⟨o10.av.1.mono (fun x hx=>by subst hx;exact dB),o10.av.2.mono (fun x hx=>by subst hx;exact dB)⟩;have hro:RO w10 (fun x=>x<wr.heap.size) b10 s10 t10 (vi*vf) (2*K):=o10.ro qP.out (fun x hx=>ak hx aU.1.size);have HST:=ah o10.st;clear o10 g10 oR;go_wp2_with fail
      refine hκ.out _ _ ?_ (fun aU=>?_)
      ·exact dH.out _ kU
      clear hκ κ;refine tu ?_;refine tv 12 (fun κ hκ=>?_);obtain⟨y0,y1,y2⟩:=HST.out;obtain⟨n0,n1,n2,n3,n4,n5⟩:=id i11;go_simp;clear n0 n1 n2 n3 n4 n5 y0 y1 y2;have vB:bw (fun x=>x=N) w10 (((w10.setCell ⟨N,0,none⟩ b10).setCell ⟨N,1,none⟩ s10).setCell ⟨N,2,none⟩ t10):=(bw.set (P:=(·=N)) (p:=⟨N,0,none⟩) rfl _ _).trans ((bw.set (P:=(·=N)) (p:=⟨N,1,none⟩) rfl _ _).trans (bw.set (P:=(·=N)) (p:=⟨N,2,none⟩) rfl _ _));have kx:=aU.1.trans (vB.below aU.1.size (fun k hk e=>by omega));have HP:=ah (ai (i11.put b10 s10 t10) (ai (show RO _ (fun x=>x<wr.heap.size) b10 s10 t10 (vi*vf) (2*K)from⟨hro.1.bJ vB eJ.1 eJ.2,hro.2⟩) (ai oy kx)));clear hro eJ i11 vB;refine hκ.out _ _ ?_ (fun aU=>?_)
      ·exact dH.out _ kx
      clear hκ κ;refine tu ?_;refine td ?_ _;go_wp2_with fail
      go_meet;exact⟨N,b10,s10,t10,rfl,HP.out.1,HP.out.2.1,HP.out.2.2.1,HP.out.2.2.2⟩
     exact AllReadyH.nil
    case rest=>
     obtain⟨N,b9,s9,t9,rfl,i9,pP,hN9,kS⟩:=hcut;have Ra:=Vf.out.st.below kS;have Nl:=Vf.out.env.below kS;have xS:∀x,e.all n rK x->x<wr.heap.size:=fun x hx=>(Vf.out.st.lt hx).2;have hNa:¬e.all n rK N:=fun hx=>by have:=xS N hx;omega
     have FR:(zQ i).length<=12:=by rw[XP.out.2.1];exact HX.out.2.2.2.2.2.2 i hin
     -- the block that is appended
     obtain⟨Wb,oV⟩:=xeq ((wc.alloc (.cells #[.int .i64 (k:Int),b9,s9,t9] 92)).drew);have jd:Below wc.heap.size wc Wb:=by rw[<-oV];exact(bI wc _).drew
     obtain⟨nb,hnb⟩:=xeq wc.heap.size;have h6:Wb.heap[nb]?=some (.cells #[.int .i64 (k:Int),b9,s9,t9] 92 (0,0)):=by rw[<-oV,<-hnb];exact aS wc _
     have qA:=Ra.below jd;have BM:=Nl.below jd;have ib:=i9.keep jd;have Ei:=pP.bJ (P:=fun _=>False) (bw.of jd) (fun _ h=>h.elim);have hone:=pP.1.qG (k:Int);obtain⟨y0,y1,y2⟩:=pP.1.st;obtain⟨y3,y4,y5⟩:=pP.1.cl;have q9:=Nl.q.1;have e9:=(aT wc e.eb 1 _ _ (0,0) Ra.st).trans (show _=some (Value.slice (some ⟨e.gl,0,none⟩) n n)from rfl);have l9:=Ra.low.fF.row.cell hin;obtain⟨n0,n1,n2,-,-,-⟩:=id i9;have qb:=BM.q.1;have eb1:=(aT Wb e.eb 1 _ _ (0,0) qA.st).trans (show _=some (Value.slice (some ⟨e.gl,0,none⟩) n n)from rfl);have lb1:=qA.low.fF.row.cell hin;obtain⟨m0,m1,m2,-,-,-⟩:=id ib;have hown:=qA.low.fF.own i hin;have jR:e.lo<=Wb.heap.size:=by have:=qA.lo.1;have:=qA.kC.lt;omega
     have gV:¬some q=(rK i).ownBlock:=fun hx=>BM.q.2 (.inl (.inr ⟨i,hin,hx.symm⟩));have iw:¬some e.eb=(rK i).ownBlock:=fun hx=>(qA.low.fF.tb hin hx.symm).ne qA.kC (by decide) rfl;have jS:¬some e.gl=(rK i).ownBlock:=fun hx=>qA.low.fF.out i hin hx.symm;have ni:¬some N=(rK i).ownBlock:=fun hx=>hNa (.inl (.inr ⟨i,hin,hx.symm⟩));obtain⟨ll,qB⟩:=xeq ((zQ i).length);rw[qB]at hown FR;have h6K:2*K<=6*K+1:=by omega
     have HG:=ah (show∀g7 bR w7,w7.ownsRow e.lo 92 4 (.slice (some ⟨g7,0,none⟩) (ll+1) bR) (ll+1) (L1 i++ [.int .i64 (k:Int),b9,s9,t9])->Wb.grownBy w7 (rK i).ownBlock->((rK i).ownBlock=some g7∨g7=Wb.heap.size)->∃vC L2,EST (w7.setCell ⟨e.gl,i,none⟩ (.slice (some ⟨g7,0,none⟩) (ll+1) bR)) e n Nk vC L2 A1 (bE zQ i (zQ i++ [(k,vi*vf)])) (fun j i=>(act i/\i≠r)/\gv (A1 i) j≠0) lf (6*K+1)/\Env (w7.setCell ⟨e.gl,i,none⟩ (.slice (some ⟨g7,0,none⟩) (ll+1) bR)) (e.all n vC) n D0 A K e.eb p q fb (.slice Dr la cr) b5 s5 t5 (gv (A r) c)⁻¹ (some ⟨ob,0,none⟩) O/\V3 (w7.setCell ⟨e.gl,i,none⟩ (.slice (some ⟨g7,0,none⟩) (ll+1) bR)) (e.all n vC) N b9 s9 t9/\RO (w7.setCell ⟨e.gl,i,none⟩ (.slice (some ⟨g7,0,none⟩) (ll+1) bR)) (e.all n vC) b9 s9 t9 (vi*vf) (2*K)/\bw (e.all n rK) wr (w7.setCell ⟨e.gl,i,none⟩ (.slice (some ⟨g7,0,none⟩) (ll+1) bR))/\∀x,e.all n vC x->e.all n rK x∨wr.heap.size<=x from fun g7 bR w7 ew dR eO=>by
      have aau:nr Wb (FM e.gl n rK (e.mu n)) [(k,vi*vf)] [.int .i64 (k:Int),b9,s9,t9] (6*K+1):=fun j p hp=>by
       rcases j with _|j
       ·injection hp with hp
        subst hp;exact⟨rfl,b9,s9,t9,rfl,rfl,rfl,Ei.1.mono h6K,Ei.2.1.mono xS,Ei.2.2.mono xS⟩
       ·simp at hp
      have h1:=qA.grow hin (p:=(k,vi*vf)) aau (by rw[qB];exact ew) dR eO;have hcg:=(qA.low.grow (m:=1) hin rfl aau (by rw[qB];exact ew) dR eO).2;rw[qB]at h1 hcg;have hga:∀x,e.all n (bE rK i (.slice (some ⟨g7,0,none⟩) (ll+1) bR)) x->e.all n rK x∨Wb.heap.size<=x:=fun x hx=>ju.L0 eO hin hx;have hsz:wr.heap.size<=Wb.heap.size:=ay kS.size jd.size;have aol:RO Wb (e.all n rK) b9 s9 t9 (vi*vf) (2*K):=⟨Ei.1,Ei.2.1.mono xS,Ei.2.2.mono xS⟩;exact⟨_,_,h1,BM.step hga hcg (fun x hx=> .inl hx),V3.step ⟨ib,hNa⟩ hga hcg (fun x hx=> .inl hx),aol.step hga hcg (fun x hx=> .inl hx),((bw.of (P:=fun _=>False) (kS.trans (jd.mono kS.size))).mono (fun _ _ h=>h.elim)).trans (hcg.mono (fun x _ hx=> .inl hx)),fun x hx=>(hga x hx).imp id (fun h=>ay hsz h)⟩)
     have R8:=qA.low.fF.row;have xT:=ah R8;have rX:=ah (show¬q=e.gl/\¬e.eb=e.gl/\¬N=e.gl from⟨fun hx=>BM.q.2 (.inl (.inl hx)),qA.kC.ne qA.low.fF.row.tb (by decide),fun hx=>hNa (.inl (.inl hx))⟩);have Ab:=ah oV;have uY:=ah hnb;clear Ra Nl xS hNa jd qA BM ib Ei pP i9 R8 oV hnb kS hN9;go_upto_region 14 with fail
     go_cut [] (fun wx=>∃vC L2,EST wx e n Nk vC L2 A1 (bE zQ i (zQ i++ [(k,vi*vf)])) (fun j i=>(act i/\i≠r)/\gv (A1 i) j≠0) lf (6*K+1)/\Env wx (e.all n vC) n D0 A K e.eb p q fb (.slice Dr la cr) b5 s5 t5 (gv (A r) c)⁻¹ (some ⟨ob,0,none⟩) O/\V3 wx (e.all n vC) N b9 s9 t9/\RO wx (e.all n vC) b9 s9 t9 (vi*vf) (2*K)/\bw (e.all n rK) wr wx/\∀x,e.all n vC x->e.all n rK x∨wr.heap.size<=x)
     case first=>
      refine wp_region_held_drew (S:=(fun w'=>w'.cell? ⟨q,0,none⟩=some (.pointer (some ⟨e.eb,0,none⟩))/\w'.cell? ⟨e.eb,1,none⟩=some (.slice (some ⟨e.gl,0,none⟩) n n)/\w'.cell? ⟨N,0,none⟩=some b9/\w'.cell? ⟨N,1,none⟩=some s9/\w'.cell? ⟨N,2,none⟩=some t9)) (by kernel_rfl) (⟨q9,e9,n0,n1,n2⟩) (fun aU=>?_);refine tq 0 aU ?_;refine tq 1 aU ?_;refine tq 2 aU ?_;refine tq 3 aU ?_;refine tq 4 aU ?_;refine tq 5 aU ?_;refine tq 6 aU ?_;refine tq 7 aU ?_;refine tq 8 aU ?_;refine tq 9 aU ?_;refine tq 10 aU ?_;refine tq 12 aU ?_;refine tq 13 aU ?_;refine tq 14 aU ?_;refine wpAnyH_ready (rs:=[11,15]) (by kernel_rfl) (by simp) ?_;refine nC 11 rfl (fun κ hκ=>?_) ?_
      focus
       go_simp;refine hκ.out _ _ ?_ (fun aU=>?_)
       ·exact aU
       clear hκ κ;refine tu ?_;refine tv 15 (fun κ hκ=>?_);go_simp;(try rw[Ab.out]);(try rw[uY.out]);have k15:(fun w'=>w'.cell? ⟨q,0,none⟩=some (.pointer (some ⟨e.eb,0,none⟩))/\w'.cell? ⟨e.eb,1,none⟩=some (.slice (some ⟨e.gl,0,none⟩) n n)/\w'.cell? ⟨N,0,none⟩=some b9/\w'.cell? ⟨N,1,none⟩=some s9/\w'.cell? ⟨N,2,none⟩=some t9) Wb:=⟨qb,eb1,m0,m1,m2⟩;refine hκ.out _ _ ?_ (fun aU=>?_)
       ·exact k15
       clear hκ κ;refine tu ?_;refine tv 16 (fun κ hκ=>?_);refine step_append_lies _ rfl (.tmp 81) (.tmp 85) 40 rfl e.lo 92 _ (.agg #[.int .i64 0, .bool false, .slice none 0 0, .slice none 0 0]) 4 64 Tryz.underlying40 bT.1 bT.2.1 bT.2.2.1 bT.2.2.2 rfl (by decide) (rK i) _ _ rfl hown ⟨nb,0,none⟩ 1 1 [.int .i64 (k:Int),b9,s9,t9] rfl rfl (World.news_of_block h6) hone (by decide) (by simp only[maxLen];omega) (by omega) jR Wb.heap.size rfl ?_;intro g7 bR w7 ew dR eO kR;have c7:=bw.grown dR;have mF:=xT.out.bJ c7 jS;have x7:=mF.cell hin;have Kc:=mF.frozen i;have k16:=ai (c7.cell gV qb) (ai (c7.cell iw eb1) (ai (c7.cell ni m0) (ai (c7.cell ni m1) (c7.cell ni m2))));have sG:=ah (HG.out g7 bR w7 ew dR eO);clear ew dR eO c7 mF;refine hκ.out _ _ ?_ (fun aU=>?_)
       ·exact k16
       clear hκ κ;refine tu ?_;refine tq 17 aU ?_;refine tv 18 (fun κ hκ=>?_);go_simp;have c18:bw (fun x=>x=e.gl) w7 (w7.setCell ⟨e.gl,i,none⟩ (.slice (some ⟨g7,0,none⟩) (ll+1) bR)):=bw.set (P:=(·=e.gl)) (p:=⟨e.gl,i,none⟩) rfl _ _;have k18:=ai (c18.cell rX.out.1 aU.1) (ai (c18.cell rX.out.2.1 aU.2.1) (ai (c18.cell rX.out.2.2 aU.2.2.1) (ai (c18.cell rX.out.2.2 aU.2.2.2.1) (c18.cell rX.out.2.2 aU.2.2.2.2))));clear c18;refine hκ.out _ _ ?_ (fun aU=>?_)
       ·exact k18
       clear hκ κ;refine tu ?_;refine td ?_ _;go_wp2_with fail
       go_meet;exact sG.out
      refine nC 15 rfl (fun κ hκ=>?_) ?_
      focus
       go_simp;(try rw[Ab.out]);(try rw[uY.out]);have k15:(fun w'=>w'.cell? ⟨q,0,none⟩=some (.pointer (some ⟨e.eb,0,none⟩))/\w'.cell? ⟨e.eb,1,none⟩=some (.slice (some ⟨e.gl,0,none⟩) n n)/\w'.cell? ⟨N,0,none⟩=some b9/\w'.cell? ⟨N,1,none⟩=some s9/\w'.cell? ⟨N,2,none⟩=some t9) Wb:=⟨qb,eb1,m0,m1,m2⟩;refine hκ.out _ _ ?_ (fun aU=>?_)
       ·exact k15
       clear hκ κ;refine tu ?_;refine tv 11 (fun κ hκ=>?_);go_simp;refine hκ.out _ _ ?_ (fun aU=>?_)
       ·exact aU
       clear hκ κ;refine tu ?_;refine tv 16 (fun κ hκ=>?_);refine step_append_lies _ rfl (.tmp 81) (.tmp 85) 40 rfl e.lo 92 _ (.agg #[.int .i64 0, .bool false, .slice none 0 0, .slice none 0 0]) 4 64 Tryz.underlying40 bT.1 bT.2.1 bT.2.2.1 bT.2.2.2 rfl (by decide) (rK i) _ _ rfl hown ⟨nb,0,none⟩ 1 1 [.int .i64 (k:Int),b9,s9,t9] rfl rfl (World.news_of_block h6) hone (by decide) (by simp only[maxLen];omega) (by omega) jR Wb.heap.size rfl ?_;intro g7 bR w7 ew dR eO kR;have c7:=bw.grown dR;have mF:=xT.out.bJ c7 jS;have x7:=mF.cell hin;have Kc:=mF.frozen i;have k16:=ai (c7.cell gV qb) (ai (c7.cell iw eb1) (ai (c7.cell ni m0) (ai (c7.cell ni m1) (c7.cell ni m2))));have sG:=ah (HG.out g7 bR w7 ew dR eO);clear ew dR eO c7 mF;refine hκ.out _ _ ?_ (fun aU=>?_)
       ·exact k16
       clear hκ κ;refine tu ?_;refine tq 17 aU ?_;refine tv 18 (fun κ hκ=>?_);go_simp;have c18:bw (fun x=>x=e.gl) w7 (w7.setCell ⟨e.gl,i,none⟩ (.slice (some ⟨g7,0,none⟩) (ll+1) bR)):=bw.set (P:=(·=e.gl)) (p:=⟨e.gl,i,none⟩) rfl _ _;have k18:=ai (c18.cell rX.out.1 aU.1) (ai (c18.cell rX.out.2.1 aU.2.1) (ai (c18.cell rX.out.2.2 aU.2.2.1) (ai (c18.cell rX.out.2.2 aU.2.2.2.1) (c18.cell rX.out.2.2 aU.2.2.2.2))));clear c18;refine hκ.out _ _ ?_ (fun aU=>?_)
       ·exact k18
       clear hκ κ;refine tu ?_;refine td ?_ _;go_wp2_with fail
       go_meet;exact sG.out
      exact AllReadyH.nil
     case rest=>
      clear HG xT rX Ab uY h6 qb eb1 lb1 m0 m1 m2 hown jR gV iw jS ni FR hone y0 y1 y2 y3 y4 y5 q9 e9 l9 n0 n1 n2;obtain⟨vC,L2,sI,lP,hV3,fU,Cw,JA⟩:=hcut;have q9:=lP.q.1;have p9:=lP.p.1;have e9:=(aT wc e.eb 0 _ _ (0,0) sI.st).trans (show _=some (Value.slice (some ⟨e.gr,0,none⟩) n n)from rfl);have ri:=sI.rows.cell hin;rw[XP.out.2.2.1,R7.out.1,R7.out.2.1,R7.out.2.2]at ri;obtain⟨n0,n1,n2,-,-,-⟩:=id hV3.1;have lq:=aG wc _ q9;have lp:=aG wc _ p9;have le:=aG wc _ e9;have lr:=aG wc _ ri;have lN:=hV3.1.lt;dsimp only at lq lp le lr;have hb0:Below wc.heap.size wc wc.drew:=(aq _ _).drew;have hneg:Sz (-(vi*vf)) (2*K):=fU.1.sz.neg rfl;have hcl:∀w',Below wc.heap.size wc w'->w'.cell? ⟨q,0,none⟩=some (.pointer (some ⟨e.eb,0,none⟩))/\w'.cell? ⟨e.eb,0,none⟩=some (.slice (some ⟨e.gr,0,none⟩) n n)/\w'.cell? ⟨N,0,none⟩=some b9/\w'.cell? ⟨N,1,none⟩=some s9/\w'.cell? ⟨N,2,none⟩=some t9/\w'.cell? ⟨p,0,none⟩=some (.slice Dr la cr):=fun w' hb=>⟨(hb.cell (p:=⟨q,0,none⟩) lq).trans q9,(hb.cell (p:=⟨e.eb,0,none⟩) le).trans e9,(hb.cell (p:=⟨N,0,none⟩) lN).trans n0,(hb.cell (p:=⟨N,1,none⟩) lN).trans n1,(hb.cell (p:=⟨N,2,none⟩) lN).trans n2,(hb.cell (p:=⟨p,0,none⟩) lp).trans p9⟩;have hne:¬q=e.gr/\¬e.eb=e.gr/\¬N=e.gr/\¬p=e.gr:=⟨fun hx=>lP.q.2 (.inr (.inr (.inl hx))),sI.kC.ne sI.rows.tb (by decide),fun hx=>hV3.2 (.inr (.inr (.inl hx))),fun hx=>lP.p.2 (.inr (.inr (.inl hx)))⟩
      have hadd:∀w' b s t,Below wc.heap.size wc w'->bG w' b s t (-(vi*vf)) (2*K)->Calls Tryz.prog 118 #[.slice Di li ci, .agg #[b,s,t], .slice Dr la cr] w' (rT w' n (6*K+1) fun j=>gv (A i) j+ -(vi*vf)*gv (A r) j):=fun w' b s t hb hf=>by
       have hk2:K<=2*K:=by omega
       have ci1:=HX.out.2.2.2.1 i hin;have cr1:=HX.out.2.2.2.1 r hr;have h1:=Bv (c1:=ci) (c2:=cr) (n:=n) (M:=6*K+1) (((lP.rows i hin).below hb).mono hk2).el (((lP.rows r hr).below hb).mono hk2).el hf ci1.jF cr1.jF (by have:=ci1.len;omega) (by have:=cr1.len;omega) (by have:=ci1.len;omega) (by have:=cr1.len;omega) (by rw[<-R7.out.2.2];exact(L4.out i hin).2.1.1) (by rw[<-HE.out.2.2];exact(L4.out r hr).2.1.1) (by have:=HX.out.1;omega) (by omega) (by have:=HX.out.2.1;omega) ci1.lt cr1.lt (by omega);rw[R7.out.1,R7.out.2.1,HE.out.1,HE.out.2.1]at h1;exact h1
      have L6:=Lw (fU.1.keep hb0) (by have:=HX.out.2.1;omega) rfl;have JB:=ah hcl;have rL:=ah hne;have Vg:=ah hadd;have vw:=ah (ai sI (ai lP (ai hV3 fU)));have HCH:=ah (ai Cw JA);have mI:=ah hneg;have Yo:=ah hb0;clear hcl hne hadd sI lP hV3 fU Cw JA hneg hb0 lq lp le lN;go_upto_region 15 with fail
      go_cut [] (fun wx=>∃(D3:Option Addr) (c3:Nat) (r3:List (Nat×Rat)),Can n r3/\(∀j,gv r3 j=gv (A i) j+ -(vi*vf)*gv (A r) j)/\(r3.length<=c3/\c3<=9223372036854775807)/\EST wx e n (bE Nk i (.slice D3 r3.length c3)) vC L2 (bE A1 i r3) (bE zQ i (zQ i++ [(k,vi*vf)])) (fun j i=>(act i/\i≠r)/\gv (A1 i) j≠0) lf (6*K+1)/\Env wx (e.all n vC) n D0 A K e.eb p q fb (.slice Dr la cr) b5 s5 t5 (gv (A r) c)⁻¹ (some ⟨ob,0,none⟩) O/\bw (e.all n rK) wr wx/\∀x,e.all n vC x->e.all n rK x∨wr.heap.size<=x)
      case first=>
       refine wp_region_held_drew (S:=(fun w'=>w'.cell? ⟨q,0,none⟩=some (.pointer (some ⟨e.eb,0,none⟩))/\w'.cell? ⟨e.eb,0,none⟩=some (.slice (some ⟨e.gr,0,none⟩) n n)/\w'.cell? ⟨N,0,none⟩=some b9/\w'.cell? ⟨N,1,none⟩=some s9/\w'.cell? ⟨N,2,none⟩=some t9/\w'.cell? ⟨p,0,none⟩=some (.slice Dr la cr))) (by kernel_rfl) (JB.out _ Yo.out) (fun aU=>?_);refine tq 0 aU ?_;refine tq 1 aU ?_;refine tq 2 aU ?_;refine tq 3 aU ?_;refine tq 4 aU ?_;refine tq 5 aU ?_;refine tq 6 aU ?_;refine tq 7 aU ?_;refine tq 8 aU ?_;refine tq 9 aU ?_;refine tq 10 aU ?_;refine tq 12 aU ?_;refine tq 14 aU ?_;refine wpAnyH_ready (rs:=[11,13]) (by kernel_rfl) (by simp) ?_;refine nC 11 rfl (fun κ hκ=>?_) ?_
       focus
        go_simp;refine hκ.out _ _ ?_ (fun aU=>?_)
        ·exact aU
        clear hκ κ;refine tu ?_;refine tv 13 (fun κ hκ=>?_);go_simp;go_at_call 42;refine L6.mono ?_;rintro ret w13 ⟨b13,s13,t13,rfl,o13,g13⟩;have nB:=Yo.out.trans (g13.mono Yo.out.size);have r13:=(nB.cell (p:=⟨e.gr,i,none⟩) lr).trans ri;have Np:=ah (Vg.out w13 b13 s13 t13 nB (o13.is mI.out));have zS:=ah nB;clear o13 g13 L6 nB;go_wp2_with fail
        refine hκ.out _ _ ?_ (fun aU=>?_)
        ·exact JB.out _ zS.out
        clear hκ κ;refine tu ?_;refine tv 15 (fun κ hκ=>?_);go_simp;go_at_call 118;refine Np.out.mono ?_;rintro ret w15 ⟨v15,r15,rfl,dY,lK,qJ,g15⟩;obtain⟨D3,c3,rfl,hc3,mC⟩:=dY.sF;have kV:=zS.out.trans (g15.mono zS.out.size);have qK:=vw.out.1.below kV;have x15:=qK.rows.cell hin;have f15:=qK.rows.frozen i;have k15:=JB.out _ kV;have hset:=qK.setRow hin hc3 (mC.rw (M:=FM e.gl n vC (e.mu n)) (fun x hx=>ak (vw.out.1.lt hx).2 zS.out.size));have c15:bw (fun x=>x=e.gr) w15 (w15.setCell ⟨e.gr,i,none⟩ (.slice D3 r15.length c3)):=bw.set (P:=(·=e.gr)) (p:=⟨e.gr,i,none⟩) rfl _ _;have hM:∀x,x=e.gr->e.all n vC x:=fun x hx=> .inr (.inr (.inl hx));have Wv:=ah (ai lK (ai qJ (ai hc3 (ai hset (ai ((vw.out.2.1.below kV).bJ c15 hM) (ai (HCH.out.1.trans (((bw.of (P:=fun _=>False) kV).mono (fun _ _ h=>h.elim)).trans (c15.mono (fun x _ hx=> .inr (.inr (.inl hx)))))) HCH.out.2))))));have rM:=ah c15;clear dY mC qK hset c15 hM lK qJ g15 kV;go_wp2_with fail
        refine hκ.out _ _ ?_ (fun aU=>?_)
        ·exact k15
        clear hκ κ;refine tu ?_;refine tq 16 aU ?_;refine tv 17 (fun κ hκ=>?_);go_simp;have k17:=ai (rM.out.cell rL.out.1 aU.1) (ai (rM.out.cell rL.out.2.1 aU.2.1) (ai (rM.out.cell rL.out.2.2.1 aU.2.2.1) (ai (rM.out.cell rL.out.2.2.1 aU.2.2.2.1) (ai (rM.out.cell rL.out.2.2.1 aU.2.2.2.2.1) (rM.out.cell rL.out.2.2.2 aU.2.2.2.2.2)))));refine hκ.out _ _ ?_ (fun aU=>?_)
        ·exact k17
        clear hκ κ;refine tu ?_;refine td ?_ _;go_wp2_with fail
        go_meet;exact⟨D3,c3,r15,Wv.out⟩
       refine nC 13 rfl (fun κ hκ=>?_) ?_
       focus
        go_simp;go_at_call 42;refine L6.mono ?_;rintro ret w13 ⟨b13,s13,t13,rfl,o13,g13⟩;have nB:=Yo.out.trans (g13.mono Yo.out.size);have r13:=(nB.cell (p:=⟨e.gr,i,none⟩) lr).trans ri;have Np:=ah (Vg.out w13 b13 s13 t13 nB (o13.is mI.out));have zS:=ah nB;clear o13 g13 L6 nB;go_wp2_with fail
        refine hκ.out _ _ ?_ (fun aU=>?_)
        ·exact JB.out _ zS.out
        clear hκ κ;refine tu ?_;refine tv 11 (fun κ hκ=>?_);go_simp;refine hκ.out _ _ ?_ (fun aU=>?_)
        ·exact aU
        clear hκ κ;refine tu ?_;refine tv 15 (fun κ hκ=>?_);go_simp;go_at_call 118;refine Np.out.mono ?_;rintro ret w15 ⟨v15,r15,rfl,dY,lK,qJ,g15⟩;obtain⟨D3,c3,rfl,hc3,mC⟩:=dY.sF;have kV:=zS.out.trans (g15.mono zS.out.size);have qK:=vw.out.1.below kV;have x15:=qK.rows.cell hin;have f15:=qK.rows.frozen i;have k15:=JB.out _ kV;have hset:=qK.setRow hin hc3 (mC.rw (M:=FM e.gl n vC (e.mu n)) (fun x hx=>ak (vw.out.1.lt hx).2 zS.out.size));have c15:bw (fun x=>x=e.gr) w15 (w15.setCell ⟨e.gr,i,none⟩ (.slice D3 r15.length c3)):=bw.set (P:=(·=e.gr)) (p:=⟨e.gr,i,none⟩) rfl _ _;have hM:∀x,x=e.gr->e.all n vC x:=fun x hx=> .inr (.inr (.inl hx));have Wv:=ah (ai lK (ai qJ (ai hc3 (ai hset (ai ((vw.out.2.1.below kV).bJ c15 hM) (ai (HCH.out.1.trans (((bw.of (P:=fun _=>False) kV).mono (fun _ _ h=>h.elim)).trans (c15.mono (fun x _ hx=> .inr (.inr (.inl hx)))))) HCH.out.2))))));have rM:=ah c15;clear dY mC qK hset c15 hM lK qJ g15 kV;go_wp2_with fail
        refine hκ.out _ _ ?_ (fun aU=>?_)
        ·exact k15
        clear hκ κ;refine tu ?_;refine tq 16 aU ?_;refine tv 17 (fun κ hκ=>?_);go_simp;have k17:=ai (rM.out.cell rL.out.1 aU.1) (ai (rM.out.cell rL.out.2.1 aU.2.1) (ai (rM.out.cell rL.out.2.2.1 aU.2.2.1) (ai (rM.out.cell rL.out.2.2.1 aU.2.2.2.1) (ai (rM.out.cell rL.out.2.2.1 aU.2.2.2.2.1) (rM.out.cell rL.out.2.2.2 aU.2.2.2.2.2)))));refine hκ.out _ _ ?_ (fun aU=>?_)
        ·exact k17
        clear hκ κ;refine tu ?_;refine td ?_ _;go_wp2_with fail
        go_meet;exact⟨D3,c3,r15,Wv.out⟩
       exact AllReadyH.nil
      case rest=>
       clear Vg vw HCH mI Yo JB rL q9 p9 e9 ri n0 n1 n2 lr L6;obtain⟨D3,c3,r3,lK,qJ,hc3,Ww,yg,aew,aex⟩:=hcut;have p3:=yg.p.1;have XL:=yg.rows r hr;rw[HE.out.2.1]at XL;have aey:=Gw (i:=i) (p:=p) (q:=q) (c:=cr) (D:=Dr) (row:=A r) Ww hn (by rw[HE.out.1];exact p3) yg.q.1 yg.q.2 XL (HX.out.2.2.2.1 r hr);have H3:=ah (ai lK (ai qJ (ai hc3 (ai yg (ai aew aex)))));have rB:=ah (show∀x,e.all n vC x->x<wc.heap.size from fun x hx=>(Ww.lt hx).2);clear lK qJ hc3 Ww yg aew aex p3 XL;go_wp2_with fail
       refine aey.mono ?_;rintro ret w16 ⟨rfl,Cx,Nq⟩;clear aey;have zT:=H3.out.2.2.2.1.bJ Nq (fun _ h=> .inr h);have e9:=(aT w16 e.eb 0 _ _ (0,0) Cx.st).trans (show _=some (Value.slice (some ⟨e.gr,0,none⟩) n n)from rfl);have ri:=Cx.rows.cell hin;rw[aW]at ri
       have Q8:RW w16 (FM e.gl n vC (e.mu n)) D3 r3 (6*K+1):=by
        obtain⟨D,c,h1,_,h3⟩:=Cx.rws i hin;rw[aW,aW]at h1;rw[aW]at h3;injection h1 with h1 _ _
        rw[h1];exact h3
       obtain⟨l3,el3⟩:=xeq r3.length;rw[el3]at ri;have auf:l3<=12:=by have:=H3.out.1.len;omega
       have q9:=zT.q.1;have lq:=aG w16 _ q9;dsimp only at lq;have HQA:=ah zT.q.2;have HQ9:=ah q9;have Wx:=ah el3;have HR3:=ah Q8;have aez:=ah (ai zT Nq);have SN:=Cx.jv (Q':=fun j x=>(((act x/\x≠r)/\gv (A1 x) j≠0)/\¬(x=i/\gv (A r) j≠0))∨(x=i/\∃a,a<0/\∃p,r3[a]?=some p/\p.1=j)) (fun j _ x=>⟨.inl,fun h=>h.elim id (fun⟨_,a,ha,_⟩=>absurd ha (by omega))⟩);have HST:=ah SN;clear Cx SN zT Nq Q8 el3;go_wp2_with fail
       clear q9 e9 ri;obtain⟨wo,rfl⟩:∃wo,wo=wr:=⟨_,rfl⟩
       go_loopw [116] (fun t wq=>∃y:Nat,y<=l3/\t= .int .i64 (y:Int)/\EST wq e n (bE Nk i (.slice D3 r3.length c3)) vC L2 (bE A1 i r3) (bE zQ i (zQ i++ [(k,vi*vf)])) (fun j x=>(((act x/\x≠r)/\gv (A1 x) j≠0)/\¬(x=i/\gv (A r) j≠0))∨(x=i/\∃a,a<y/\∃p,r3[a]?=some p/\p.1=j)) lf (6*K+1)/\bw (e.mu n) w16 wq) (fun t _=>l3- (intOf t).toNat)
       case atStart=>exact⟨0,aF _,rfl,HST.out,bw.refl _ _⟩
       case round=>
        clear HST;obtain⟨y,hy,rfl,hes,hcc⟩:=hrel
        by_cases hly:y<l3
        ·have hel:=(HR3.out.bJ hcc (fun _ h=> .inr h)).el;obtain⟨pp,hpq⟩:∃p,r3[y]?=some p:=⟨r3[y]'(by have:=Wx.out;omega),aB _⟩;obtain⟨xb,xo,rfl,hxl,hxc⟩:=hel (by have:=Wx.out;omega);obtain⟨e0,y1,y2,y3,e1,e2,e3,tD⟩:=hxc y pp hpq;obtain⟨s0,s1,s2⟩:=tD.st;have jB:=H3.out.1.lt pp (aD hpq);obtain⟨pi,pR⟩:=xeq pp.1;rw[pR]at e0 jB;have v4:(0:Int)<=(y:Int):=by omega
         have v5:(y:Int)<l3:=by omega
         have v6:(0:Int)<=(pi:Int):=by omega
         have v7:(pi:Int)<n:=by omega
         have bo:=bI wr (.cells #[.int .i64 (pi:Int),y1,y2,y3] 92);have i5:=Cr.new wr (.int .i64 (pi:Int)) y1 y2 y3;obtain⟨wb,gh⟩:=xeq (wr.alloc (.cells #[.int .i64 (pi:Int),y1,y2,y3] 92));obtain⟨Ne,fG⟩:=xeq wr.heap.size;rw[gh]at bo i5;rw[fG]at i5;have bz:=bo.trans ((aq wb.heap.size wb).drew.mono bo.size);have gZ:=hes.below bz;have zq:wb.drew.cell? ⟨q,0,none⟩=some (.pointer (some ⟨e.eb,0,none⟩)):=(bz.cell (p:=⟨q,0,none⟩) (ak lq hcc.size)).trans (hcc.cell (fun h=>HQA.out (.inr h)) HQ9.out);have z0:wb.drew.cell? ⟨e.eb,2,none⟩=some (.slice (some ⟨e.gi,0,none⟩) n n):=(aT wb.drew e.eb 2 _ _ (0,0) gZ.st).trans rfl;have z1:wb.drew.cell? ⟨Ne,0,none⟩=some (.int .i64 (pi:Int)):=i5.c0;have z2:=gZ.maps.cell jB;obtain⟨w7',hrun,wV,C4⟩:=(gZ.sm pi jB).add (i:=i);have Cu:=gZ.Ed jB C4 wV;have m1:¬e.eb=e.mj pi:=(gZ.sm pi jB).nt gZ.kC;have m2:¬e.gi=e.mj pi:=(gZ.sm pi jB).nt gZ.maps.tb;have m3:¬Ne=e.mj pi:=fun e=>by have:=(hes.sm pi jB).lt;omega
         have m4:¬q=e.mj pi:=fun e=>HQA.out (.inr (.inr (.inr (.inr (.inr ⟨pi,jB,e.symm⟩)))))
         have Cv:=Cu.jv (Q':=fun j x=>(((act x/\x≠r)/\gv (A1 x) j≠0)/\¬(x=i/\gv (A r) j≠0))∨(x=i/\∃a,a<y+1/\∃p,r3[a]?=some p/\p.1=j)) (fun j _ x=>by
          by_cases e:j=pi
          ·subst e;rw[aW];constructor
           ·rintro((h|⟨h,a,ha,h2⟩)|rfl)
            ·exact .inl h
            ·exact .inr ⟨h,a,by omega,h2⟩
            ·exact .inr ⟨rfl,y,by omega,pp,hpq,pR⟩
           ·rintro(h|⟨rfl,_⟩)
            ·exact .inl (.inl h)
            ·exact .inr rfl
          ·rw[bk _ _ e];constructor
           ·rintro(h|⟨h,a,ha,h2⟩)
            ·exact .inl h
            ·exact .inr ⟨h,a,by omega,h2⟩
           ·rintro(h|⟨h,a,ha,p2,h2,h3⟩)
            ·exact .inl h
            ·refine .inr ⟨h,a,?_,p2,h2,h3⟩;rcases aN a y with h4|h4
             ·exact h4
             ·obtain rfl:a=y:=by omega
              rw[hpq]at h2;injection h2 with h2
              exact absurd (by rw[<-h3,<-h2];exact pR) e)
         have HR8:=ah (ai Cv (hcc.trans (((bw.of (P:=fun _=>False) bz).mono (fun _ _ h=>h.elim)).trans (C4.mono (fun x _ (hx:x=e.mj pi)=> .inr (.inr (.inr (.inr ⟨pi,jB,hx.symm⟩))))))));have lC:=ah gh;have ny:=ah fG;have ye:=ah C4;clear hel hxc tD hes hcc bo bz gZ C4 wV Cu Cv i5 gh fG pR hpq;go_upto_region 20 with fail
         (try rw[lC.out]);(try rw[ny.out]);clear e0 e1 e2 e3;refine wp_region_held_drew (S:=(fun w'=>w'.cell? ⟨q,0,none⟩=some (.pointer (some ⟨e.eb,0,none⟩))/\w'.cell? ⟨e.eb,2,none⟩=some (.slice (some ⟨e.gi,0,none⟩) n n)/\w'.cell? ⟨Ne,0,none⟩=some (.int .i64 (pi:Int))/\w'.cell? ⟨e.gi,pi,none⟩=some (.map (some (e.mj pi))))) (by kernel_rfl) (⟨zq,z0,z1,z2⟩) (fun aU=>?_);refine tq 0 aU ?_;refine tq 1 aU ?_;refine tq 2 aU ?_;refine tq 3 aU ?_;refine tq 4 aU ?_;refine tq 5 aU ?_;refine tq 6 aU ?_;refine tq 7 aU ?_;refine tq 8 aU ?_;refine tv 9 (fun κ hκ=>?_);go_simp;refine hκ.out _ _ ?_ (fun aU=>?_)
         ·exact⟨ye.out.cell m4 zq,ye.out.cell m1 z0,ye.out.cell m3 z1,ye.out.cell m2 z2⟩
         clear hκ κ;refine tu ?_;refine td ?_ _;clear aU z0 z1 z2 zq hrun ye;go_wp2_with fail
         go_roundw
         case rel=>exact⟨y+1,by omega,by go_num,HR8.out⟩
         case measure=>simp[intOf];omega
        ·obtain rfl:l3=y:=by omega
         have hz:=hes.jv (Q':=fun j x=>(act x/\x≠r)/\gv (bE A1 i r3 x) j≠0) (fun j _ x=>by
          have h9:gv r3 j≠0↔∃a,a<l3/\∃p,r3[a]?=some p/\p.1=j:=by
           rw[H3.out.1.gv];constructor
           ·rintro⟨p,hp,h4⟩;obtain⟨a,ha⟩:=aJ hp;exact⟨a,by have:=(aC.1 ha).1;have:=Wx.out;omega,p,ha,h4⟩
           ·rintro⟨a,ha,p,hp,h4⟩;exact⟨p,aD hp,h4⟩
          rw[<-h9]
          by_cases e1:x=i
          ·subst e1;rw[aW];constructor
           ·rintro(⟨⟨h1,h2⟩,h3⟩|⟨_,h2⟩)
            ·refine⟨h1,?_⟩;have h4:gv (A r) j=0:=Classical.byContradiction fun h=>h3 ⟨rfl,h⟩;rw[H3.out.2.1,h4,<-XP.out.1,Rat.mul_zero,Rat.add_zero];exact h2
            ·exact⟨⟨XP.out.2.2.2.1.1,XP.out.2.2.2.2.1⟩,h2⟩
           ·rintro⟨_,h2⟩;exact .inr ⟨rfl,h2⟩
          ·rw[bk _ _ e1];constructor
           ·rintro(⟨h1,_⟩|⟨h1,_⟩)
            ·exact h1
            ·exact absurd h1 e1
           ·exact fun h=> .inl ⟨h,fun h2=>e1 h2.1⟩)
         have SQ:=Vf.out;have T6:O.take (m+1)=O.take m++ [i]:=by rw[List.take_add_one,hi];rfl
         have hsz:w.heap.size<=wo.heap.size:=SQ.bJ.size
         have HZ:=ah (show SG w wr e n k r c act A Ls Vl lf K O D0 c0 p q fb (.slice Dr la cr) b5 s5 t5 (some ⟨ob,0,none⟩) (m+1) (bE Nk i (.slice D3 r3.length c3)) vC L2 (bE A1 i r3) (bE zQ i (zQ i++ [(k,vi*vf)]))from by
          refine⟨hz,aez.out.1.bJ hcc (fun _ h=> .inr h),fun x hx=>?_,fun x hx=>?_,fun x hx Tz=>?_,?_,fun x hx=>?_⟩
          ·by_cases e1:x=i
           ·subst e1;rw[aW];exact H3.out.1
           ·rw[bk _ _ e1];exact SQ.can x hx
          ·rw[T6]at hx
           by_cases e1:x=i
           ·subst e1;rw[aW,aW];refine⟨fun j=>?_,?_⟩
            ·rw[H3.out.2.1,<-HEV.out.1,<-HEV.out.2,Rat.neg_mul,Rat.sub_eq_add_neg]
            ·rw[XP.out.2.1,<-HEV.out.1,<-HEV.out.2]
           ·rw[bk _ _ e1,bk _ _ e1];rcases List.mem_append.1 hx with h1|h1
            ·exact SQ.don x h1
            ·simp at h1;exact absurd h1 e1
          ·rw[T6]at Tz;have e1:x≠i:=fun e1=>Tz (by simp[e1]);rw[bk _ _ e1,bk _ _ e1,bk _ _ e1];exact SQ.old x hx (fun h1=>Tz (List.mem_append.2 (.inl h1)))
          ·have h1:bw (e.all n Vl) w wc:=SQ.bJ.Wt H3.out.2.2.2.2.1 SQ.blk;have h2:bw (e.mu n) wc wr:=aez.out.2.trans hcc;exact h1.trans (h2.mono (fun _ _ h=> .inr h))
          ·rcases H3.out.2.2.2.2.2 x hx with h1|h1
           ·exact SQ.blk x h1
           ·exact .inr (ay hsz h1))
         clear hz hes hcc SQ;go_wp2_with fail
         go_roundw
         case rel=>exact⟨m+1,_,_,_,_,_,by omega,by go_num,HZ.out⟩
         case measure=>simp[intOf];omega
   ·obtain rfl:lO=m:=by omega
    have HZ:=ah hs;clear hs;go_wp2_with fail
    refine bodyPost_end (v:= .tuple #[]) (by simp[results,Tryz.results84,go_sem]) rfl ⟨rfl,Nk,rK,L1,A1,zQ,HZ.out.st,HZ.out.can,fun i hi=>⟨fun hh=>HZ.out.don i ?_,fun hh=>?_⟩,HZ.out.bJ,HZ.out.blk⟩
    ·rw[<-ELO.out,List.take_length,HO.out.2,HQ.out c i hc];exact⟨⟨hh.1,hh.2.2⟩,fun h2=>hh.2.1 h2.1⟩
    ·have h1:=HZ.out.old i hi (fun h2=>by
      rw[<-ELO.out,List.take_length,HO.out.2,HQ.out c i hc]at h2;exact hh ⟨h2.1.1,fun e1=>h2.2 ⟨e1,HX.out.2.2.1⟩,h2.1.2⟩)
     exact⟨h1.1,h1.2.1⟩
end Go.Proofs.YtkmpoleajjgfaaaGreat
namespace Go.Proofs.YtkmpoleajjgfaaaGreat
open Go.RowKit Gm Gd
theorem Can.tail{n:Nat}{p:Nat×Rat}{l:List (Nat×Rat)}(h:Can n (p::l)):Can n l/\∀q∈l,p.1<q.1:=
 ⟨⟨h.jF.tail.1,fun q hq=>h.lt q (by simp[hq]),fun q hq=>h.ne q (by simp[hq])⟩,h.jF.tail.2⟩
theorem Sb{n:Nat}(x:Nat->Rat):∀{l:List (Nat×Rat)},(∀p∈l,p.1<n)->S n (fun j=>gv l j*x j)=LS x l
 |[],_=>by
  show S n (fun j=>0*x j)=0
  rw[cT (g:=fun _=>0) (fun _ _=>by grind),pN]
 |p::l,h=>by
  have hp:=h p (by simp)
  show S n (fun j=>((if p.1=j then p.2 else 0)+gv l j)*x j)=p.2*x p.1+LS x l
  rw[cT (g:=fun j=>dl j p.1* (p.2*x j)+gv l j*x j) (fun j _=>by
   by_cases e:p.1=j
   ·subst e;rw[if_pos rfl,gQ];grind
   ·rw[if_neg e,je (fun e2=>e e2.symm)];grind),xU,sH _ hp,Sb x fun q hq=>h q (by simp[hq])]
theorem mX{b:Nat}:∀{l:List (Nat×Rat)} {a:Nat},jo l->(∀p∈l,a<=p.1/\p.1<b)->a<=b->a+l.length<=b
 |[],a,_,_,h=>by simpa using h
 |p::l,a,hs,hl,_=>by
  obtain⟨h1,h2⟩:=hs.tail;obtain⟨h3,h4⟩:=hl p (by simp);have:=mX (a:=a+1) h1 (fun q hq=>⟨by have:=h2 q hq;omega,(hl q (by simp[hq])).2⟩) (by omega);simp only[List.length_cons];omega
theorem jo.ofP{l:List (Nat×Rat)}(h:l.Pairwise (fun a b=>a.1<b.1)):jo l:=fun a b p q hab hp hq=>by
 have ha:=(aC.1 hp);have hb:=(aC.1 hq);obtain⟨h1,rfl⟩:=ha;obtain⟨h2,rfl⟩:=hb;exact List.pairwise_iff_getElem.1 h a b h1 h2 hab
structure Eo(n:Nat)(M:Nat->Nat->Rat)(rs cs:Nat->Nat)(lo up:Nat->List (Nat×Rat)):Prop where
 Gz:∀q,q<n->rs q<n
 El:∀q,q<n->cs q<n
 zo:∀p q,p<n->q<n->rs p=rs q->p=q
 wL:∀p q,p<n->q<n->cs p=cs q->p=q
 Ep:∀i,i<n->Can i (lo i)
 IE:∀i,i<n->Can n (up i)/\∃d t,up i=(i,d)::t/\d≠0
 solve:∀b z y x:Nat->Rat,(∀i,i<n->z i=b (rs i) -LS z (lo i))->(∀i,i<n->LS y (up i)=z i)->(∀i,i<n->x (cs i)=y i)->∀i,i<n->S n (fun j=>M i j*x j)=b i
theorem Eo.of{n:Nat}{M:Nat->Nat->Rat}{rs cs:Nat->Nat}{R:Nat->Nat->Rat}{Ls up:Nat->List (Nat×Rat)}(h:EI n M n rs cs R Ls)(hu:∀i,i<n->Can n (up i)/\∀p,p<n->gv (up i) p=R (rs i) (cs p)):Eo n M rs cs (fun i=>Ls (rs i)) up where
 Gz:=h.Gz
 El:=h.El
 zo:=h.zo
 wL:=h.wL
 Ep:=fun i hi=>⟨jo.ofP (h.jF _ (h.Gz i hi)),fun p hp=>(h.lo _ (h.Gz i hi) p hp).2 i hi rfl,h.nz _ (h.Gz i hi)⟩
 IE:=fun i hi=>by
  obtain⟨h1,h2⟩:=hu i hi;refine⟨h1,?_⟩;have hd:gv (up i) i≠0:=by rw[h2 i hi];exact h.piv i hi
  obtain⟨p,hp,hpi⟩:=(h1.gv i).1 hd
  cases hl:up i with
  |nil=>rw[hl]at hp;simp at hp
  |cons q t=>
   rw[hl]at hp h1;obtain⟨h3,h4⟩:=h1.tail;have hq:=h1.lt q (by simp)
   have hqi:¬q.1<i:=fun hlt=>by
    have:=(h1.gv q.1).2 ⟨q,by simp,rfl⟩;rw[<-hl,h2 _ hq]at this;exact this (h.pelim i hi _ hlt)
   have e:q.1=i:=by
    rcases List.mem_cons.1 hp with rfl|hp
    ·exact hpi
    ·have:=h4 p hp;omega
   exact⟨q.2,t,by rw[<-e],h1.ne q (by simp)⟩
 solve:=fun b z y x hz hy hx=>h.solve hz (fun i hi=>by
  rw[<-hy i hi,<-Sb (n:=n) y (fun p hp=>(hu i hi).1.lt p hp)];exact cT fun p hp=>by rw[(hu i hi).2 p hp]) hx
end Go.Proofs.YtkmpoleajjgfaaaGreat
namespace Go.Proofs.YtkmpoleajjgfaaaGreat
open Go.RowKit Gm Go.Sort Go.Shelf
def NE(w:World)(k:Nat):Prop:=∀o v,w.cell? ⟨k,o,none⟩=some v->(∀z,v≠ .int .u32 z)/\∀p,v≠ .bool p
theorem NE.of{w:World}{k:Nat}{cs:Array Value}{T:TypeId}{fz:Nat×Nat}(h:w.heap[k]?=some (.cells cs T fz))(hc:∀(i:Nat) (v:Value),cs[i]?=some v->(∀z,v≠ .int .u32 z)/\∀p,v≠ .bool p):NE w k:=fun o v hv=>by
 rw[aT w k _ _ _ fz h]at hv;exact hc o v hv
theorem cC.ne{w:World}{g n:Nat}{f:Nat->Int}(h:cC w g n f):NE w g:=NE.of h fun i v hv=>by
 have hi:i<n:=by have:=(au.1 hv).1;simpa [cQ] using this
 rw[mN hi]at hv;injection hv with hv
 subst hv;exact⟨fun z e=>(by injection e with e;cases e),fun p e=>(by cases e)⟩
theorem dm.ne{w:World}{g n:Nat}{T:TypeId}{V:Nat->Value}(h:dm w g T n V)(hv:∀i,i<n->∃D l c,V i= .slice D l c):NE w g:=NE.of h fun i v hc=>by
 have hi:i<n:=by have:=(au.1 hc).1;simpa using this
 rw[List.getElem?_toArray,List.getElem?_map,List.getElem?_range hi]at hc;injection hc with hc
 subst hc;obtain⟨D,l,c,e⟩:=hv i hi;rw[e];exact⟨fun z e=>(by cases e),fun p e=>(by cases e)⟩
section
variable {w w':World}{M M' P Q:Nat->Prop}{D:Option Addr}{l:List (Nat×Rat)}{K n:Nat}
theorem bQ.XQ{A:Option Addr}{c:Nat}{xs:List Nat}(h:bQ w A c xs)(hp:∀k,P k->NE w k):Av P (.slice A xs.length c):=fun A' m c' e h0 hP=>by
 injection e with e1 e2 e3
 subst e2;obtain⟨b,off,e4,hlt,hd⟩:=h.cells h0;rw[e1]at e4;injection e4 with e4
 subst e4;exact(hp _ hP _ _ (hd 0 h0)).1 _ rfl
theorem bG.XQ{b s t:Value}{r:Rat}(h:bG w b s t r K)(hp:∀k,P k->NE w k):Av P s/\Av P t:=by
 obtain⟨p,A,xs,c,B,ys,d,rfl,rfl,rfl,ha,hb,hs,ht,h3,hr⟩:=h;exact⟨ha.XQ hp,hb.XQ hp⟩
theorem En.ok.add{x:En}(h:x.ok w M K)(hp:∀k,P k->NE w k):x.ok w (fun k=>M k∨P k) K:=by
 obtain⟨h1,h2,h3⟩:=h;obtain⟨a1,a2⟩:=h1.XQ hp;exact⟨h1,h2.or a1,h3.or a2⟩
theorem RW.add(h:RW w M D l K)(hp:∀k,P k->NE w k):RW w (fun k=>M k∨P k) D l K:=fun h0=>by
 obtain⟨N,f,rfl,h1,h2,h3,h4,h5⟩:=h h0;refine⟨N,f,rfl,fun hm=>?_,h2,h3,fun i hi=>(h4 i hi).add hp,h5⟩;rcases hm with hm|hm
 ·exact h1 hm
 ·exact(hp N hm _ _ (h5 0 h0).1.2.1).2 _ rfl
theorem RW.sub(h:RW w M D l K)(hm:∀k,M' k->M k):RW w M' D l K:=h.wide fun k hk=> .inl (hm k hk)
theorem nr.add{xs:List Value}(h:nr w M l xs K)(hp:∀k,P k->NE w k):nr w (fun k=>M k∨P k) l xs K:=fun i p hi=>by
 obtain⟨h1,x,y,z,h2,h3,h4,h5,h6,h7⟩:=h i p hi;obtain⟨a1,a2⟩:=h5.XQ hp;exact⟨h1,x,y,z,h2,h3,h4,h5,h6.or a1,h7.or a2⟩
theorem EST.wO{e:ju}{Vr Vl:Nat->Value}{L:Nat->List Value}{A Ls:Nat->List (Nat×Rat)}{R:Nat->Nat->Prop}{lf:List Nat}(h:EST w e n Vr Vl L A Ls R lf K)(hc:bw P w w')(hp:∀k,e.all n Vl k->¬P k)(hq:∀k,P k->NE w k):EST w' e n Vr Vl L A Ls R lf K where
 st:=(hc.block _ h.kC.lt (hp _ (.inr (.inl rfl)))).trans h.st
 rows:=h.rows.bJ hc (hp _ (.inr (.inr (.inl rfl))))
 rws:=fun i hi=>by
  obtain⟨D,c,h1,h2,h3⟩:=h.rws i hi;exact⟨D,c,h1,h2,((h3.add hq).bJ hc (fun _ h=> .inr h)).sub (fun _ h=> .inl h)⟩
 low:=⟨h.low.fF.bJ hc (fun k hk=>hp k (.inl hk)),fun i hi=>(((h.low.ent i hi).add hq).bJ hc (fun _ h=> .inl (.inr h))).wide (fun _ h=> .inl (.inl h))⟩
 maps:=h.maps.bJ hc (hp _ (.inr (.inr (.inr (.inl rfl)))))
 sm:=fun j hj=>(h.sm j hj).bJ hc (hp _ (.inr (.inr (.inr (.inr (.inr ⟨j,hj,rfl⟩))))))
 mi:=h.mi
 lf:=by
  obtain⟨cs,h1,h2⟩:=h.lf;exact⟨cs,(hc.block _ h.pS.lt (hp _ (.inr (.inr (.inr (.inr (.inl rfl))))))).trans h1,h2⟩
 rl:=h.rl
 lo:=h.lo
theorem Qd{lo:Nat}{v:Value}{xs:List Value}(ho:w.ownsRow lo 92 4 v l.length xs)(he:nr w Q l xs K):∃D c,v= .slice D l.length c/\(l.length<=c/\c<=9223372036854775807)/\
 (0<l.length->∃N,∃f:Nat->En,D=some ⟨N,0,none⟩/\v.ownBlock=some N/\N<w.heap.size/\dh l.length f=l/\(∀i,i<l.length->(f i).ok w Q K)/\fP w N 0 l.length f):=by
 have hcl:=fun g=> @World.ownsRow.cells _ _ _ _ _ _ _ ho g
 have hx:∀i,∃x:En,i<l.length->l[i]?=some x.p/\x.ok w Q K/\xs[i*4]?=some (.int .i64 (x.i:Int))/\xs[i*4+1]?=some (.bool x.b)/\xs[i*4+2]?=some (.slice x.A x.n x.c)/\xs[i*4+3]?=some (.slice x.B x.m x.d):=fun i=>by
  by_cases hi:i<l.length
  ·have hp:l[i]?=some l[i]:=aB hi;obtain⟨c0,x,y,z,c1,c2,c3,hr,a1,a2⟩:=he i _ hp;obtain⟨p,A,xs,c,B,ys,d,rfl,rfl,rfl,hrest⟩:=id hr;exact⟨⟨l[i].1,l[i].2,p,A,xs.length,c,B,ys.length,d⟩,fun _=>⟨hp,⟨hr,a1,a2⟩,c0,c1,c2,c3⟩⟩
  ·exact⟨default,fun h=>absurd h hi⟩
 obtain⟨f,hf⟩:=Classical.axiomOfChoice hx;obtain⟨h1,⟨rfl,h0⟩|⟨g,cap,cur,rfl,hb,hh,hc,hm,_⟩⟩:=ho
 ·exact⟨none,0,by rw[h0],by omega,fun h=>by omega⟩
 ·refine⟨_,cap,rfl,⟨hc,hm⟩,fun h0=>⟨g,f,rfl,rfl,(au.1 hh).1,?_,fun i hi=>(hf i hi).2.1,fun i hi=>?_⟩⟩
  ·apply List.ext_getElem?;intro i
   by_cases hi:i<l.length
   ·rw[dA hi,(hf i hi).1]
   ·rw[aQ (by rw[cN];omega),aQ (by omega)]
  ·obtain⟨_,_,k0,k1,k2,k3⟩:=hf i hi;have a0:=hcl g rfl _ _ k0;have a1:=hcl g rfl _ _ k1;have a2:=hcl g rfl _ _ k2;have a3:=hcl g rfl _ _ k3;rw[ow]at a0 a1 a2 a3;have hz:∀k,w.frozen? ⟨g,k,none⟩=false:=fun k=>by simp[World.frozen?,hh]
   rw[Nat.zero_add];exact⟨⟨a0,a1,a2,a3⟩,hz _,hz _,hz _,hz _⟩
theorem Qe{lo:Nat}{v:Value}{xs:List Value}(ho:w.ownsRow lo 92 4 v l.length xs)(he:nr w Q l xs K)(hM:∀k,M k->Q k)(hv:∀k,v.ownBlock=some k->¬M k):∃D c,v= .slice D l.length c/\(l.length<=c/\c<=9223372036854775807)/\RW w M D l K:=by
 obtain⟨D,c,h1,h2,h3⟩:=Qd ho he;refine⟨D,c,h1,h2,fun h0=>?_⟩;obtain⟨N,f,h4,h5,h6,h7,h8,h9⟩:=h3 h0;exact⟨N,f,h4,hv N h5,h6,h7,fun i hi=>(h8 i hi).wide (fun k hk=> .inl (hM k hk)),h9⟩
end
def sk(K:Nat):Nat->Nat
 |0=>K
 |k+1=>6*sk K k+1
theorem BR(K:Nat){k n:Nat}(h:k<=n):sk K k<=sk K n:=by
 induction n with
 |zero=>rw[Nat.le_zero.1 h];exact aj _
 |succ n ih=>
  rcases aN k (n+1)with h1|h1
  ·have:=ih (by omega);show _<=6*sk K n+1;omega
  ·rw[show k=n+1 by omega];exact aj _
structure Sc(w:World)(v:Value)(n:Nat)(rs cs:Nat->Nat)(lo up:Nat->List (Nat×Rat))(K:Nat):Prop where
 ex:∃gR gC DL DU cL cU,v= .agg #[.slice (some ⟨gR,0,none⟩) n n, .slice (some ⟨gC,0,none⟩) n n, .int .i64 (n:Int), .int .i64 (n:Int), .slice DL n cL, .int .i64 (n:Int), .int .i64 (n:Int), .slice DU n cU]/\
  cC w gR n (fun i=>(rs i:Int))/\cC w gC n (fun i=>(cs i:Int))/\ML w DL n (fun i=>lo i++ [(i,1)]) K/\ML w DU n up K
theorem Sc.below{w w':World}{v:Value}{n:Nat}{rs cs:Nat->Nat}{lo up:Nat->List (Nat×Rat)}{K:Nat}(h:Sc w v n rs cs lo up K)(hb:Below w.heap.size w w'):Sc w' v n rs cs lo up K:=by
 obtain⟨gR,gC,DL,DU,cL,cU,e,h1,h2,h3,h4⟩:=h.ex;exact⟨gR,gC,DL,DU,cL,cU,e,h1.below hb h1.lt,h2.below hb h2.lt,h3.below hb,h4.below hb⟩
structure FSt(w:World)(n bF gR gC gP gL gU:Nat)(rs cs pl:Nat->Nat):Prop where
 f:w.heap[bF]?=some (.cells #[.slice (some ⟨gR,0,none⟩) n n, .slice (some ⟨gC,0,none⟩) n n, .int .i64 (n:Int), .int .i64 (n:Int), .slice (some ⟨gL,0,none⟩) n n, .int .i64 (n:Int), .int .i64 (n:Int), .slice (some ⟨gU,0,none⟩) n n] 96 (0,0))
 r:cC w gR n (fun i=>(rs i:Int))
 c:cC w gC n (fun i=>(cs i:Int))
 p:cC w gP n (fun i=>(pl i:Int))
 d:gR≠gC/\gR≠gP/\gC≠gP
theorem cC.tb{w:World}{g n:Nat}{f:Nat->Int}(h:cC w g n f):TB w g 3:=⟨_,h⟩
section
variable {w w':World}{n bF gR gC gP gL gU:Nat}{rs cs pl:Nat->Nat}{P:Nat->Prop}
theorem FSt.tb(h:FSt w n bF gR gC gP gL gU rs cs pl):TB w bF 96:=⟨_,h.f⟩
theorem FSt.bJ(h:FSt w n bF gR gC gP gL gU rs cs pl)(hc:bw P w w')(h1:¬P bF)(h2:¬P gR)(h3:¬P gC)(h4:¬P gP):FSt w' n bF gR gC gP gL gU rs cs pl:=
 ⟨(hc.block _ h.tb.lt h1).trans h.f,h.r.bJ hc h2,h.c.bJ hc h3,h.p.bJ hc h4,h.d⟩
theorem cC.Vm{g:Nat}{f g':Nat->Nat}(h:cC w g n (fun i=>(f i:Int)))(i v:Nat)(e:g'=bE f i v):cC (w.setCell ⟨g,i,none⟩ (.int .i64 (v:Int))) g n (fun i=>(g' i:Int)):=by
 have h1:=h.set i (v:Int);rw[e];rw[<-mO]at h1;exact h1
theorem FSt.put(h:FSt w n bF gR gC gP gL gU rs cs pl)(k r c:Nat):FSt (((w.setCell ⟨gR,k,none⟩ (.int .i64 (r:Int))).setCell ⟨gC,k,none⟩ (.int .i64 (c:Int))).setCell ⟨gP,c,none⟩ (.int .i64 (k:Int))) n bF gR gC gP gL gU (bE rs k r) (bE cs k c) (bE pl c k)/\bw (fun b=>b=gR∨b=gC∨b=gP) w (((w.setCell ⟨gR,k,none⟩ (.int .i64 (r:Int))).setCell ⟨gC,k,none⟩ (.int .i64 (c:Int))).setCell ⟨gP,c,none⟩ (.int .i64 (k:Int))):=by
 obtain⟨d1,d2,d3⟩:=h.d;have c1:bw (·=gR) w (w.setCell ⟨gR,k,none⟩ (.int .i64 (r:Int))):=bw.set (P:=(·=gR)) (p:=⟨gR,k,none⟩) rfl _ _;have c2:bw (·=gC) (w.setCell ⟨gR,k,none⟩ (.int .i64 (r:Int))) ((w.setCell ⟨gR,k,none⟩ (.int .i64 (r:Int))).setCell ⟨gC,k,none⟩ (.int .i64 (c:Int))):=bw.set (P:=(·=gC)) (p:=⟨gC,k,none⟩) rfl _ _;have c3:bw (·=gP) ((w.setCell ⟨gR,k,none⟩ (.int .i64 (r:Int))).setCell ⟨gC,k,none⟩ (.int .i64 (c:Int))) (((w.setCell ⟨gR,k,none⟩ (.int .i64 (r:Int))).setCell ⟨gC,k,none⟩ (.int .i64 (c:Int))).setCell ⟨gP,c,none⟩ (.int .i64 (k:Int))):=bw.set (P:=(·=gP)) (p:=⟨gP,c,none⟩) rfl _ _;have r1:=h.r.Vm k r rfl;have e1:=h.c.bJ c1 (fun e=>d1 e.symm);have p1:=h.p.bJ c1 (fun e=>d2 e.symm);have r2:=r1.bJ c2 d1;have e2:=e1.Vm k c rfl;have p2:=p1.bJ c2 (fun e=>d3 e.symm);have r3:=r2.bJ c3 d2;have e3:=e2.bJ c3 d3;have p3:=p2.Vm c k rfl;have hc:bw (fun b=>b=gR∨b=gC∨b=gP) w (((w.setCell ⟨gR,k,none⟩ (.int .i64 (r:Int))).setCell ⟨gC,k,none⟩ (.int .i64 (c:Int))).setCell ⟨gP,c,none⟩ (.int .i64 (k:Int))):=(c1.mono (fun _ _ h=> .inl h)).trans ((c2.mono (fun _ _ h=> .inr (.inl h))).trans (c3.mono (fun _ _ h=> .inr (.inr h))));refine⟨⟨(hc.block _ h.tb.lt (fun hx=>?_)).trans h.f,r3,e3,p3,h.d⟩,hc⟩;rcases hx with e|e|e
 ·exact h.tb.ne h.r.tb (by decide) e
 ·exact h.tb.ne h.c.tb (by decide) e
 ·exact h.tb.ne h.p.tb (by decide) e
end
structure rC where
 n:Nat
 e:ju
 sv:Value
 Vr:Nat->Value
 Vl:Nat->Value
 L:Nat->List Value
 A:Nat->List (Nat×Rat)
 Ls:Nat->List (Nat×Rat)
 rs:Nat->Nat
 gL:Nat
 gU:Nat
 K:Nat
 M2:Nat
 up:Nat->List (Nat×Rat)->Prop
def rC.open_(d:rC)(a i:Nat):Prop:=i<d.n/\∀q,q<a->d.rs q≠i
def rC.m(d:rC)(a b:Nat):Prop:=b=d.gL∨b=d.gU∨∃i,d.open_ a i/\(d.Vl i).ownBlock=some b
theorem rC.GA(d:rC){a b x:Nat}(h:a<=b)(hx:d.m b x):d.m a x:=by
 rcases hx with h1|h1|⟨i,⟨h2,h3⟩,h4⟩
 ·exact .inl h1
 ·exact .inr (.inl h1)
 ·exact .inr (.inr ⟨i,⟨h2,fun q hq=>h3 q (by omega)⟩,h4⟩)
structure F2(w:World)(d:rC)(a b:Nat)(VL VU:Nat->Value)(U:Nat->List (Nat×Rat)):Prop where
 st:w.heap[d.e.eb]?=some (.cells #[.slice (some ⟨d.e.gr,0,none⟩) d.n d.n, .slice (some ⟨d.e.gl,0,none⟩) d.n d.n, .slice (some ⟨d.e.gi,0,none⟩) d.n d.n,d.sv] 133 (0,0))
 rr:dm w d.e.gr 40 d.n d.Vr
 rl:dm w d.e.gl 40 d.n d.Vl
 rws:∀i,i<d.n->∃D c,d.Vr i= .slice D (d.A i).length c/\((d.A i).length<=c/\c<=9223372036854775807)/\RW w (d.m 0) D (d.A i) d.K
 own:∀i,d.open_ a i->w.ownsRow d.e.lo 92 4 (d.Vl i) (d.Ls i).length (d.L i)
 ent:∀i,d.open_ a i->nr w (d.m 0) (d.Ls i) (d.L i) d.K
 apart:∀i j,i<d.n->j<d.n->i≠j->∀x,(d.Vl i).ownBlock=some x->(d.Vl j).ownBlock≠some x
 vl:dm w d.gL 40 d.n VL
 vu:dm w d.gU 40 d.n VU
 m0:∀x,d.m 0 x->x<w.heap.size
 ne:d.gL≠d.gU/\d.gL≠d.e.gr/\d.gL≠d.e.gl/\d.gU≠d.e.gr/\d.gU≠d.e.gl
 dl:∀q,q<a->∃D c,VL q= .slice D (d.Ls (d.rs q)++ [(q,1)]).length c/\((d.Ls (d.rs q)++ [(q,1)]).length<=c/\c<=9223372036854775807)/\RW w (d.m a) D (d.Ls (d.rs q)++ [(q,1)]) d.M2
 du:∀q,q<b->d.up q (U q)/\∃D c,VU q= .slice D (U q).length c/\((U q).length<=c/\c<=9223372036854775807)/\RW w (d.m a) D (U q) d.M2
section
variable {w w':World}{d:rC}{a b:Nat}{VL VU:Nat->Value}{U:Nat->List (Nat×Rat)}{P:Nat->Prop}
theorem F2.kC(h:F2 w d a b VL VU U):TB w d.e.eb 133:=⟨_,h.st⟩
theorem F2.N3(h:F2 w d a b VL VU U){i x:Nat}(hi:d.open_ a i)(hx:(d.Vl i).ownBlock=some x):TB w x 92:=by
 obtain⟨_,⟨e,_⟩|⟨g,cap,cur,e,hb,hh,_⟩⟩:=h.own i hi
 ·rw[e]at hx;cases hx
 ·rw[e]at hx;injection hx with hx;subst hx;exact⟨_,hh⟩
theorem F2.mlt(h:F2 w d a b VL VU U){x:Nat}(hx:d.m a x):x<w.heap.size:=by
 rcases hx with rfl|rfl|⟨i,hi,hx⟩
 ·exact h.vl.lt
 ·exact h.vu.lt
 ·exact(h.N3 hi hx).lt
theorem F2.mt(h:F2 w d a b VL VU U){x:Nat}(hx:d.m a x):TB w x 40∨TB w x 92:=by
 rcases hx with rfl|rfl|⟨i,hi,hx⟩
 ·exact .inl h.vl.tb
 ·exact .inl h.vu.tb
 ·exact .inr (h.N3 hi hx)
theorem F2.nm(h:F2 w d a b VL VU U){x:Nat}{T:TypeId}(ht:TB w x T)(h1:T≠40)(h2:T≠92):¬d.m a x:=fun hx=>(h.mt hx).elim (fun h3=>ht.ne h3 h1 rfl) (fun h3=>ht.ne h3 h2 rfl)
theorem F2.mge(h:F2 w d a b VL VU U){B:Nat}(h1:B<=d.gL)(h2:B<=d.gU)(h3:B<=d.e.lo){x:Nat}(hx:d.m a x):B<=x:=by
 rcases hx with rfl|rfl|⟨i,hi,hx⟩
 ·exact h1
 ·exact h2
 ·exact ay h3 ((h.own i hi).lt x hx).1
theorem F2.below(h:F2 w d a b VL VU U)(hb:Below w.heap.size w w'):F2 w' d a b VL VU U where
 st:=(hb.block _ h.kC.lt).trans h.st
 rr:=h.rr.bJ (bw.of (P:=fun _=>False) hb) (fun h=>h)
 rl:=h.rl.bJ (bw.of (P:=fun _=>False) hb) (fun h=>h)
 rws:=fun i hi=>by
  obtain⟨D,c,h1,h2,h3⟩:=h.rws i hi;exact⟨D,c,h1,h2,h3.below hb⟩
 own:=fun i hi=>bL (h.own i hi) (bw.of (P:=fun _=>False) hb) (fun _ _ h=>h)
 ent:=fun i hi=>(h.ent i hi).keep hb
 apart:=h.apart
 vl:=h.vl.bJ (bw.of (P:=fun _=>False) hb) (fun h=>h)
 vu:=h.vu.bJ (bw.of (P:=fun _=>False) hb) (fun h=>h)
 m0:=fun x hx=>ak (h.m0 x hx) hb.size
 ne:=h.ne
 dl:=fun q hq=>by
  obtain⟨D,c,h1,h2,h3⟩:=h.dl q hq;exact⟨D,c,h1,h2,h3.below hb⟩
 du:=fun q hq=>by
  obtain⟨h0,D,c,h1,h2,h3⟩:=h.du q hq;exact⟨h0,D,c,h1,h2,h3.below hb⟩
theorem F2.low(h:F2 w d a b VL VU U)(ha:a<d.n)(ho:d.open_ a (d.rs a)){w1:World}{g' cap K':Nat}{x y z:Value}(hw:w1.ownsRow d.e.lo 92 4 (.slice (some ⟨g',0,none⟩) ((d.Ls (d.rs a)).length+1) cap) ((d.Ls (d.rs a)).length+1) (d.L (d.rs a)++ [.int .i64 (a:Int),x,y,z]))
 (hg:w.grownBy w1 (d.Vl (d.rs a)).ownBlock) (iX:(d.Vl (d.rs a)).ownBlock=some g'∨g'=w.heap.size) (hr:RO w (d.m 0) x y z 1 K') (hK:d.K<=d.M2) (hK':K'<=d.M2):
 F2 (w1.setCell ⟨d.gL,a,none⟩ (.slice (some ⟨g',0,none⟩) ((d.Ls (d.rs a)).length+1) cap)) d (a+1) b (bE VL a (.slice (some ⟨g',0,none⟩) ((d.Ls (d.rs a)).length+1) cap)) VU U/\bw (d.m a) w (w1.setCell ⟨d.gL,a,none⟩ (.slice (some ⟨g',0,none⟩) ((d.Ls (d.rs a)).length+1) cap)):=by
 obtain⟨r,er⟩:=xeq (d.rs a);rw[er]at ho hw hg iX⊢;obtain⟨v',ev⟩:=xeq (Value.slice (some ⟨g',0,none⟩) ((d.Ls r).length+1) cap);have c1:bw (fun k=>(d.Vl r).ownBlock=some k) w w1:=(bw.grown hg).mono (fun k _ h=>h.symm)
 have tg:TB w1 g' 92:=by
  obtain⟨_,⟨e,_⟩|⟨g,cap,cur,e,hb,hh,_⟩⟩:=hw
  ·cases e
  ·injection e with e;injection e with e;injection e with e;subst e;exact⟨_,hh⟩
 have tL1:TB w1 d.gL 40:=h.vl.tb.bJ c1 (fun hx=>(h.N3 ho hx).ne h.vl.tb (by decide) rfl);have hgL:g'≠d.gL:=tg.ne tL1 (by decide);have c2:bw (·=d.gL) w1 (w1.setCell ⟨d.gL,a,none⟩ v'):=bw.set (P:=(·=d.gL)) (p:=⟨d.gL,a,none⟩) rfl _ _;have hc:bw (fun k=>k=d.gL∨(d.Vl r).ownBlock=some k) w (w1.setCell ⟨d.gL,a,none⟩ v'):=(c1.mono (fun _ _ h=> .inr h)).trans (c2.mono (fun _ _ h=> .inl h));have Wy:∀k,(k=d.gL∨(d.Vl r).ownBlock=some k)->d.m a k:=fun k hk=>hk.elim .inl (fun h2=> .inr (.inr ⟨r,ho,h2⟩));have WA:∀k,(k=d.gL∨(d.Vl r).ownBlock=some k)->d.m 0 k:=fun k hk=>d.GA (aF _) (Wy k hk);have nT:∀k T,TB w k T->T≠92->k≠d.gL->¬(k=d.gL∨(d.Vl r).ownBlock=some k):=fun k T ht hT hk hx=>hx.elim hk (fun h2=>(h.N3 ho h2).ne ht (fun e=>hT e.symm) rfl);have IG:∀i,d.open_ (a+1) i->d.open_ a i/\i≠r:=fun i hi=>⟨⟨hi.1,fun q hq=>hi.2 q (by omega)⟩,fun e=>hi.2 a (by omega) (by rw[er,e])⟩
 have hown:∀i,d.open_ (a+1) i->∀k,(d.Vl i).ownBlock=some k->¬(k=d.gL∨(d.Vl r).ownBlock=some k):=fun i hi k hk hx=>by
  obtain⟨h1,h2⟩:=IG i hi;rcases hx with hx|hx
  ·exact(h.N3 h1 hk).ne h.vl.tb (by decide) hx
  ·exact h.apart i r h1.1 ho.1 h2 k hk hx
 have Ih:¬d.m (a+1) g':=fun hx=>by
  rcases hx with hx|hx|⟨i,hi,hx⟩
  ·exact hgL hx
  ·have tU1:TB w1 d.gU 40:=h.vu.tb.bJ c1 (fun hx=>(h.N3 ho hx).ne h.vu.tb (by decide) rfl);exact tg.ne tU1 (by decide) hx
  ·rcases iX with e|e
   ·exact hown i hi g' hx (.inr e)
   ·have:=(h.N3 (IG i hi).1 hx).lt;omega
 rw[ev];refine⟨⟨(hc.block _ h.kC.lt (nT _ _ h.kC (by decide) (h.kC.ne h.vl.tb (by decide)))).trans h.st,h.rr.bJ hc (nT _ _ h.rr.tb (by decide) (fun e=>h.ne.2.1 e.symm)),h.rl.bJ hc (nT _ _ h.rl.tb (by decide) (fun e=>h.ne.2.2.1 e.symm)),fun i hi=>?_,fun i hi=>bL (h.own i (IG i hi).1) hc (hown i hi),fun i hi=>(h.ent i (IG i hi).1).bJ hc (fun k hk=> .inl (WA k hk)),h.apart,?_,h.vu.bJ hc (nT _ _ h.vu.tb (by decide) (fun e=>h.ne.1 e.symm)),fun x hx=>ak (h.m0 x hx) hc.size,h.ne,fun q hq=>?_,fun q hq=>?_⟩,hc.mono (fun k _ hk=>Wy k hk)⟩
 ·obtain⟨D,c,h1,h2,h3⟩:=h.rws i hi;exact⟨D,c,h1,h2,h3.bJ hc WA⟩
 ·have h1:=(h.vl.bJ c1 (fun hx=>(h.N3 ho hx).ne h.vl.tb (by decide) rfl)).set a v';exact h1
 ·by_cases e:q=a
  ·subst e;rw[aW,er];have hlen:(d.L r).length=(d.Ls r).length*4:=(h.own r ho).1;have e1:nr w (d.m 0) (d.Ls r++ [(q,1)]) (d.L r++ [.int .i64 (q:Int),x,y,z]) d.M2:=((h.ent r ho).mono hK).snoc hlen (hr.1.mono hK') hr.2.1 hr.2.2
   have e2:=(e1.wide (Q:=fun k=>d.m 0 k∨k=g') (fun k hk=>by
    rcases hk with hk|rfl
    ·exact .inl hk
    ·rcases iX with e|e
     ·exact .inl (.inr (.inr ⟨r,⟨ho.1,fun q hq=>absurd hq (Nat.not_lt_zero _)⟩,e⟩))
     ·exact .inr (Nat.le_of_eq e.symm))).bJ hc (fun k hk=> .inl (.inl (WA k hk)))
   have hw2:(w1.setCell ⟨d.gL,q,none⟩ v').ownsRow d.e.lo 92 4 v' (d.Ls r++ [(q,1)]).length (d.L r++ [.int .i64 (q:Int),x,y,z]):=by
    have h9:=bL hw c2 (fun k hk=>by injection hk with hk;rw[<-hk];exact hgL);rw[ev]at h9;rw[List.length_append];exact h9
   exact Qe hw2 e2 (fun k hk=> .inl (d.GA (aF _) hk)) (fun k hk=>by rw[<-ev]at hk;injection hk with hk;rw[<-hk];exact Ih)
  ·rw[bk _ _ e];obtain⟨D,c,h1,h2,h3⟩:=h.dl q (by omega);exact⟨D,c,h1,h2,h3.step (fun k hk=> .inl (d.GA (Nat.le_succ _) hk)) hc Wy⟩
 ·obtain⟨h0,D,c,h1,h2,h3⟩:=h.du q hq;exact⟨h0,D,c,h1,h2,h3.step (fun k hk=> .inl (d.GA (Nat.le_succ _) hk)) hc Wy⟩
theorem F2.upp(h:F2 w d a b VL VU U)(hb:b<d.n){D:Option Addr}{c:Nat}{u:List (Nat×Rat)}(hu:d.up b u)(hc:u.length<=c/\c<=9223372036854775807)(hr:RW w (d.m a) D u d.M2):
 F2 (w.setCell ⟨d.gU,b,none⟩ (.slice D u.length c)) d a (b+1) VL (bE VU b (.slice D u.length c)) (bE U b u)/\bw (d.m a) w (w.setCell ⟨d.gU,b,none⟩ (.slice D u.length c)):=by
 have hcg:bw (·=d.gU) w (w.setCell ⟨d.gU,b,none⟩ (.slice D u.length c)):=bw.set (P:=(·=d.gU)) (p:=⟨d.gU,b,none⟩) rfl _ _;have hP:∀k,k=d.gU->d.m a k:=fun k hk=> .inr (.inl hk);have Wy:∀k,k=d.gU->d.m 0 k:=fun k hk=> .inr (.inl hk);refine⟨⟨(hcg.block _ h.kC.lt (h.kC.ne h.vu.tb (by decide))).trans h.st,h.rr.bJ hcg (fun e=>h.ne.2.2.2.1 e.symm),h.rl.bJ hcg (fun e=>h.ne.2.2.2.2 e.symm),fun i hi=>?_,fun i hi=>bL (h.own i hi) hcg (fun k hk=>(h.N3 hi hk).ne h.vu.tb (by decide)),fun i hi=>(h.ent i hi).bJ hcg (fun k hk=> .inl (Wy k hk)),h.apart,h.vl.bJ hcg h.ne.1,h.vu.set b _,fun x hx=>ak (h.m0 x hx) hcg.size,h.ne,fun q hq=>?_,fun q hq=>?_⟩,hcg.mono (fun k _ hk=>hP k hk)⟩
 ·obtain⟨D,c,h1,h2,h3⟩:=h.rws i hi;exact⟨D,c,h1,h2,h3.bJ hcg Wy⟩
 ·obtain⟨D,c,h1,h2,h3⟩:=h.dl q hq;exact⟨D,c,h1,h2,h3.bJ hcg hP⟩
 ·by_cases e:q=b
  ·subst e;rw[aW,aW];exact⟨hu,D,c,rfl,hc,hr.bJ hcg hP⟩
  ·rw[bk _ _ e,bk _ _ e];obtain⟨h0,D,c,h1,h2,h3⟩:=h.du q (by omega);exact⟨h0,D,c,h1,h2,h3.bJ hcg hP⟩
theorem F2.done(h:F2 w d d.n d.n VL VU U):ML w (some ⟨d.gL,0,none⟩) d.n (fun i=>d.Ls (d.rs i)++ [(i,1)]) d.M2/\ML w (some ⟨d.gU,0,none⟩) d.n U d.M2:=by
 refine⟨fun _=>⟨d.gL,0,rfl,h.vl.lt,fun i hi=>?_⟩,fun _=>⟨d.gU,0,rfl,h.vu.lt,fun i hi=>?_⟩⟩
 ·obtain⟨D,c,h1,h2,h3⟩:=h.dl i hi;exact⟨D,c,by rw[Nat.zero_add,h.vl.cell hi,h1],h2,h3.el⟩
 ·obtain⟨_,D,c,h1,h2,h3⟩:=h.du i hi;exact⟨D,c,by rw[Nat.zero_add,h.vu.cell hi,h1],h2,h3.el⟩
theorem F2.start{n:Nat}{e:ju}{Vr Vl:Nat->Value}{L:Nat->List Value}{A Ls:Nat->List (Nat×Rat)}{R:Nat->Nat->Prop}{lf:List Nat}{K M2:Nat}(h:EST w e n Vr Vl L A Ls R lf K){gL gU:Nat}(hL:dm w gL 40 n (fun _=> .slice none 0 0))(hU:dm w gU 40 n (fun _=> .slice none 0 0))(hLU:gL≠gU)(h1:gL<e.lo)(h2:gU<e.lo)(rs:Nat->Nat)(up:Nat->List (Nat×Rat)->Prop):
 F2 w ⟨n,e, .slice (some ⟨e.gf,0,none⟩) lf.length n,Vr,Vl,L,A,Ls,rs,gL,gU,K,M2,up⟩ 0 0 (fun _=> .slice none 0 0) (fun _=> .slice none 0 0) (fun _=>[]):=by
 have nL:NE w gL:=hL.ne fun i _=>⟨_,_,_,rfl⟩;have nU:NE w gU:=hU.ne fun i _=>⟨_,_,_,rfl⟩;have hN:∀k,(k=gL∨k=gU)->NE w k:=fun k hk=>hk.elim (fun e=>e▸nL) (fun e=>e▸nU)
 have hsub:∀k,rC.m ⟨n,e, .slice (some ⟨e.gf,0,none⟩) lf.length n,Vr,Vl,L,A,Ls,rs,gL,gU,K,M2,up⟩ 0 k->e.all n Vl k∨(k=gL∨k=gU):=fun k hk=>by
  rcases hk with hk|hk|⟨i,hi,hk⟩
  ·exact .inr (.inl hk)
  ·exact .inr (.inr hk)
  ·exact .inl (.inl (.inr ⟨i,hi.1,hk⟩))
 have l1:=h.lo.2.1;have l2:=h.lo.2.2.1
 exact⟨h.st,h.rows,h.low.fF.row,fun i hi=>by
  obtain⟨D,c,h1,h2,h3⟩:=h.rws i hi;exact⟨D,c,h1,h2,(h3.add hN).sub hsub⟩,fun i hi=>h.low.fF.own i hi.1,fun i hi=>((h.low.ent i hi.1).add hN).wide (fun k hk=>(.inl (hsub k hk))),h.low.fF.apart,hL,hU,fun x hx=>(hsub x hx).elim (fun h2=>(h.lt h2).2) (fun h2=>h2.elim (fun e=>by rw[e];exact hL.lt) (fun e=>by rw[e];exact hU.lt)),⟨hLU,by show gL≠e.gr;omega,by show gL≠e.gl;omega,by show gU≠e.gr;omega,by show gU≠e.gl;omega⟩,fun q hq=>absurd hq (Nat.not_lt_zero _),fun q hq=>absurd hq (Nat.not_lt_zero _)⟩
end
section
variable {w w':World}{P:Nat->Prop}{n K M:Nat}
theorem EL.wO{D:Option Addr}{l:List (Nat×Rat)}(h:EL w D l K)(hc:bw P w w')(hp:∀k,P k->NE w k):EL w' D l K:=fun h0=>by
 obtain⟨b,off,rfl,hlt,hd⟩:=h h0
 have hb:¬P b:=fun hx=>by
  obtain⟨p,V8⟩:∃p,l[0]?=some p:=⟨l[0],aB h0⟩;obtain⟨_,x,y,z,h1,_,_,hr⟩:=hd 0 p V8;obtain⟨q,_,_,_,_,_,_,rfl,_⟩:=hr;exact(hp b hx _ _ h1).2 _ rfl
 refine⟨b,off,rfl,ak hlt hc.size,fun i p hi=>?_⟩;obtain⟨h1,x,y,z,h2,h3,h4,hr⟩:=hd i p hi;obtain⟨a1,a2⟩:=hr.XQ hp;exact⟨hc.cell hb h1,x,y,z,hc.cell hb h2,hc.cell hb h3,hc.cell hb h4,hr.bJ hc a1 a2⟩
theorem ML.wO{g:Nat}{A:Nat->List (Nat×Rat)}(h:ML w (some ⟨g,0,none⟩) n A K)(hg:¬P g)(hc:bw P w w')(hp:∀k,P k->NE w k):ML w' (some ⟨g,0,none⟩) n A K:=fun h0=>by
 obtain⟨b,off,e,hlt,hd⟩:=h h0;injection e with e
 injection e with e1 e2 _
 subst e1 e2;refine⟨g,0,rfl,ak hlt hc.size,fun i hi=>?_⟩;obtain⟨Di,ci,h1,h2,h3⟩:=hd i hi;exact⟨Di,ci,hc.cell hg h1,h2,h3.wO hc hp⟩
theorem Eo.congr{N N':Nat->Nat->Rat}{rs cs:Nat->Nat}{lo up:Nat->List (Nat×Rat)}(h:Eo n N rs cs lo up)(e:∀i j,i<n->j<n->N' i j=N i j):Eo n N' rs cs lo up:=
 ⟨h.Gz,h.El,h.zo,h.wL,h.Ep,h.IE,fun b z y x hz hy hx i hi=>by
   rw[Gd.cT (g:=fun j=>N i j*x j) (fun j hj=>by rw[e i j hi hj])];exact h.solve b z y x hz hy hx i hi⟩
theorem Mb{k:Nat}(h:1<=M):1<=sk M k:=ay h (BR M (aF k))
theorem rY{lf:List Nat}{b x:Nat}(h:lf.Nodup)(hb:lf[b]?=some x):(lf.eraseIdx b).Nodup/\∀y,y∈lf.eraseIdx b↔y∈lf/\y≠x:=by
 have hl:=(aC.1 hb).1;refine⟨h.sublist (List.eraseIdx_sublist ..),fun y=>?_⟩;rw[List.mem_eraseIdx_iff_getElem?];constructor
 ·rintro⟨i,hi,h1⟩;refine⟨aD h1,fun e=>?_⟩;subst e;have h2:=(aC.1 h1);have h3:=(aC.1 hb);obtain⟨h4,h5⟩:=h2;obtain⟨h6,h7⟩:=h3;have h8:=List.pairwise_iff_getElem.1 h;rcases Nat.lt_trichotomy i b with h9|h9|h9
  ·exact h8 i b h4 h6 h9 (by rw[h5,h7])
  ·exact hi h9
  ·exact h8 b i h6 h4 h9 (by rw[h5,h7])
 ·rintro⟨h1,h2⟩;obtain⟨i,hi⟩:=aJ h1;exact⟨i,fun e=>h2 (by subst e;rw[hi]at hb;injection hb),hi⟩
end
structure F1(w:World)(n M:Nat)(Mx:Nat->Nat->Rat)(e:ju)(bF gR gC gP gL gU k:Nat)(rs cs pl:Nat->Nat)(Vr Vl:Nat->Value)(L:Nat->List Value)(A Ls:Nat->List (Nat×Rat))(lf:List Nat):Prop where
 es:EST w e n Vr Vl L A Ls (fun j i=>(i<n/\∀q,q<k->rs q≠i)/\gv (A i) j≠0) lf (sk M k)
 can:∀i,i<n->Can n (A i)
 ei:Gd.EI n Mx k rs cs (fun i j=>gv (A i) j) Ls
 fs:FSt w n bF gR gC gP gL gU rs cs pl
 pl:∀q,q<k->pl (cs q)=q
 lf:lf.Nodup/\(∀x,x∈lf↔x<n/\∀q,q<k->cs q≠x)/\lf.length+k=n
section
variable {w w':World}{n M:Nat}{Mx:Nat->Nat->Rat}{e:ju}{bF gR gC gP gL gU k:Nat}{rs cs pl:Nat->Nat}{Vr Vl:Nat->Value}{L:Nat->List Value}{A Ls:Nat->List (Nat×Rat)}{lf:List Nat}
theorem F1.pre(h:F1 w n M Mx e bF gR gC gP gL gU k rs cs pl Vr Vl L A Ls lf)(hk:k<n):0<lf.length/\(∀x∈lf,x<n/\∃i,(i<n/\∀q,q<k->rs q≠i)/\gv (A i) x≠0)/\(∀x i,x<n->((i<n/\∀q,q<k->rs q≠i)/\gv (A i) x≠0)->i<n):=by
 obtain⟨_,h2,h3⟩:=h.lf;refine⟨by omega,fun x hx=>?_,fun x i _ hi=>hi.1.1⟩;obtain⟨h4,h5⟩:=(h2 x).1 hx;obtain⟨i,h6,h7,h8⟩:=h.ei.col h4 h5;exact⟨h4,i,⟨h6,h7⟩,h8⟩
theorem F1.len(h:F1 w n M Mx e bF gR gC gP gL gU k rs cs pl Vr Vl L A Ls lf){i:Nat}(hi:i<n):(Ls i).length<=k:=by
 have:=mX (a:=0) (jo.ofP (h.ei.jF i hi)) (fun p hp=>⟨aF _,(h.ei.lo i hi p hp).1⟩) (aF k);omega
theorem F1.next(h:F1 w n M Mx e bF gR gC gP gL gU k rs cs pl Vr Vl L A Ls lf)(hk:k<n){b col row:Nat}(hb:lf[b]?=some col)(hq:(row<n/\∀q,q<k->rs q≠row)/\gv (A row) col≠0){w3:World}{Vr' XK:Nat->Value}{L':Nat->List Value}{A' Gx:Nat->List (Nat×Rat)}
 (hes:EST w3 e n Vr' XK L' A' Gx (fun j i=>((i<n/\∀q,q<k->rs q≠i)/\i≠row)/\gv (A' i) j≠0) (lf.eraseIdx b) (6*sk M k+1)) (hcan:∀i,i<n->Can n (A' i)) (hst:RZ n k row col (fun i=>i<n/\∀q,q<k->rs q≠i) A Ls A' Gx) (hfs:FSt w3 n bF gR gC gP gL gU (bE rs k row) (bE cs k col) (bE pl col k)):
 F1 w3 n M Mx e bF gR gC gP gL gU (k+1) (bE rs k row) (bE cs k col) (bE pl col k) Vr' XK L' A' Gx (lf.eraseIdx b):=by
 obtain⟨l1,l2,l3⟩:=h.lf;have BI:=(l2 col).1 (aD hb);have hbl:=(aC.1 hb).1
 have CV:∀(f:Nat->Nat) (v i:Nat),(∀q,q<k+1->bE f k v q≠i)↔(∀q,q<k->f q≠i)/\i≠v:=fun f v i=>by
  constructor
  ·intro h1;refine⟨fun q hq=>?_,fun e=>?_⟩
   ·have:=h1 q (by omega);rwa [bk _ _ (by omega)]at this
   ·have:=h1 k (by omega);rw[aW]at this;exact this e.symm
  ·rintro⟨h1,h2⟩ q hq
   by_cases e:q=k
   ·subst e;rw[aW];exact fun e=>h2 e.symm
   ·rw[bk _ _ e];exact h1 q (by omega)
 refine⟨hes.jv (Q':=fun j i=>(i<n/\∀q,q<k+1->bE rs k row q≠i)/\gv (A' i) j≠0) (fun j _ i=>by rw[CV];exact⟨fun⟨⟨⟨a,b⟩,c⟩,d⟩=>⟨⟨a,b,c⟩,d⟩,fun⟨⟨a,b,c⟩,d⟩=>⟨⟨⟨a,b⟩,c⟩,d⟩⟩),hcan,?_,hfs,fun q CY=>?_,(rY l1 hb).1,fun x=>?_,?_⟩
 ·refine h.ei.step hq.1.1 BI.1 hq.1.2 BI.2 hq.2 (fun i hi h1 h2 h3=>?_) (fun i hi h1=>?_)
  ·obtain⟨h4,h5⟩:=(hst i hi).1 ⟨⟨hi,h1⟩,h2,h3⟩;exact⟨fun j _=>h4 j,h5⟩
  ·obtain⟨h4,h5⟩:=(hst i hi).2 (fun h2=>h1 ⟨h2.1.2,h2.2.1,h2.2.2⟩);exact⟨fun j _=>by rw[h4],h5⟩
 ·by_cases e:q=k
  ·subst e;rw[aW,aW]
  ·rw[bk _ _ e,bk _ _ (BI.2 q (by omega))];exact h.pl q (by omega)
 ·rw[(rY l1 hb).2,l2,CV];exact⟨fun⟨⟨a,b⟩,c⟩=>⟨a,b,c⟩,fun⟨a,b,c⟩=>⟨⟨a,b⟩,c⟩⟩
 ·rw[List.length_eraseIdx,if_pos hbl];omega
theorem F1.perm(h:F1 w n M Mx e bF gR gC gP gL gU n rs cs pl Vr Vl L A Ls lf):(∀i,i<n->pl i<n/\cs (pl i)=i)/\∀i j,i<n->j<n->pl i=pl j->i=j:=by
 have h1:∀i,i<n->pl i<n/\cs (pl i)=i:=fun i hi=>by
  obtain⟨q,hq,e⟩:=Gd.onto h.ei.El h.ei.wL i hi;rw[<-e,h.pl q hq];exact⟨hq,rfl⟩
 exact⟨h1,fun i j hi hj e=>by rw[<-(h1 i hi).2,<-(h1 j hj).2,e]⟩
end
structure Qc where
 b:Value
 s:Value
 t:Value
 r:Rat
def Qc.z:Qc:=⟨.bool false, .slice none 0 0, .slice none 0 0,0⟩
def Qc.ok(w:World)(M:Nat->Prop)(K:Nat)(x:Qc):Prop:=RO w M x.b x.s x.t x.r K
theorem Mc(P:Nat->Prop):Av P (.slice none 0 0):=fun A n c e h0=>by injection e with e;cases e
theorem Qc.okz{w:World}{M:Nat->Prop}{K:Nat}(h:1<=K):Qc.z.ok w M K:=⟨bG.zero w h,Mc _,Mc _⟩
theorem RO.mono{w:World}{M:Nat->Prop}{b s t:Value}{r:Rat}{K L:Nat}(h:RO w M b s t r K)(hk:K<=L):RO w M b s t r L:=⟨h.1.mono hk,h.2⟩
theorem bG.ro{w w':World}{M:Nat->Prop}{b s t:Value}{r:Rat}{K:Nat}(h:bG w b s t r K)(hM:∀k,M k->w.heap.size<=k)(hb:Below w.heap.size w w'):RO w' M b s t r K:=by
 obtain⟨a1,a2⟩:=h.av;exact⟨h.keep hb,a1.mono hM,a2.mono hM⟩
def Md(x:Qc):Nat->Value
 |0=>x.b
 |1=>x.s
 |_=>x.t
def dF(m:Nat)(f:Nat->Qc):Array Value:=((List.range (m*3)).map fun j=>Md (f (j/3)) (j % 3)).toArray
theorem BS(m:Nat)(f:Nat->Qc):(dF m f).size=m*3:=by simp[dF]
theorem kM{m:Nat}{f:Nat->Qc}{i c:Nat}(hi:i<m)(hc:c<3):(dF m f)[i*3+c]?=some (Md (f i) c):=by
 have h1:(i*3+c)/3=i:=by omega
 have h2:(i*3+c) % 3=c:=by omega
 simp only[dF,List.getElem?_toArray,List.getElem?_map];rw[List.getElem?_range (by omega)];simp only[Option.map_some,h1,h2]
theorem zu{m:Nat}{f g:Nat->Qc}(h:∀i,i<m->f i=g i):dF m f=dF m g:=by
 unfold dF
 congr 1
 refine List.map_congr_left fun j hj=>?_;rw[h (j/3) (by have:=List.mem_range.1 hj;omega)]
theorem Er{m:Nat}{f:Nat->Qc}{i:Nat}(hi:i<m)(x:Qc):(((dF m f).setIfInBounds (i*3) x.b).setIfInBounds (i*3+1) x.s).setIfInBounds (i*3+2) x.t=dF m (bE f i x):=by
 apply Array.ext
 ·simp[dF]
 ·intro j h1 h2;have hj:j<m*3:=by simpa [dF] using h2
  have e1:∀g:Nat->Qc,(dF m g)[j]?=some (Md (g (j/3)) (j % 3)):=fun g=>by
   have:=kM (f:=g) (m:=m) (i:=j/3) (c:=j % 3) (by omega) (by omega)
   rwa [show j/3*3+j % 3=j by omega]at this
  apply Option.some_inj.1;rw[<-Array.getElem?_eq_getElem h1,<-Array.getElem?_eq_getElem h2,e1];simp only[Array.getElem?_setIfInBounds,Array.size_setIfInBounds,BS]
  by_cases a2:i*3+2=j
  ·rw[if_pos a2,if_pos (by omega),show j/3=i by omega,show j % 3=2 by omega,aW];rfl
  ·rw[if_neg a2]
   by_cases a1:i*3+1=j
   ·rw[if_pos a1,if_pos (by omega),show j/3=i by omega,show j % 3=1 by omega,aW];rfl
   ·rw[if_neg a1]
    by_cases a0:i*3=j
    ·rw[if_pos a0,if_pos (by omega),show j/3=i by omega,show j % 3=0 by omega,aW];rfl
    ·rw[if_neg a0,e1,bk _ _ (by omega)]
def dL(w:World)(g m:Nat)(f:Nat->Qc):Prop:=w.heap[g]?=some (.cells (dF m f) 45 (0,0))
section
variable {w w':World}{g m n K:Nat}{f:Nat->Qc}{P:Nat->Prop}
theorem dL.tb(h:dL w g m f):TB w g 45:=⟨_,h⟩
theorem dL.lt(h:dL w g m f):g<w.heap.size:=h.tb.lt
theorem dL.cell(h:dL w g m f){i:Nat}(hi:i<m):w.cell? ⟨g,i*3,none⟩=some (f i).b/\w.cell? ⟨g,i*3+1,none⟩=some (f i).s/\w.cell? ⟨g,i*3+2,none⟩=some (f i).t:=
 ⟨(aT w g _ _ _ (0,0) h).trans (kM (c:=0) hi (by decide)),(aT w g _ _ _ (0,0) h).trans (kM (c:=1) hi (by decide)),(aT w g _ _ _ (0,0) h).trans (kM (c:=2) hi (by decide))⟩
theorem dL.frozen(h:dL w g m f)(j:Nat):w.frozen? ⟨g,j,none⟩=false:=by
 have h':w.heap[g]?=some (.cells (dF m f) 45 (0,0)):=h;simp[World.frozen?,h']
theorem dL.bJ(h:dL w g m f)(hc:bw P w w')(hg:¬P g):dL w' g m f:=(hc.block g h.lt hg).trans h
theorem dL.below(h:dL w g m f)(hb:Below w.heap.size w w'):dL w' g m f:=(hb.block g h.lt).trans h
theorem dL.congr(h:dL w g m f){f':Nat->Qc}(e:∀i,i<m->f i=f' i):dL w g m f':=by
 unfold dL;rw[<-zu e];exact h
theorem dL.set(h:dL w g m f){i:Nat}(hi:i<m)(x:Qc):dL (((w.setCell ⟨g,i*3,none⟩ x.b).setCell ⟨g,i*3+1,none⟩ x.s).setCell ⟨g,i*3+2,none⟩ x.t) g m (bE f i x):=by
 unfold dL;rw[<-Er hi];exact cG (cG (cG h))
theorem bw.jc(g i:Nat)(w:World)(a b c:Value):bw (·=g) w (((w.setCell ⟨g,i*3,none⟩ a).setCell ⟨g,i*3+1,none⟩ b).setCell ⟨g,i*3+2,none⟩ c):=
 ((bw.set (P:=(·=g)) (p:=⟨g,i*3,none⟩) rfl _ _).trans (bw.set (P:=(·=g)) (p:=⟨g,i*3+1,none⟩) rfl _ _)).trans (bw.set (P:=(·=g)) (p:=⟨g,i*3+2,none⟩) rfl _ _)
def QL(w:World)(D:Option Addr)(l:List Rat)(K:Nat):Prop:=
 0<l.length->∃b off,D=some ⟨b,off,none⟩/\b<w.heap.size/\∀(i:Nat) (r:Rat),l[i]?=some r->∃x y z,w.cell? ⟨b,off+i*3,none⟩=some x/\w.cell? ⟨b,off+i*3+1,none⟩=some y/\w.cell? ⟨b,off+i*3+2,none⟩=some z/\bG w x y z r K
theorem QL.below{D:Option Addr}{l:List Rat}(h:QL w D l K)(hb:Below w.heap.size w w'):QL w' D l K:=fun h0=>by
 obtain⟨b,off,rfl,hlt,hc⟩:=h h0;refine⟨b,off,rfl,ak hlt hb.size,fun i r hr=>?_⟩;obtain⟨x,y,z,h1,h2,h3,h4⟩:=hc i r hr;exact⟨x,y,z,(hb.cell (p:=⟨b,off+i*3,none⟩) hlt).trans h1,(hb.cell (p:=⟨b,off+i*3+1,none⟩) hlt).trans h2,(hb.cell (p:=⟨b,off+i*3+2,none⟩) hlt).trans h3,h4.keep hb⟩
theorem QL.mono{D:Option Addr}{l:List Rat}{L:Nat}(h:QL w D l K)(hk:K<=L):QL w D l L:=fun h0=>by
 obtain⟨b,off,rfl,hlt,hc⟩:=h h0;refine⟨b,off,rfl,hlt,fun i r hr=>?_⟩;obtain⟨x,y,z,h1,h2,h3,h4⟩:=hc i r hr;exact⟨x,y,z,h1,h2,h3,h4.mono hk⟩
def rZ(m:Nat)(f:Nat->Qc):List Rat:=(List.range m).map fun i=>(f i).r
theorem oL:(rZ m f).length=m:=by simp[rZ]
theorem oM{i:Nat}(hi:i<m):(rZ m f)[i]?=some (f i).r:=by simp[rZ,hi]
theorem dL.ql{M:Nat->Prop}(h:dL w g m f)(hok:∀i,i<m->(f i).ok w M K):QL w (some ⟨g,0,none⟩) (rZ m f) K:=fun _=>by
 refine⟨g,0,rfl,h.lt,fun i r hr=>?_⟩;have hi:i<m:=by have:=(aC.1 hr).1;rwa [oL]at this
 rw[oM hi]at hr;injection hr with hr
 subst hr;obtain⟨h1,h2,h3⟩:=h.cell hi;exact⟨_,_,_,by rw[Nat.zero_add];exact h1,by rw[Nat.zero_add];exact h2,by rw[Nat.zero_add];exact h3,(hok i hi).1⟩
theorem Me:(Tryz.prog.info? 45).map (fun i=>(i.zero,i.size,i.bytes))=some (some (.agg #[.bool false, .slice none 0 0, .slice none 0 0]),3,56):=by kernel_rfl
theorem mY(z:Int)(n:Nat)(hz:z=(n:Int))(hn:n<=1048576)(u:World):
 (Instr.makeSlice 49 (.int .i64 z) (.int .i64 z)).run Tryz.prog u= .ok (.slice (some ⟨u.heap.size,0,none⟩) n n) (u.alloc (.cells (dF n fun _=>Qc.z) 45)):=by
 obtain⟨i0,hi,hz0,hz1,hz2⟩:=info_parts Me;subst hz;have h:=run_make (P:=Tryz.prog) u 49 45 i0 (.agg #[.bool false, .slice none 0 0, .slice none 0 0]) Tryz.underlying49 hi hz0 .i64 .i64 (n:Int) (n:Int) (by omega) (Int.le_refl _) (by rw[hz2];omega) (by omega);simp only[Int.toNat_natCast]at h
 have e:madeCells (Value.agg #[.bool false, .slice none 0 0, .slice none 0 0]).cells (n*i0.size)=dF n fun _=>Qc.z:=by
  rw[hz1];simp only[madeCells,Value.cells];apply Array.ext
  ·simp[dF]
  ·intro j h1 h2;have hj:j<n*3:=by simpa [dF] using h2
   apply Option.some_inj.1;rw[<-Array.getElem?_eq_getElem h1,<-Array.getElem?_eq_getElem h2];have e3:=kM (f:=fun _=>Qc.z) (m:=n) (i:=j/3) (c:=j % 3) (by omega) (by omega);rw[show j/3*3+j % 3=j by omega]at e3;rw[e3];have h3:j % 3<3:=Nat.mod_lt _ (by decide);simp[hj];generalize j % 3=c at h3⊢
   match c,h3 with
   |0,_=>rfl
   |1,_=>rfl
   |2,_=>rfl
 rw[e]at h;exact h
def BU(w:World)(P:Nat->Prop)(l:List Rat)(xs:List Value)(K:Nat):Prop:=
 ∀(i:Nat) (r:Rat),l[i]?=some r->∃x y z,xs[i*3]?=some x/\xs[i*3+1]?=some y/\xs[i*3+2]?=some z/\bG w x y z r K/\Av P y/\Av P z
def QO(w:World)(lo:Nat)(v:Value)(l:List Rat)(K:Nat):Prop:=
 ∃xs,w.ownsRow lo 45 3 v l.length xs/\BU w (fun k=>k<lo∨v.ownBlock=some k) l xs K
theorem BU.keep{l:List Rat}{xs:List Value}(h:BU w P l xs K)(hb:Below w.heap.size w w'):BU w' P l xs K:=fun i p hp=>by
 obtain⟨x,y,z,h2,h3,h4,h5,h6⟩:=h i p hp;exact⟨x,y,z,h2,h3,h4,h5.keep hb,h6⟩
theorem BU.bJ{Q:Nat->Prop}{l:List Rat}{xs:List Value}(h:BU w P l xs K)(hc:bw Q w w')(hq:∀k,Q k->P k∨w.heap.size<=k):BU w' P l xs K:=fun i p hp=>by
 obtain⟨x,y,z,h2,h3,h4,h5,h6,h7⟩:=h i p hp;obtain⟨a1,a2⟩:=h5.av;exact⟨x,y,z,h2,h3,h4,h5.bJ hc ((h6.or a1).mono hq) ((h7.or a2).mono hq),h6,h7⟩
theorem BU.wide{Q:Nat->Prop}{l:List Rat}{xs:List Value}(h:BU w P l xs K)(hq:∀k,Q k->P k∨w.heap.size<=k):BU w Q l xs K:=fun i p hp=>by
 obtain⟨x,y,z,h2,h3,h4,h5,h6,h7⟩:=h i p hp;obtain⟨a1,a2⟩:=h5.av;exact⟨x,y,z,h2,h3,h4,h5,(h6.or a1).mono hq,(h7.or a2).mono hq⟩
theorem QO.below{lo:Nat}{v:Value}{l:List Rat}(h:QO w lo v l K)(hb:Below w.heap.size w w'):QO w' lo v l K:=by
 obtain⟨xs,h1,h2⟩:=h;exact⟨xs,bL h1 (bw.of (P:=fun _=>False) hb) (fun _ _ h=>h),h2.keep hb⟩
theorem QO.nil(w:World)(lo K:Nat):QO w lo (.slice none 0 0) [] K:=⟨[],World.ownsRow_nil _ _ _ _,fun i p hp=>by simp at hp⟩
theorem QO.slice{lo:Nat}{v:Value}{l:List Rat}(h:QO w lo v l K):∃D c,v= .slice D l.length c/\QL w D l K/\(l.length<=c/\c<=9223372036854775807):=by
 obtain⟨xs,h,hx⟩:=h;have hcl:=fun g=> @World.ownsRow.cells _ _ _ _ _ _ _ h g;obtain⟨h1,⟨rfl,h0⟩|⟨g,cap,cur,rfl,hb,hh,hc,hm,_⟩⟩:=h
 ·exact⟨none,0,by rw[h0],fun h=>by omega,by omega,by omega⟩
 ·have hlt:=(au.1 hh).1;refine⟨some ⟨g,0,none⟩,cap,rfl,fun _=>⟨g,0,rfl,hlt,fun i p hp=>?_⟩,hc,hm⟩;obtain⟨x,y,z,k1,k2,k3,k4,_⟩:=hx i p hp;have a1:=hcl g rfl _ _ k1;have a2:=hcl g rfl _ _ k2;have a3:=hcl g rfl _ _ k3;rw[ow]at a1 a2 a3;refine⟨x,y,z,?_,?_,?_,k4⟩
  ·rw[Nat.zero_add];exact a1
  ·rw[Nat.zero_add];exact a2
  ·rw[Nat.zero_add];exact a3
theorem QO.blk{lo:Nat}{v:Value}{l:List Rat}(h:QO w lo v l K):∀k,v.ownBlock=some k->lo<=k/\k<w.heap.size:=fun k hk=>by
 obtain⟨xs,h1,_⟩:=h;exact h1.lt k hk
theorem BU.snoc{l:List Rat}{xs:List Value}{r:Rat}{x y z:Value}(h:BU w P l xs K)(hx:xs.length=l.length*3)(hr:bG w x y z r K)(hy:Av P y)(hz:Av P z):BU w P (l++ [r]) (xs++ [x,y,z]) K:=fun k p hp=>by
 have hk:=(aC.1 hp).1;simp at hk
 by_cases e:k<l.length
 ·rw[aL e]at hp;obtain⟨x',y',z',h2,h3,h4,h5⟩:=h k p hp;have hl:k*3+2<xs.length:=by omega
  exact⟨x',y',z',by rw[aL (by omega)];exact h2,by rw[aL (by omega)];exact h3,by rw[aL (by omega)];exact h4,h5⟩
 ·obtain rfl:k=l.length:=by omega
  rw[aK (aj _)]at hp;simp at hp;subst hp;refine⟨x,y,z,?_,?_,?_,hr,hy,hz⟩
  ·rw[aK (by omega),hx,Nat.sub_self];rfl
  ·rw[aK (by omega),hx,Nat.add_sub_cancel_left];rfl
  ·rw[aK (by omega),hx,Nat.add_sub_cancel_left];rfl
theorem QO.push{lo g cap:Nat}{v:Value}{l:List Rat}{xs:List Value}{r:Rat}{x y z:Value}(h:BU w (fun k=>k<lo∨v.ownBlock=some k) l xs K)(hx:xs.length=l.length*3)(hr:bG w x y z r K)(hy:Av (fun k=>k<lo∨v.ownBlock=some k) y)(hz:Av (fun k=>k<lo∨v.ownBlock=some k) z)
 (ho:w'.ownsRow lo 45 3 (.slice (some ⟨g,0,none⟩) (l.length+1) cap) (l.length+1) (xs++ [x,y,z])) (hg:w.grownBy w' v.ownBlock) (iX:v.ownBlock=some g∨g=w.heap.size):QO w' lo (.slice (some ⟨g,0,none⟩) (l.length+1) cap) (l++ [r]) K:=by
 refine⟨_,by rw[List.length_append];exact ho,?_⟩;have h1:=(h.snoc hx hr hy hz).bJ (bw.grown hg) (fun k hk=> .inl (.inr hk.symm))
 have h2:=(h.snoc hx hr hy hz).wide (Q:=fun k=>k<lo∨some g=some k) (fun k hk=>by
  rcases hk with hk|hk
  ·exact .inl (.inl hk)
  ·injection hk with hk
   subst hk;rcases iX with e|e
   ·exact .inl (.inr e)
   ·exact .inr (Nat.le_of_eq e.symm))
 intro k p hp;obtain⟨x',y',z',a2,a3,a4,a5,a6⟩:=h1 k p hp;obtain⟨x2,y2,z2,b2,b3,b4,b5,b6⟩:=h2 k p hp;rw[a3]at b3;rw[a4]at b4;injection b3 with b3
 injection b4 with b4
 subst b3 b4;exact⟨x',y',z',a2,a3,a4,a5,b6⟩
theorem ko:Tryz.prog.info? 45=some (((Tryz.prog.info? 45).getD default))/\(((Tryz.prog.info? 45).getD default)).zero=some (.agg #[.bool false, .slice none 0 0, .slice none 0 0])/\(((Tryz.prog.info? 45).getD default)).size=3/\(((Tryz.prog.info? 45).getD default)).bytes=56:=by
 refine⟨?_,?_,?_,?_⟩<;>kernel_rfl
theorem Sd{w:World}{ops:Array Oper}{rest:List Oper}{o:Oper}{a:Act}{Q:Exit->Act->World->Prop}(hgd:o.guard=none)(s x:Operand)(ho:o.op= .call {callee:= .builtin .append,args:=#[s,x],argTypes:=#[49,49]}){lo n:Nat}{v:Value}{xs:List Value}(hs:a.eval s=v)(hown:w.ownsRow lo 45 3 v n xs){B:Nat}{p q r:Value}(hx:a.eval x= .slice (some ⟨B,0,none⟩) 1 1)(hb:w.heap[B]?=some (.cells #[p,q,r] 45 (0,0)))(h1:∀u∈[p,q,r],u.oneCell'=true)(hn:n<=1048576)(hlo:lo<=w.heap.size)
 (h:∀g cap w',w'.ownsRow lo 45 3 (.slice (some ⟨g,0,none⟩) (n+1) cap) (n+1) (xs++ [p,q,r])->w.grownBy w' v.ownBlock->(v.ownBlock=some g∨g=w.heap.size)->g<w'.heap.size->wpList Tryz.prog ops Q rest (a.put o.dst (.slice (some ⟨g,0,none⟩) (n+1) cap)) w'):wpList Tryz.prog ops Q (o::rest) a w:=
 wpList_append_lies w hgd s x 49 ho lo 45 _ (.agg #[.bool false, .slice none 0 0, .slice none 0 0]) 3 56 Tryz.underlying49 ko.1 ko.2.1 ko.2.2.1 ko.2.2.2 rfl (by decide) v n xs hs hown ⟨B,0,none⟩ 1 1 [p,q,r] hx rfl (World.news_of_block hb) h1 (by decide) (by simp only[maxLen];omega) (by omega) hlo w.heap.size rfl h
theorem bG.rN{b s t:Value}{r:Rat}(h:bG w b s t r K):∀u∈[b,s,t],u.oneCell'=true:=by
 obtain⟨p,A,xs,c,B,ys,d,rfl,rfl,rfl,_⟩:=h;intro u hu;simp at hu;rcases hu with rfl|rfl|rfl<;>simp[Value.oneCell']
theorem BW(z:Int)(n:Nat)(hz:z=(n:Int))(hn:n<=1048576)(u:World):
 (Instr.makeSlice 49 (.int .i64 0) (.int .i64 z)).run Tryz.prog u= .ok (.slice (some ⟨u.heap.size,0,none⟩) 0 n) (u.alloc (.cells (madeCells (Value.agg #[.bool false, .slice none 0 0, .slice none 0 0]).cells (n*3)) 45)):=by
 obtain⟨hi,hz0,hz1,hz2⟩:=ko;subst hz;have h:=run_make (P:=Tryz.prog) u 49 45 _ _ Tryz.underlying49 hi hz0 .i64 .i64 0 (n:Int) (Int.le_refl _) (by omega) (by rw[hz2];omega) (by omega);simp only[Int.toNat_natCast]at h;rw[hz1]at h;exact h
theorem QO.made(w:World)(lo n K:Nat)(z:Value)(h:lo<=w.heap.size)(hn:n<=1048576):QO (w.alloc (.cells (madeCells z.cells (n*3)) 45)) lo (.slice (some ⟨w.heap.size,0,none⟩) 0 n) [] K:=
 ⟨[],⟨rfl, .inr ⟨w.heap.size,n,_,rfl,h,aS w _,aF _,by simp only[maxLen];omega,by simp[madeCells],by simp⟩⟩,fun i p hp=>by simp at hp⟩
end
end Go.Proofs.YtkmpoleajjgfaaaGreat
