/- Parts of the proof, in order. -/
import Derived.Test.YtkmpoleajjgfaaaGreatQ18
namespace Go.Proofs.YtkmpoleajjgfaaaGreat
open Go.RowKit Gm Go.Sort Go.Shelf
set_option maxRecDepth 100000
set_option maxHeartbeats 16000000
def vR(w:World)(g n K:Nat):Prop:=∃f,dL w g n f/\∀i,i<n->(f i).ok w (fun x=>x=g) K/\(f i).r=0
def ZLK(w:World)(D:Option Addr)(n K:Nat):Prop:=QL w D (List.replicate n 0) K
section
variable {w w':World}{g n K:Nat}{D:Option Addr}
theorem vR.lt(h:vR w g n K):g<w.heap.size:=by
 obtain⟨f,h1,_⟩:=h;exact h1.lt
theorem vR.below(h:vR w g n K)(hb:Below w.heap.size w w'):vR w' g n K:=by
 obtain⟨f,h1,h2⟩:=h;exact⟨f,h1.below hb,fun i hi=>⟨(h2 i hi).1.bJ (P:=fun _=>False) (bw.of hb) (fun _ h=>h.elim),(h2 i hi).2⟩⟩
theorem vR.sA(h:vR w g n K)(i:Nat):w.frozen? ⟨g,i*3,none⟩=false/\w.frozen? ⟨g,i*3+1,none⟩=false/\w.frozen? ⟨g,i*3+2,none⟩=false:=by
 obtain⟨f,h1,_⟩:=h;exact⟨h1.frozen _,h1.frozen _,h1.frozen _⟩
theorem vR.cells(h:vR w g n K){i:Nat}(hi:i<n):∃b s t,(w.cell? ⟨g,i*3,none⟩=some b/\w.cell? ⟨g,i*3+1,none⟩=some s/\w.cell? ⟨g,i*3+2,none⟩=some t)/\RO w (fun x=>x=g) b s t 0 K:=by
 obtain⟨f,h1,h2⟩:=h;obtain⟨h3,h4⟩:=h2 i hi;unfold Qc.ok at h3;rw[h4]at h3;exact⟨_,_,_,h1.cell hi,h3⟩
theorem vR.put(h:vR w g n K){i:Nat}(hi:i<n){b s t:Value}(hr:RO w (fun x=>x=g) b s t 0 K):vR (((w.setCell ⟨g,i*3,none⟩ b).setCell ⟨g,i*3+1,none⟩ s).setCell ⟨g,i*3+2,none⟩ t) g n K:=by
 obtain⟨f,h1,h2⟩:=h;have hc:=bw.jc g i w b s t;refine⟨_,h1.set hi ⟨b,s,t,0⟩,fun j hj=>?_⟩
 by_cases e:j=i
 ·subst e;rw[aW];exact⟨hr.bJ hc (fun _ h=>h),rfl⟩
 ·rw[bk _ _ e];exact⟨(h2 j hj).1.bJ hc (fun _ h=>h),(h2 j hj).2⟩
theorem vR.mono{L:Nat}(h:vR w g n K)(hk:K<=L):vR w g n L:=by
 obtain⟨f,h1,h2⟩:=h;exact⟨f,h1,fun i hi=>⟨RO.mono (h2 i hi).1 hk,(h2 i hi).2⟩⟩
theorem ZLK.below(h:ZLK w D n K)(hb:Below w.heap.size w w'):ZLK w' D n K:=QL.below h hb
theorem ZLK.nth(h:ZLK w D n K){i:Nat}(hi:i<n):∃b off,D=some ⟨b,off,none⟩/\b<w.heap.size/\∃x y z,w.cell? ⟨b,off+i*3,none⟩=some x/\w.cell? ⟨b,off+i*3+1,none⟩=some y/\w.cell? ⟨b,off+i*3+2,none⟩=some z/\bG w x y z 0 K:=by
 obtain⟨b,off,e,hlt,hc⟩:=h (by simp;omega);exact⟨b,off,e,hlt,hc i 0 (by rw[List.getElem?_replicate,if_pos hi])⟩
theorem tF{w:World}{lo size n:Nat}{e:TypeId}{v:Value}{xs:List Value}(h:w.ownsRow lo e size v n xs){x:Nat}(hx:v.ownBlock=some x):TB w x e:=by
 obtain⟨_,⟨e1,_⟩|⟨g,cap,cur,e1,hb,hh,_⟩⟩:=h
 ·rw[e1]at hx;cases hx
 ·rw[e1]at hx;injection hx with hx;subst hx;exact⟨_,hh⟩
theorem Ce(k:Nat):List.replicate (k+1) (0:Rat)=List.replicate k 0++ [0]:=by
 rw[List.replicate_succ']
def ZO(w:World)(lo:Nat)(v:Value)(k:Nat):Prop:=QO w lo v (List.replicate k 0) 1
theorem ZO.slice{lo:Nat}{v:Value}{k:Nat}(h:ZO w lo v k):∃D c,v= .slice D k c/\ZL w D k:=by
 obtain⟨D,c,h1,h2,_⟩:=QO.slice h;rw[List.length_replicate]at h1;exact⟨D,c,h1,h2⟩
theorem ZO.push{lo gg cap k:Nat}{v:Value}{xs:List Value}{x y z:Value}(h:BU w (fun k=>k<lo∨v.ownBlock=some k) (List.replicate k 0) xs 1)(hx:xs.length=k*3)(hr:bG w x y z 0 1)(hy:Av (fun k=>k<lo∨v.ownBlock=some k) y)(hz:Av (fun k=>k<lo∨v.ownBlock=some k) z)
 (ho:w'.ownsRow lo 45 3 (.slice (some ⟨gg,0,none⟩) (k+1) cap) (k+1) (xs++ [x,y,z])) (hg:w.grownBy w' v.ownBlock) (iX:v.ownBlock=some gg∨gg=w.heap.size):ZO w' lo (.slice (some ⟨gg,0,none⟩) (k+1) cap) (k+1):=by
 unfold ZO;rw[Ce];have e:(List.replicate k (0:Rat)).length=k:=List.length_replicate;have:=QO.push (l:=List.replicate k 0) (r:=0) h (by rw[e];exact hx) hr hy hz (by rw[e];exact ho) hg iX;rw[e]at this;exact this
end
section
variable {w w':World}{lo k n gg cap:Nat}{u v:Value}
def C5(w:World)(lo:Nat)(u v:Value)(k:Nat):Prop:=∃xs,w.ownsRow lo 45 3 v k xs/\BU w (fun x=>x<lo∨v.ownBlock=some x∨u.ownBlock=some x) (List.replicate k 0) xs 1
theorem C5.nil(w:World)(lo:Nat)(u:Value):C5 w lo u (.slice none 0 0) 0:=⟨[],World.ownsRow_nil _ _ _ _,fun i p hp=>by simp at hp⟩
theorem C5.below(h:C5 w lo u v k)(hb:Below w.heap.size w w'):C5 w' lo u v k:=by
 obtain⟨xs,h1,h2⟩:=h;exact⟨xs,bL h1 (bw.of (P:=fun _=>False) hb) (fun _ _ h=>h),h2.keep hb⟩
theorem C5.abp{us:List Value}{n':Nat}(h:C5 w lo u v k)(hu:w.ownsRow lo 3 1 u n us)(hg:w.grownBy w' u.ownBlock)(iX:u.ownBlock=some gg∨gg=w.heap.size):C5 w' lo (.slice (some ⟨gg,0,none⟩) n' cap) v k:=by
 obtain⟨xs,h1,h2⟩:=h;have hc:=bw.grown hg;have hd:∀x,v.ownBlock=some x->¬some x=u.ownBlock:=fun x hx h3=>(tF h1 hx).ne (tF hu h3.symm) (by decide) rfl;refine⟨xs,bL h1 hc hd,?_⟩;have h3:=h2.wide (Q:=fun x=>(x<lo∨v.ownBlock=some x∨u.ownBlock=some x)∨x=gg) (fun x hx=>hx.elim .inl (fun e=>iX.elim (fun h4=> .inl (.inr (.inr (by rw[h4,e])))) (fun h4=> .inr (by rw[e,h4];exact aj _))));exact(h3.bJ hc (fun x hx=> .inl (.inl (.inr (.inr hx.symm))))).wide (fun x hx=> .inl (hx.elim (fun h=> .inl (.inl h)) (fun h=>h.elim (fun h=> .inl (.inr (.inl h))) (fun h=> .inr (by injection h with h;exact h.symm)))))
theorem C5.push{xs:List Value}{x y z:Value}(h1:w.ownsRow lo 45 3 v k xs)(h2:BU w (fun x=>x<lo∨v.ownBlock=some x∨u.ownBlock=some x) (List.replicate k 0) xs 1)(hr:bG w x y z 0 1)(hy:Av (fun x=>x<lo∨v.ownBlock=some x∨u.ownBlock=some x) y)(hz:Av (fun x=>x<lo∨v.ownBlock=some x∨u.ownBlock=some x) z)
 (ho:w'.ownsRow lo 45 3 (.slice (some ⟨gg,0,none⟩) (k+1) cap) (k+1) (xs++ [x,y,z])) (hg:w.grownBy w' v.ownBlock) (iX:v.ownBlock=some gg∨gg=w.heap.size):C5 w' lo u (.slice (some ⟨gg,0,none⟩) (k+1) cap) (k+1):=by
 have hc:=bw.grown hg;have hx:xs.length=(List.replicate k (0:Rat)).length*3:=by rw[List.length_replicate];exact h1.1
 have h3:=(h2.snoc hx hr hy hz).wide (Q:=fun x=>(x<lo∨v.ownBlock=some x∨u.ownBlock=some x)∨x=gg) (fun x hx=>hx.elim .inl (fun e=>iX.elim (fun h4=> .inl (.inr (.inl (by rw[h4,e])))) (fun h4=> .inr (by rw[e,h4];exact aj _))));refine⟨_,ho,?_⟩;rw[Ce];exact(h3.bJ hc (fun x hx=> .inl (.inl (.inr (.inl hx.symm))))).wide (fun x hx=> .inl (hx.elim (fun h=> .inl (.inl h)) (fun h=>h.elim (fun h=> .inr (by injection h with h;exact h.symm)) (fun h=> .inl (.inr (.inr h))))))
theorem C5.slice(h:C5 w lo u v k):∃D c,v= .slice D k c/\ZL w D k:=by
 obtain⟨xs,h1,h2⟩:=h
 have h3:QO w lo v (List.replicate k 0) 1:=⟨xs,by rw[List.length_replicate];exact h1,fun i r hi=>by
  obtain⟨x,y,z,a1,a2,a3,a4,a5,a6⟩:=h2 i r hi;exact⟨x,y,z,a1,a2,a3,a4,a5.mono (fun k hk=>hk.elim .inl (fun h=> .inr (.inl h))),a6.mono (fun k hk=>hk.elim .inl (fun h=> .inr (.inl h)))⟩⟩
 exact ZO.slice h3
end
theorem Cf(l:Nat->Nat×Nat):∀m i,uf l m i<=i
 |0,i=>aj i
 |m+1,i=>by
  have h:=Cf l m i
  show yw (uf l m) (l m).1 (l m).2 i<=i
  unfold yw;split
  ·omega
  ·exact h
theorem GS(l:Nat->Nat×Nat):∀m i,uf l m (uf l m i)=uf l m i
 |0,i=>rfl
 |m+1,i=>by
  have h:=GS l m;have h1:=h (l m).1;have h2:=h (l m).2
  show yw (uf l m) (l m).1 (l m).2 (yw (uf l m) (l m).1 (l m).2 i)=yw (uf l m) (l m).1 (l m).2 i
  unfold yw
  by_cases e:uf l m i=max (uf l m (l m).1) (uf l m (l m).2)
  ·rw[if_pos e]
   have h3:uf l m (min (uf l m (l m).1) (uf l m (l m).2))=min (uf l m (l m).1) (uf l m (l m).2):=by
    rcases Nat.le_total (uf l m (l m).1) (uf l m (l m).2)with hl|hl
    ·rw[Nat.min_eq_left hl];exact h1
    ·rw[Nat.min_eq_right hl];exact h2
   rw[h3];split<;>rfl
  ·rw[if_neg e,h i,if_neg e]
theorem IU{w:World}{D Di:Option Addr}{N m c ci:Nat}{l:List Bq}(oy:1<=N)(hN:N<=6)(hm:m<=9)(hl:BL w D l 1)(hlm:l.length=m)(hv:NV N l)(hh:∀q∈l,q.h=0)(hz:ZL w Di N):
 Calls Tryz.prog 28 #[.agg #[.int .i64 (N:Int), .slice D m c], .slice Di N ci] w (fun e w'=>∃g,e= .returned (.tuple #[.slice (some ⟨g,0,none⟩) N N, .int .i64 0])/\vR w' g N 68259422311/\Below w.heap.size w w'):=by
 have bC:=bI w (.cells #[.int .i64 (N:Int), .slice D m c] 25);have h0:=aS w (.cells #[.int .i64 (N:Int), .slice D m c] 25);obtain⟨W,hW⟩:=xeq (w.alloc (.cells #[.int .i64 (N:Int), .slice D m c] 25));obtain⟨N0,kz⟩:=xeq w.heap.size;rw[hW]at bC h0;rw[kz]at h0;have l0:N0<W.heap.size:=(au.1 h0).1;have hX0:W.cell? ⟨N0,0,none⟩=some (.int .i64 (N:Int)):=aT W N0 0 _ _ (0,0) h0;have hX1:W.cell? ⟨N0,1,none⟩=some (.slice D m c):=aT W N0 1 _ _ (0,0) h0;have hval:=B6 (c:=c) (by omega) (by omega) (hl.below bC) hlm hv (by decide);have HL:=ah hl;have HZ:=ah hz;have HV:=ah hv;have HH:=ah hh;have HM:=ah hlm;have HX:=ah (fun w' (hb:Below W.heap.size W w')=>ai (bn hb l0 hX0) (bn hb l0 hX1));have HB:=ah bC;have HW:=ah hW;have EN:=ah kz;have hwW:w.heap.size<=W.heap.size:=bC.size;have XZ:=ah hwW;clear hl hz hv hh hlm hW kz bC h0 hX0 hX1 hwW;go_enter Tryz.func28,Tryz.ntmps28
 go_wp2_with fail
 rw[HW.out,EN.out];refine hval.mono ?_;rintro e w1 ⟨rfl,g1⟩;clear hval;obtain⟨x0,x1⟩:=HX.out _ g1;have hb1:=HB.out.trans (g1.mono XZ.out);have hsl:=Mq (c:=c) (by omega) (by omega) (HL.out.below hb1) HM.out HV.out;have Yp:=ah g1;have Co:=ah hb1;clear g1 hb1;go_wp2_with fail
 refine hsl.mono ?_;rintro e w2 ⟨g0,rfl,hg0,vG,g2⟩;clear hsl x0 x1;have hg2:=Yp.out.trans (g2.mono Yp.out.size);have hb2:=Co.out.trans (g2.mono Co.out.size);have huN:∀i,i<N->uf (qQ l) m i<N:=fun i hi=>aP (Cf _ _ _) hi;have fS:=Cd (c:=ci) (by omega) vG huN (HZ.out.below hb2);have QG:=ah (ai vG (ai hg2 hb2));clear hg0 vG g2 hg2 hb2;go_wp2_with fail
 refine fS.mono ?_;rintro e w3 ⟨rfl,g3⟩;clear fS;obtain⟨vG,hg2,hb2⟩:=QG.out;have zU:=hg2.trans (g3.mono hg2.size);have fq:=hb2.trans (g3.mono hb2.size);obtain⟨x0,x1⟩:=HX.out _ zU;have hmk:=BW (m:Int) m rfl (by omega) w3;have jG:ZO (w3.alloc (.cells (madeCells (Value.agg #[.bool false, .slice none 0 0, .slice none 0 0]).cells (m*3)) 45)) w3.heap.size (.slice (some ⟨w3.heap.size,0,none⟩) 0 m) 0:=QO.made w3 _ m 1 _ (aj _) (by omega);have b4:=bI w3 (.cells (madeCells (Value.agg #[.bool false, .slice none 0 0, .slice none 0 0]).cells (m*3)) 45);obtain⟨w4,iG⟩:=xeq (w3.alloc (.cells (madeCells (Value.agg #[.bool false, .slice none 0 0, .slice none 0 0]).cells (m*3)) 45));rw[iG]at hmk jG b4;have ox:cC w3 g0 N (fun i=>(uf (qQ l) m i:Int)):=vG.below g3 vG.lt;obtain⟨Z0,iC⟩:=xeq w3.heap.size;have Jo:W.heap.size<=Z0:=by rw[<-iC];exact zU.size
 have x2:=bn b4 (ak l0 zU.size) x0;have x3:=bn b4 (ak l0 zU.size) x1;have al9:g0<Z0:=by rw[<-iC];exact ox.lt
 have ao3:Z0<=w4.heap.size:=by rw[<-iC];exact b4.size
 have S3:=ox.below b4 ox.lt;have hg4:=zU.trans (b4.mono zU.size);have hb4:=fq.trans (b4.mono fq.size);rw[iC]at hmk jG;have WY:=ah (ai S3 (ai hg4 hb4));have HQ0:=ah jG;clear vG hg2 hb2 g3 zU fq jG b4 iG ox S3 hg4 hb4 iC QG;go_wp2_with fail
 clear hmk x0 x1 x2 x3;have J5:w.heap.size<=Z0:=ay XZ.out Jo;have wF:=ah J5
 go_loopw [7,42] (fun u t wr=>∃k:Nat,k<=m/\t= .int .i64 (k:Int)/\ZO wr Z0 u k/\Below Z0 w4 wr) (fun _ t _=>m- (intOf t).toNat)
 case atStart=>exact⟨0,aF _,rfl,HQ0.out,aq _ _⟩
 case round=>
  clear HQ0 J5;obtain⟨k,hk,rfl,jG,hb⟩:=hrel;have cF:=WY.out.2.2.trans (hb.mono wF.out);have hzs:Z0<=wr.heap.size:=by have:=hb.size;omega
  by_cases hlk:k<m
  ·obtain⟨q,hq⟩:∃q,l[k]?=some q:=⟨l[k]'(by rw[HM.out];exact hlk),aB _⟩;obtain⟨bb,bo,rfl,hbl,⟨e0,e1⟩,p1,p2,p3,y1,y2,y3,⟨e2,e3,e4⟩,⟨e5,e6,e7⟩,hr1,iW⟩:=(HL.out.below cF).nth hq;obtain⟨s0,s1,s2⟩:=hr1.st;obtain⟨s3,s4,s5⟩:=iW.st;obtain⟨vO,vP,-,-⟩:=HV.out q (aD hq);have hqh:=HH.out q (aD hq);rw[hqh]at iW;obtain⟨qf,lE⟩:=xeq q.f;obtain⟨qt,lF⟩:=xeq q.t;rw[lE]at e0 vO;rw[lF]at e1 vP;have u0:(0:Int)<=(k:Int):=by omega
   have u1:(k:Int)<m:=by omega
   have gm:=bI wr (.cells #[.int .i64 (qf:Int), .int .i64 (qt:Int),p1,p2,p3,y1,y2,y3] 47);have h5:=aS wr (.cells #[.int .i64 (qf:Int), .int .i64 (qt:Int),p1,p2,p3,y1,y2,y3] 47);obtain⟨wb,gh⟩:=xeq (wr.alloc (.cells #[.int .i64 (qf:Int), .int .i64 (qt:Int),p1,p2,p3,y1,y2,y3] 47));obtain⟨Ne,fG⟩:=xeq wr.heap.size;rw[gh]at gm h5;rw[fG]at h5;obtain⟨⟨z0,z1,z2,z3,z4,z5,z6,z7⟩,-⟩:=fQ h5;have lC:=ah gh;have ny:=ah fG;have hmul:=iT (w:=wb) ((hr1.keep gm)) (iW.keep gm) (by decide) (show q.s*0=0 from Rat.mul_zero _);have hq1:=QO.below jG gm;have Iz:=ah (hb.trans (gm.mono hzs));have Hy:Z0<=wb.heap.size:=ay hzs gm.size;clear hr1 iW hq lE lF gm h5 gh fG cF hb jG vO vP hqh hzs;go_upto_region 12 with fail
   (try rw[lC.out]);(try rw[ny.out]);clear e0 e1 e2 e3 e4 e5 e6 e7 s0 s1 s2 s3 s4 s5;have HQ1:=ah hq1;clear hq1;go_wp2_with fail
   refine hmul.mono ?_;rintro ret w6 ⟨b6,s6,t6,rfl,o6,g6⟩;clear hmul z0 z1 z2 z3 z4 z5 z6 z7;have Wj:Z0<=w6.heap.size:=ay Hy g6.size;have ba:=bI w6 (.cells #[b6,s6,t6] 45);have h6:(w6.alloc (.cells #[b6,s6,t6] 45)).heap[w6.heap.size]?=some (.cells #[b6,s6,t6] 45 (0,0)):=aS w6 _;obtain⟨wa,iP⟩:=xeq (w6.alloc (.cells #[b6,s6,t6] 45));rw[iP]at ba h6;have hba:=g6.trans (ba.mono g6.size);obtain⟨xs,hown,Mg⟩:=QO.below HQ1.out hba;have hblk:=QO.blk HQ1.out;rw[List.length_replicate]at hown;have WZ:=(o6.is (fk (aj 1))).keep ba;have eJ:Av (fun x=>x<Z0∨Value.ownBlock u7=some x) s6/\Av (fun x=>x<Z0∨Value.ownBlock u7=some x) t6:=⟨o6.av.1.mono (fun x hx=>hx.elim (fun h=>ak h Hy) (fun h=>(hblk x h).2)),o6.av.2.mono (fun x hx=>hx.elim (fun h=>ak h Hy) (fun h=>(hblk x h).2))⟩;have hone:=WZ.rN;obtain⟨y01,y02,y03⟩:=o6.cl;have xX:Z0<=wa.heap.size:=ay Wj ba.size;have HOL:=ah hown.lt;have Eh:=ah (Iz.out.trans (hba.mono Hy));have Ss:=ah (fun g7 bR w7 ew dR eO=>ZO.push (w':=w7) (gg:=g7) (cap:=bR) Mg hown.1 WZ eJ.1 eJ.2 ew dR eO);clear o6 g6 hba Mg WZ eJ ba
   go_wp2_with (first
    |(at_builtin;(try rw[iP]);refine Sd rfl (.tmp 46) (.tmp 52) rfl rfl hown rfl h6 hone (by omega) xX ?_;intro g7 bR w7 ew dR eO kR))
   have c7:=bw.grown dR;have fW:=Eh.out.trans (c7.below xX (fun x hx h=>by have:=(HOL.out _ h.symm).1;omega));have Yv:=ah (ai (Ss.out g7 bR w7 ew dR eO) fW);clear ew dR eO kR c7 fW h6 hown hone y01 y02 y03 iP hblk;go_roundw
   case rel=>exact⟨k+1,by omega,by go_num,Yv.out⟩
   case measure=>simp[intOf];omega
  ·obtain rfl:m=k:=by omega
   obtain⟨D5,c5,rfl,hzl⟩:=ZO.slice jG;have tG:=WY.out.2.1.trans (hb.mono Jo);obtain⟨x0,x1⟩:=HX.out _ tG;have uh:=Qq (c:=c) (cf:=c5) (by omega) (by omega) (HL.out.below cF) HM.out HV.out hzl;have St:cC wr g0 N (fun i=>(uf (qQ l) m i:Int)):=WY.out.1.below hb al9;have Kf:=ah (ai St (ai tG cF));clear jG hb cF hzs hzl tG St;go_wp2_with fail
   refine uh.mono ?_;rintro ret w5 ⟨g5,rfl,W7,Km⟩;clear uh x0 x1;obtain⟨Z1,W8⟩:=xeq w5.heap.size;have NH:cC w5 g0 N (fun i=>(uf (qQ l) m i:Int)):=Kf.out.1.below Km Kf.out.1.lt;have W9:=Kf.out.2.1.trans (Km.mono Kf.out.2.1.size);have Xa:=Kf.out.2.2.trans (Km.mono Kf.out.2.2.size);have afj:W.heap.size<=Z1:=by rw[<-W8];exact W9.size
   have afk:w.heap.size<=Z1:=by rw[<-W8];exact Xa.size
   have abr:g0<Z1:=by rw[<-W8];exact NH.lt
   have MA:g5<Z1:=by rw[<-W8];exact W7.lt
   obtain⟨s,es⟩:=xeq (uf (qQ l) m);have hs0:s 0=0:=by rw[<-es];exact Nat.le_zero.1 (Cf _ _ 0)
   have zI:Gd.J2 N (pO l) s:=by rw[<-es];exact Mw HM.out (fun i hi=>⟨Cf _ _ _,GS _ _ _⟩)
   have MB:cC w5 g0 N (fun i=>(s i:Int)):=by rw[<-es];exact NH
   have Kj:=ah (ai MB (ai W9 (ai Xa W7)));have HZ1:=ah (ai W8 (ai afk afj));have HIS:=ah (ai hs0 zI);have hZ1s:Z1<=w5.heap.size:=by rw[<-W8];exact aj _
   clear W7 Km NH MB W9 Xa W8 es afk afj hs0 zI Kf WY huN;go_wp2_with fail
   go_loopw [11,12,60] (fun u v t wr=>∃k:Nat,k<=N/\t= .int .i64 (k:Int)/\wr.ownsRow Z1 3 1 u (fR s k).length (cH (fR s k))/\C5 wr Z1 u v (fR s k).length/\Below Z1 w5 wr) (fun _ _ t _=>N- (intOf t).toNat)
   case atStart=>exact⟨0,aF _,rfl,World.ownsRow_nil _ _ _ _,C5.nil _ _ _,aq _ _⟩
   case round=>
    obtain⟨k,hk,rfl,how,X0,hb⟩:=hrel;have hzs:Z1<=wr.heap.size:=by have:=hb.size;omega
    have hrow:cC wr g0 N (fun i=>(s i:Int)):=Kj.out.1.below hb abr;have X3:(fR s k).length<=k:=ay (List.length_filter_le _ _) (by rw[List.length_range];exact aj _)
    by_cases hlk:k<N
    ·have x0:=hrow.cell hlk;obtain⟨VA,IV⟩:=xeq (s k);rw[IV]at x0;have u0:(0:Int)<=(k:Int):=by omega
     have u1:(k:Int)<N:=by omega
     by_cases hks:k=VA
     ·have hne:(k:Int)=(VA:Int):=by omega
      have hos:fR s (k+1)=fR s k:=by rw[kN,if_neg (by rw[IV];exact fun h=>h hks)]
      have HR:=ah (ai how (ai X0 hb));have VB:=ah hos;clear how X0 hb hrow hos IV hzs X3;subst hks;go_wp2_with fail
      go_roundw
      case rel=>exact⟨k+1,by omega,by go_num,by rw[VB.out];exact HR.out⟩
      case measure=>simp[intOf];omega
     ·have hne:¬(k:Int)=(VA:Int):=by omega
      have hos:fR s (k+1)=fR s k++ [k]:=by rw[kN,if_pos (by rw[IV];exact hks)]
      have ba:=bI wr (.cells #[.int .i64 (k:Int)] 3);have h6:(wr.alloc (.cells #[.int .i64 (k:Int)] 3)).heap[wr.heap.size]?=some (.cells #[.int .i64 (k:Int)] 3 (0,0)):=aS wr _;obtain⟨wa,iP⟩:=xeq (wr.alloc (.cells #[.int .i64 (k:Int)] 3));rw[iP]at ba h6;have jQ:=bL how (bw.of (P:=fun _=>False) ba) (fun _ _ h=>h);have xX:Z1<=wa.heap.size:=ay hzs ba.size;have HOL:=ah jQ.lt;have HZO:=ah (X0.below ba);have Eh:=ah (hb.trans (ba.mono hzs));have VB:=ah hos;clear how X0 hb hrow hos IV ba hzs;go_upto_region 21 with fail
      clear x0
      go_upto_region 22 with (first
       |(at_builtin;(try rw[iP]);refine mP rfl (.tmp 68) (.tmp 70) rfl rfl jQ rfl h6 (by omega) xX ?_;intro g7 bR w7 ew dR eO kR))
      have c7:=bw.grown dR;have fW:=Eh.out.trans (c7.below xX (fun x hx h=>by have:=(HOL.out _ h.symm).1;omega));have CK:=HZO.out.abp (n':=(fR s k).length+1) (cap:=bR) jQ dR eO;have Od:Z1<=w7.heap.size:=ay xX c7.size
      have Jz:w7.ownsRow Z1 3 1 (.slice (some ⟨g7,0,none⟩) ((fR s k).length+1) bR) (fR s (k+1)).length (cH (fR s (k+1))):=by
       rw[VB.out,show cH (fR s k++ [k])=cH (fR s k)++ [.int .i64 (k:Int)] by simp[cH],List.length_append];exact ew
      obtain⟨lo',sF⟩:=xeq ((fR s k).length);rw[sF]at CK Jz;have afm:Below w.heap.size w w7:=Kj.out.2.2.1.trans (fW.mono HZ1.out.2.1);obtain⟨ib,io,rfl,hib,ix,iy,iz,q0,q1,q2,hri⟩:=HZ.out.nth hlk;have W7:jA w5 g5 N:=Kj.out.2.2.2;have hg5w:g5<w5.heap.size:=W7.lt;have Xb:jA w7 g5 N:=W7.below (by rw[HZ1.out.1];exact fW);obtain⟨jx,jy,jz,⟨j0,j1,j2⟩,Vt⟩:=Xb.cells hlk;have hbd:Below w.heap.size w w7.drew:=afm.drew;have q0':=bn hbd hib q0;have q1':=bn hbd hib q1;have q2':=bn hbd hib q2;have afn:=hri.keep hbd;have VD:ib<w7.drew.heap.size:=ak hib hbd.size;have VE:g5<w7.drew.heap.size:=Xb.lt;have hsub:=jm (w:=w7.drew) afn (Vt.1.keep (aq _ _).drew) (by decide) (show(0:Rat) -0=0 from by grind);have dH:=ah (show∀w',Below w7.drew.heap.size w7.drew w'->w'.cell? ⟨ib,io+k*3,none⟩=some ix/\w'.cell? ⟨ib,io+k*3+1,none⟩=some iy/\w'.cell? ⟨ib,io+k*3+2,none⟩=some iz/\w'.cell? ⟨g5,k*3,none⟩=some jx/\w'.cell? ⟨g5,k*3+1,none⟩=some jy/\w'.cell? ⟨g5,k*3+2,none⟩=some jz from fun w' hb=>⟨bn hb VD q0',bn hb VD q1',bn hb VD q2',bn hb VE j0,bn hb VE j1,bn hb VE j2⟩)
      have yc:∀x,x<Z1->¬some x=Value.ownBlock u12:=fun x hx h=>by
       obtain⟨xs0,G2,-⟩:=id CK;have:=(G2.lt x h.symm).1;omega
      have VF:ib<Z1:=ak hib HZ1.out.2.1
      have HCX:=ah (show∀Wb w',Below w7.drew.heap.size w7.drew Wb->bw (fun x=>some x=Value.ownBlock u12) Wb w'->w'.cell? ⟨ib,io+k*3,none⟩=some ix/\w'.cell? ⟨ib,io+k*3+1,none⟩=some iy/\w'.cell? ⟨ib,io+k*3+2,none⟩=some iz/\w'.cell? ⟨g5,k*3,none⟩=some jx/\w'.cell? ⟨g5,k*3+1,none⟩=some jy/\w'.cell? ⟨g5,k*3+2,none⟩=some jz from fun Wb w' hb hc=>by
       obtain⟨a0,a1,a2,a3,a4,a5⟩:=dH.out _ hb;exact⟨hc.cell (yc _ VF) a0,hc.cell (yc _ VF) a1,hc.cell (yc _ VF) a2,hc.cell (yc _ MA) a3,hc.cell (yc _ MA) a4,hc.cell (yc _ MA) a5⟩)
      have Yv:=ah (ai Jz (ai CK (ai fW Od)));have hll:lo'<=N:=by omega
      clear ew dR eO kR c7 fW CK Od Jz afm q0 q1 q2 q0' q1' q2' hri afn W7 Xb Vt hbd yc h6 jQ iP xX j0 j1 j2;rw[sF];refine wp_region_held_drew (S:=(fun w'=>w'.cell? ⟨ib,io+k*3,none⟩=some ix/\w'.cell? ⟨ib,io+k*3+1,none⟩=some iy/\w'.cell? ⟨ib,io+k*3+2,none⟩=some iz/\w'.cell? ⟨g5,k*3,none⟩=some jx/\w'.cell? ⟨g5,k*3+1,none⟩=some jy/\w'.cell? ⟨g5,k*3+2,none⟩=some jz)) (by kernel_rfl) (dH.out _ (aq _ _)) (fun aU=>?_);refine tq 0 aU ?_;refine tq 1 aU ?_;refine tq 2 aU ?_;refine tq 3 aU ?_;refine tq 4 aU ?_;refine tq 5 aU ?_;refine tq 6 aU ?_;refine tq 7 aU ?_;refine tq 8 aU ?_;refine tv 9 (fun κ hκ=>?_);go_simp;go_at_call 30;refine hsub.mono ?_;rintro ret w9 ⟨b9,s9,t9,rfl,o9,g9⟩;clear hsub;have k9:=dH.out _ g9;obtain⟨y01,y02,y03⟩:=o9.cl;have ba:=bI w9 (.cells #[b9,s9,t9] 45);have h6:(w9.alloc (.cells #[b9,s9,t9] 45)).heap[w9.heap.size]?=some (.cells #[b9,s9,t9] 45 (0,0)):=aS w9 _;obtain⟨Wb,oV⟩:=xeq (w9.alloc (.cells #[b9,s9,t9] 45));obtain⟨nb,hnb⟩:=xeq w9.heap.size;rw[oV]at ba h6;rw[hnb]at h6;have hgb:=g9.trans (ba.mono g9.size);have k10:=dH.out _ hgb;obtain⟨Jz,CK,fW,Od⟩:=Yv.out;have GF:Below w7.heap.size w7 Wb:=(aq w7.heap.size w7).drew.trans hgb;obtain⟨xs,hown,Mg⟩:=CK.below GF;have hou:=bL Jz (bw.of (P:=fun _=>False) GF) (fun _ _ h=>h);have hr9:=(o9.is (fk (aj 1))).keep ba;obtain⟨xs0,G2,-⟩:=id CK;have hvl:=G2.lt;have hul:=Jz.lt;have eJ:Av (fun x=>x<Z1∨Value.ownBlock u12=some x∨(Value.slice (some ⟨g7,0,none⟩) (lo'+1) bR).ownBlock=some x) s9/\Av (fun x=>x<Z1∨Value.ownBlock u12=some x∨(Value.slice (some ⟨g7,0,none⟩) (lo'+1) bR).ownBlock=some x) t9:=⟨o9.av.1.mono (fun x hx=>hx.elim (fun h=>ak h Od) (fun h=>h.elim (fun h=>(hvl x h).2) (fun h=>(hul x h).2))),o9.av.2.mono (fun x hx=>hx.elim (fun h=>ak h Od) (fun h=>h.elim (fun h=>(hvl x h).2) (fun h=>(hul x h).2)))⟩;have hone:=hr9.rN;have jR:Z1<=Wb.heap.size:=ay Od GF.size;have rB:=ah (fW.trans (GF.mono Od));have Ss:=ah (fun gg cap w' ho gr or=>ai (C5.push (w':=w') (gg:=gg) (cap:=cap) hown Mg hr9 eJ.1 eJ.2 ho gr or) (ai (bL hou (bw.grown gr) (fun x hx h=>(tF hou hx).ne (tF hown h.symm) (by decide) rfl)) (rB.out.trans ((bw.grown gr).below jR (fun x hx h=>by have:=(hown.lt _ h.symm).1;omega)))));have HSK:=ah (fun w' (hc:bw (fun x=>some x=Value.ownBlock u12) Wb w')=>HCX.out Wb w' hgb hc);have Ab:=ah oV;have uY:=ah hnb;clear o9 g9 ba hgb GF Jz CK fW Od Mg hou hr9 hvl hul eJ oV hnb G2;go_wp2_with fail
      refine hκ.out _ _ ?_ (fun aU=>?_)
      ·exact k9
      clear hκ κ;refine tu ?_;refine tv 10 (fun κ hκ=>?_);go_simp;(try rw[Ab.out]);(try rw[uY.out]);refine hκ.out _ _ ?_ (fun aU=>?_)
      ·exact k10
      clear hκ κ;refine tu ?_;refine tv 11 (fun κ hκ=>?_);refine step_append_lies _ rfl (.tmp 72) (.tmp 82) 49 rfl Z1 45 _ (.agg #[.bool false, .slice none 0 0, .slice none 0 0]) 3 56 Tryz.underlying49 ko.1 ko.2.1 ko.2.2.1 ko.2.2.2 rfl (by decide) u12 _ _ rfl hown ⟨nb,0,none⟩ 1 1 [b9,s9,t9] rfl rfl (World.news_of_block h6) hone (by decide) (by simp only[maxLen];omega) (by omega) jR Wb.heap.size rfl ?_;intro g8 afp w8 Jz gr8 or8 lt8;have k11:=HSK.out w8 (bw.grown gr8);have sG:=ah (Ss.out g8 afp w8 Jz gr8 or8);clear Jz gr8 or8;refine hκ.out _ _ ?_ (fun aU=>?_)
      ·exact k11
      clear hκ κ;refine tu ?_;refine tq 12 aU ?_;refine td ?_ _
      have Lc:=ah (show w8.ownsRow Z1 3 1 (.slice (some ⟨g7,0,none⟩) (lo'+1) bR) (fR s (k+1)).length (cH (fR s (k+1)))/\C5 w8 Z1 (.slice (some ⟨g7,0,none⟩) (lo'+1) bR) (.slice (some ⟨g8,0,none⟩) (lo'+1) afp) (fR s (k+1)).length/\Below Z1 w5 w8 from by
       have e:(fR s (k+1)).length=lo'+1:=by rw[VB.out,List.length_append,sF];rfl
       rw[e];have h1:=sG.out;rw[e]at h1;exact⟨h1.2.1,h1.1,h1.2.2⟩)
      clear aU k9 k10 k11 sG Ss HSK HCX dH Yv rB Ab uY h6 hown hone jR y01 y02 y03;go_wp2_with fail
      go_roundw
      case rel=>exact⟨k+1,by omega,by go_num,Lc.out⟩
      case measure=>simp[intOf];omega
    ·obtain rfl:N=k:=by omega
     obtain⟨D7,c7,rfl⟩:=lH how;obtain⟨D8,c8,rfl,hzl⟩:=X0.slice
     have hil:IL wr D7 (fR s N).length (vk s N):=fun h0=>by
      obtain⟨gg,cc,h1,_,_⟩:=how.form h0;injection h1 with h1 _ _
      subst h1;have hlt:=how.lt gg rfl;refine⟨gg,0,rfl,hlt.2,fun i hi=>?_⟩
      have h2:=how.cells (g:=gg) rfl i (.int .i64 (vk s N i:Int)) (by
       unfold cH vk;rw[List.getElem?_map,aB hi];rfl)
      rw[qq]at h2;exact h2
     have cF:Below w.heap.size w wr:=Kj.out.2.2.1.trans (hb.mono HZ1.out.2.1);have tG:Below W.heap.size W wr:=Kj.out.2.1.trans (hb.mono HZ1.out.2.2);have S5:(fR s N).length<=5:=by have:=GN s N HIS.out.1;omega
     obtain⟨x0,x1⟩:=HX.out _ tG;have Qr:=IQ (c:=c) (cx:=c7) (cr:=c8) hN S5 hm (HL.out.below cF) HM.out HV.out (zH s N) HIS.out.2 hil hzl;have HIL:=ah hil;have rB:=ah (ai cF tG);obtain⟨n,en⟩:=xeq ((fR s N).length);have HN:=ah en;rw[en]at Qr S5;clear how X0 hb hzs X3 hil hzl cF tG
     try rw[en]
     go_wp2_with fail
     refine Qr.mono ?_;rintro ret w9 ⟨g9,f9,rfl,yh,JG,gb9⟩;clear Qr x0 x1;have CM:=rB.out.2.trans (gb9.mono rB.out.2.size);have qM:=rB.out.1.trans (gb9.mono rB.out.1.size);have Fv:=HIL.out.below gb9;rw[en]at Fv;obtain⟨x0,x1⟩:=HX.out _ CM;have hmk:=mY (N:Int) N rfl (by omega) w9;have J6:vR (w9.alloc (.cells (dF N fun _=>Qc.z) 45)) w9.heap.size N 68259422311:=vR.mono (show vR _ _ N 1 from jA.new w9 N) (by decide);have b10:=bI w9 (.cells (dF N fun _=>Qc.z) 45);obtain⟨GJ,hQ⟩:=xeq (dF N (fun _=>Qc.z));rw[hQ]at hmk J6 b10;obtain⟨w10,wX⟩:=xeq (w9.alloc (.cells GJ 45));obtain⟨gA,eA⟩:=xeq w9.heap.size;rw[wX]at hmk J6 b10;rw[eA]at hmk J6;have hA10:gA<=w10.heap.size:=by rw[<-eA];exact b10.size
     have HS9:=ah (ai yh (ai JG (ai Fv (ai b10 (ai eA qM)))));have HZA:=ah J6;have E0:=ah (show mkRat (0:Int) 1=(0:Rat)from by decide);have hwA:w.heap.size<=gA:=by rw[<-eA];exact qM.size
     clear yh JG gb9 CM qM Fv J6 b10 hQ wX eA en;go_wp2_with fail
     clear hmk x0 x1
     go_loopw [100] (fun t wr=>∃k:Nat,k<=N/\t= .int .i64 (k:Int)/\vR wr gA N 68259422311/\Below gA w10 wr) (fun t _=>N- (intOf t).toNat)
     case atStart=>exact⟨0,aF _,rfl,HZA.out,aq _ _⟩
     case round=>
      clear HZA;obtain⟨k,hk,rfl,hz,hb⟩:=hrel
      by_cases hlk:k<N
      ·have hfi:=fO (w:=wr) (na:=0) (by decide) (by decide) E0.out;have v0:(0:Int)<=(k:Int):=by omega
       have v1:(k:Int)<N:=by omega
       have HS:=ah (ai hz hb);clear hz hb;go_wp2_with fail
       refine hfi.mono ?_;rintro ret w3 ⟨b3,s3,t3,rfl,o3,g3⟩;clear hfi;have Jr:=HS.out.1.below g3;have hzs:gA<=wr.heap.size:=by have:=HS.out.2.size;omega
       obtain⟨cb,cs_,ct,⟨c0,c1,c2⟩,-⟩:=Jr.cells hlk;obtain⟨Cs,GZ,JC⟩:=Jr.sA k;obtain⟨o0,o1,o2⟩:=o3.st;have hro:RO w3 (fun x=>x=gA) b3 s3 t3 0 68259422311:=o3.ro (fk (by decide)) (fun x e=>by rw[e];exact HS.out.1.lt);have hput:=Jr.put hlk hro;have hcs:=bw.jc gA k w3 b3 s3 t3;have HR:=ah (ai hput ((HS.out.2.trans (g3.mono hzs)).trans (hcs.below (ay hzs g3.size) (fun x hx e=>by omega))));clear o3 g3 Jr hro hput hcs;go_wp2_with fail
       go_roundw
       case rel=>exact⟨k+1,by omega,by go_num,HR.out⟩
       case measure=>simp[intOf];omega
      ·obtain rfl:N=k:=by omega
       have SW:=ah (ai hz hb);clear hz hb;go_wp2_with fail
       go_loopw [110] (fun t wr=>∃k:Nat,k<=n/\t= .int .i64 (k:Int)/\vR wr gA N 68259422311/\Below gA w10 wr) (fun t _=>n- (intOf t).toNat)
       case atStart=>exact⟨0,aF _,rfl,SW.out⟩
       case round=>
        clear SW;obtain⟨k,hk,rfl,hz,hb⟩:=hrel;obtain⟨yh,JG,Fv,b10,eA,qM⟩:=HS9.out;have kS:Below w9.heap.size w9 wr:=b10.trans (by rw[eA];exact hb)
        by_cases hlk:k<n
        ·obtain⟨ob,oo,rfl,X3,X4⟩:=(Fv.below kS) (by omega);have x0:=X4 k hlk;have hoN:vk s N k<N:=(zH s N).lt k (by rw[HN.out];exact hlk);obtain⟨ok,eok⟩:=xeq (vk s N k);rw[eok]at x0 hoN;obtain⟨q0,q1,q2⟩:=(yh.below kS).cell hlk;obtain⟨hk1,hk0⟩:=JG k hlk;have hro:=hk1.1.ro (M:=fun x=>x=gA) (fun x e=>by rw[e,eA];exact aj _) kS;rw[hk0]at hro;obtain⟨fb,efb⟩:=xeq ((f9 k).b);obtain⟨fs,efs⟩:=xeq ((f9 k).s);obtain⟨ft,eft⟩:=xeq ((f9 k).t);rw[efb]at q0;rw[efs]at q1;rw[eft]at q2;rw[efb,efs,eft]at hro;obtain⟨cb,cs_,ct,⟨c0,c1,c2⟩,-⟩:=hz.cells hoN;obtain⟨Cs,GZ,JC⟩:=hz.sA ok;obtain⟨o0,o1,o2⟩:=hro.1.st;have v0:(0:Int)<=(k:Int):=by omega
         have v1:(k:Int)<n:=by omega
         have v2:(0:Int)<=(ok:Int):=by omega
         have v3:(ok:Int)<N:=by omega
         have hput:=hz.put hoN hro;have hcs:=bw.jc gA ok wr fb fs ft;have HR:=ah (ai hput (hb.trans (hcs.below (by have:=hb.size;omega) (fun x hx e=>by omega))));clear hz hb yh JG Fv b10 qM kS X4 hk1 hk0 hro hput hcs efb efs eft eok;go_wp2_with fail
         go_roundw
         case rel=>exact⟨k+1,by omega,by go_num,HR.out⟩
         case measure=>simp[intOf];omega
        ·obtain rfl:n=k:=by omega
         have HR:=ah (show vR wr gA N 68259422311/\Below w.heap.size w wr from⟨hz,qM.trans (kS.mono qM.size)⟩);clear hz hb yh JG Fv b10 qM kS;go_wp2_with fail
         go_ret2;exact⟨gA,rfl,HR.out⟩
theorem MC{w:World}{D Di:Option Addr}{N m c ci:Nat}{l:List Bq}(oy:1<=N)(hN:N<=6)(hm:m<=9)(hl:BL w D l 1)(hlm:l.length=m)(hv:NV N l)(hh:∀q∈l,q.h=0)(hz:ZL w Di N):
 Calls Tryz.prog 10 #[.agg #[.int .i64 (N:Int), .slice D m c], .slice Di N ci] w (fun e w'=>∃D' c',e= .returned (.tuple #[.slice D' m c', .int .i64 0])/\ZL w' D' m/\Below w.heap.size w w'):=by
 have bC:=bI w (.cells #[.int .i64 (N:Int), .slice D m c] 25);have h0:=aS w (.cells #[.int .i64 (N:Int), .slice D m c] 25);obtain⟨W,hW⟩:=xeq (w.alloc (.cells #[.int .i64 (N:Int), .slice D m c] 25));obtain⟨N0,kz⟩:=xeq w.heap.size;rw[hW]at bC h0;rw[kz]at h0;have l0:N0<W.heap.size:=(au.1 h0).1;have hX1:W.cell? ⟨N0,1,none⟩=some (.slice D m c):=aT W N0 1 _ _ (0,0) h0;have han:=IU (c:=c) (ci:=ci) oy hN hm (hl.below bC) hlm hv hh (hz.below bC);have HL:=ah hl;have HV:=ah hv;have HH:=ah hh;have HM:=ah hlm;have HX:=ah (fun w' (hb:Below W.heap.size W w')=>bn hb l0 hX1);have HB:=ah bC;have HW:=ah hW;have EN:=ah kz;have XZ:=ah (show w.heap.size<=W.heap.size from bC.size);clear hl hz hv hh hlm hW kz bC h0 hX1;go_enter Tryz.func10,Tryz.ntmps10
 go_wp2_with fail
 rw[HW.out];(try rw[EN.out]);refine han.mono ?_;rintro e w3 ⟨gA,rfl,J6,g3⟩;clear han;have fq:=HB.out.trans (g3.mono XZ.out);have x1:=HX.out _ g3;have hmk:=BW (m:Int) m rfl (by omega) w3;have jG:ZO (w3.alloc (.cells (madeCells (Value.agg #[.bool false, .slice none 0 0, .slice none 0 0]).cells (m*3)) 45)) w3.heap.size (.slice (some ⟨w3.heap.size,0,none⟩) 0 m) 0:=QO.made w3 _ m 1 _ (aj _) (by omega);have b4:=bI w3 (.cells (madeCells (Value.agg #[.bool false, .slice none 0 0, .slice none 0 0]).cells (m*3)) 45);obtain⟨w4,iG⟩:=xeq (w3.alloc (.cells (madeCells (Value.agg #[.bool false, .slice none 0 0, .slice none 0 0]).cells (m*3)) 45));rw[iG]at hmk jG b4;obtain⟨Z0,iC⟩:=xeq w3.heap.size;have x3:=bn b4 (ak l0 g3.size) x1;have ao3:Z0<=w4.heap.size:=by rw[<-iC];exact b4.size
 have hgAZ:gA<Z0:=by rw[<-iC];exact J6.lt
 have hb4:=fq.trans (b4.mono fq.size);have wF:=ah (show w.heap.size<=Z0 from by rw[<-iC];exact fq.size);rw[iC]at hmk jG;have WY:=ah (ai J6 (ai b4 (ai iC hb4)));have HQ0:=ah jG;clear J6 g3 fq jG b4 iG hb4 iC;go_wp2_with fail
 clear hmk x1 x3
 go_loopw [8,28] (fun u t wr=>∃k:Nat,k<=m/\t= .int .i64 (k:Int)/\ZO wr Z0 u k/\Below Z0 w4 wr) (fun _ t _=>m- (intOf t).toNat)
 case atStart=>exact⟨0,aF _,rfl,HQ0.out,aq _ _⟩
 case round=>
  clear HQ0;obtain⟨k,hk,rfl,jG,hb⟩:=hrel;have cF:=WY.out.2.2.2.trans (hb.mono wF.out);have hzs:Z0<=wr.heap.size:=by have:=hb.size;omega
  by_cases hlk:k<m
  ·obtain⟨q,hq⟩:∃q,l[k]?=some q:=⟨l[k]'(by rw[HM.out];exact hlk),aB _⟩;obtain⟨bb,bo,rfl,hbl,⟨e0,e1⟩,p1,p2,p3,y1,y2,y3,⟨e2,e3,e4⟩,⟨e5,e6,e7⟩,hr1,iW⟩:=(HL.out.below cF).nth hq;obtain⟨s0,s1,s2⟩:=hr1.st;obtain⟨s3,s4,s5⟩:=iW.st;obtain⟨vO,vP,-,-⟩:=HV.out q (aD hq);have hqh:=HH.out q (aD hq);rw[hqh]at iW;obtain⟨qf,lE⟩:=xeq q.f;obtain⟨qt,lF⟩:=xeq q.t;rw[lE]at e0 vO;rw[lF]at e1 vP;have u0:(0:Int)<=(k:Int):=by omega
   have u1:(k:Int)<m:=by omega
   have gm:=bI wr (.cells #[.int .i64 (qf:Int), .int .i64 (qt:Int),p1,p2,p3,y1,y2,y3] 47);have h5:=aS wr (.cells #[.int .i64 (qf:Int), .int .i64 (qt:Int),p1,p2,p3,y1,y2,y3] 47);obtain⟨wb,gh⟩:=xeq (wr.alloc (.cells #[.int .i64 (qf:Int), .int .i64 (qt:Int),p1,p2,p3,y1,y2,y3] 47));obtain⟨Ne,fG⟩:=xeq wr.heap.size;rw[gh]at gm h5;rw[fG]at h5;obtain⟨⟨z0,z1,z2,z3,z4,z5,z6,z7⟩,-⟩:=fQ h5;have lC:=ah gh;have ny:=ah fG;obtain⟨J6,b4,iC,-⟩:=WY.out;have abu:Below w3.heap.size w3 wb:=b4.trans (by rw[iC];exact(hb.trans (gm.mono hzs)));have Sq:=J6.below abu;obtain⟨fx,fy,fz,⟨f0,f1,f2⟩,hrf⟩:=Sq.cells vO;obtain⟨tx,ty,tz,⟨t0,t1,t2⟩,tD⟩:=Sq.cells vP;have IW:gA<wb.heap.size:=Sq.lt;have kO:Ne<wb.heap.size:=(au.1 h5).1;have hsh:=iW.keep gm;have OD:=hr1.keep gm;have dH:=ah (show∀w',Below wb.heap.size wb w'->w'.cell? ⟨Ne,0,none⟩=some (.int .i64 (qf:Int))/\w'.cell? ⟨Ne,1,none⟩=some (.int .i64 (qt:Int))/\w'.cell? ⟨Ne,5,none⟩=some y1/\w'.cell? ⟨Ne,6,none⟩=some y2/\w'.cell? ⟨Ne,7,none⟩=some y3/\w'.cell? ⟨gA,qf*3,none⟩=some fx/\w'.cell? ⟨gA,qf*3+1,none⟩=some fy/\w'.cell? ⟨gA,qf*3+2,none⟩=some fz/\w'.cell? ⟨gA,qt*3,none⟩=some tx/\w'.cell? ⟨gA,qt*3+1,none⟩=some ty/\w'.cell? ⟨gA,qt*3+2,none⟩=some tz from fun w' hb=>⟨bn hb kO z0,bn hb kO z1,bn hb kO z5,bn hb kO z6,bn hb kO z7,bn hb IW f0,bn hb IW f1,bn hb IW f2,bn hb IW t0,bn hb IW t1,bn hb IW t2⟩);have X5:=ah (fun w' (hb:Below wb.heap.size wb w')=>hrf.1.keep hb);have VG:=ah (fun w' (hb:Below wb.heap.size wb w')=>tD.1.keep hb);have Xr:=ah (fun w' (hb:Below wb.heap.size wb w')=>hsh.keep hb);have HP2:=ah (fun w' (hb:Below wb.heap.size wb w')=>ai (OD.keep hb) (ai (bn hb kO z2) (ai (bn hb kO z3) (bn hb kO z4))));have HQ1:=ah (QO.below jG gm);have Iz:=ah (hb.trans (gm.mono hzs));have Hy:Z0<=wb.heap.size:=ay hzs gm.size;have v2:(0:Int)<=(qf:Int):=by omega
   have v3:(qf:Int)<N:=by omega
   have v4:(0:Int)<=(qt:Int):=by omega
   have v5:(qt:Int)<N:=by omega
   clear hr1 iW hq lE lF gm h5 gh fG cF hb jG hqh hzs J6 b4 iC abu Sq hrf tD hsh OD f0 f1 f2 t0 t1 t2;go_upto_region 8 with fail
   (try rw[lC.out]);(try rw[ny.out]);clear e0 e1 e2 e3 e4 e5 e6 e7 s0 s1 s2 s3 s4 s5 z0 z1 z2 z3 z4 z5 z6 z7
   go_cut [11] (fun u wx=>∃N11 b s t,u= .pointer (some ⟨N11,0,none⟩)/\cK wx N11 b s t/\bG wx b s t 0 1/\Below wb.heap.size wb wx)
   case first=>
    refine wp_region_held_drew (S:=(fun w'=>Below wb.heap.size wb w'/\w'.cell? ⟨Ne,0,none⟩=some (.int .i64 (qf:Int))/\w'.cell? ⟨Ne,1,none⟩=some (.int .i64 (qt:Int))/\w'.cell? ⟨Ne,5,none⟩=some y1/\w'.cell? ⟨Ne,6,none⟩=some y2/\w'.cell? ⟨Ne,7,none⟩=some y3/\w'.cell? ⟨gA,qf*3,none⟩=some fx/\w'.cell? ⟨gA,qf*3+1,none⟩=some fy/\w'.cell? ⟨gA,qf*3+2,none⟩=some fz/\w'.cell? ⟨gA,qt*3,none⟩=some tx/\w'.cell? ⟨gA,qt*3+1,none⟩=some ty/\w'.cell? ⟨gA,qt*3+2,none⟩=some tz)) (by kernel_rfl) (⟨(aq _ _).drew,dH.out _ (aq _ _).drew⟩) (fun aU=>?_);refine tq 0 aU ?_;refine tq 1 aU ?_;refine tq 2 aU ?_;refine tq 3 aU ?_;refine tq 4 aU ?_;refine tq 5 aU ?_;refine tq 6 aU ?_;refine tq 7 aU ?_;refine tq 8 aU ?_;refine tq 9 aU ?_;refine tq 11 aU ?_;refine tq 12 aU ?_;refine wpAnyH_ready (rs:=[10,14]) (by kernel_rfl) (by simp) ?_;refine nC 10 rfl (fun κ hκ=>?_) ?_
    focus
     go_simp;go_at_call 30;refine(jm (X5.out _ aU.1) (VG.out _ aU.1) (by decide) (show(0:Rat) -0=0 from by grind)).mono ?_;rintro ret w10 ⟨b10,s10,t10,rfl,o10,g10⟩;have kU:=aU.1.trans (g10.mono aU.1.size);have gW:=o10.is (fk (aj 1));clear o10 g10;go_wp2_with fail
     refine hκ.out _ _ ?_ (fun aU=>?_)
     ·exact⟨kU,dH.out _ kU⟩
     clear hκ κ;refine tu ?_;refine wpAnyH_ready (rs:=[13,14]) (by kernel_rfl) (by simp) ?_;refine nC 13 rfl (fun κ hκ=>?_) ?_
     focus
      go_simp;go_at_call 29;refine(kI gW (Xr.out _ aU.1) (by decide) (show(0:Rat)+0=0 from by grind)).mono ?_;rintro ret w13 ⟨b13,s13,t13,rfl,o13,g13⟩;have nB:=aU.1.trans (g13.mono aU.1.size);have mG:=o13.is (fk (aj 1));clear o13 g13 gW;go_wp2_with fail
      refine hκ.out _ _ ?_ (fun aU=>?_)
      ·exact⟨nB,dH.out _ nB⟩
      clear hκ κ;refine tu ?_;refine tv 14 (fun κ hκ=>?_);go_simp;have vH:Below wb.heap.size wb (w13.alloc (.cells #[.bool false, .slice none 0 0, .slice none 0 0] 45)):=aU.1.trans ((bI w13 (.cells #[.bool false, .slice none 0 0, .slice none 0 0] 45)).mono aU.1.size);have i11:cK (w13.alloc (.cells #[.bool false, .slice none 0 0, .slice none 0 0] 45)) w13.heap.size (.bool false) (.slice none 0 0) (.slice none 0 0):=cK.jJ w13 45 (.bool false) (.slice none 0 0) (.slice none 0 0);have eJ:Av (fun x=>x=w13.heap.size) s13/\Av (fun x=>x=w13.heap.size) t13:=⟨mG.av.1.mono (fun x hx=>by subst hx;exact aj _),mG.av.2.mono (fun x hx=>by subst hx;exact aj _)⟩;have Sv:=mG.keep (bI w13 (.cells #[.bool false, .slice none 0 0, .slice none 0 0] 45));clear mG;have mG:=Sv;clear Sv;have dB:w13.heap.size< (w13.alloc (.cells #[.bool false, .slice none 0 0, .slice none 0 0] 45)).heap.size:=i11.lt;obtain⟨N11,hN⟩:∃N:Nat,N=w13.heap.size:=⟨_,rfl⟩;have oy:wb.heap.size<=N11:=by rw[hN];exact aU.1.size
      rw[<-hN]at i11 dB eJ;obtain⟨W14,vI⟩:=xeq ((w13.alloc (.cells #[.bool false, .slice none 0 0, .slice none 0 0] 45)));rw[vI]at vH i11 dB mG;(try rw[vI]);(try rw[<-hN]);clear hN vI;refine hκ.out _ _ ?_ (fun aU=>?_)
      ·exact⟨vH,dH.out _ vH⟩
      clear hκ κ;refine tu ?_;refine tv 15 (fun κ hκ=>?_);obtain⟨vJ,vK,vL⟩:=mG.st;obtain⟨n0,n1,n2,n3,n4,n5⟩:=id i11;go_simp;clear n0 n1 n2 n3 n4 n5 vJ vK vL;have eW:bw (fun x=>x=N11) W14 (((W14.setCell ⟨N11,0,none⟩ b13).setCell ⟨N11,1,none⟩ s13).setCell ⟨N11,2,none⟩ t13):=(bw.set (P:=(·=N11)) (p:=⟨N11,0,none⟩) rfl _ _).trans ((bw.set (P:=(·=N11)) (p:=⟨N11,1,none⟩) rfl _ _).trans (bw.set (P:=(·=N11)) (p:=⟨N11,2,none⟩) rfl _ _));have kV:=aU.1.trans (eW.below aU.1.size (fun k hk e=>by omega));have HP:=ah (ai (i11.put b13 s13 t13) (ai (mG.bJ eW eJ.1 eJ.2) kV));clear mG eJ i11 eW;refine hκ.out _ _ ?_ (fun aU=>?_)
      ·exact⟨kV,dH.out _ kV⟩
      clear hκ κ;refine tu ?_;refine td ?_ _;go_wp2_with fail
      go_meet;exact⟨N11,b13,s13,t13,rfl,HP.out⟩
     refine nC 14 rfl (fun κ hκ=>?_) ?_
     focus
      go_simp;have vH:Below wb.heap.size wb (w10.alloc (.cells #[.bool false, .slice none 0 0, .slice none 0 0] 45)):=aU.1.trans ((bI w10 (.cells #[.bool false, .slice none 0 0, .slice none 0 0] 45)).mono aU.1.size);have i11:cK (w10.alloc (.cells #[.bool false, .slice none 0 0, .slice none 0 0] 45)) w10.heap.size (.bool false) (.slice none 0 0) (.slice none 0 0):=cK.jJ w10 45 (.bool false) (.slice none 0 0) (.slice none 0 0);have Cg:=gW.keep (bI w10 (.cells #[.bool false, .slice none 0 0, .slice none 0 0] 45));clear gW;have gW:=Cg;clear Cg;have dB:w10.heap.size< (w10.alloc (.cells #[.bool false, .slice none 0 0, .slice none 0 0] 45)).heap.size:=i11.lt;obtain⟨N11,hN⟩:∃N:Nat,N=w10.heap.size:=⟨_,rfl⟩;have oy:wb.heap.size<=N11:=by rw[hN];exact aU.1.size
      rw[<-hN]at i11 dB;obtain⟨W14,vI⟩:=xeq ((w10.alloc (.cells #[.bool false, .slice none 0 0, .slice none 0 0] 45)));rw[vI]at vH i11 dB gW;(try rw[vI]);(try rw[<-hN]);clear hN vI;refine hκ.out _ _ ?_ (fun aU=>?_)
      ·exact⟨vH,dH.out _ vH⟩
      clear hκ κ;refine tu ?_;refine tv 13 (fun κ hκ=>?_);go_simp;go_at_call 29;refine(kI gW (Xr.out _ aU.1) (by decide) (show(0:Rat)+0=0 from by grind)).mono ?_;rintro ret w13 ⟨b13,s13,t13,rfl,o13,g13⟩;have nB:=aU.1.trans (g13.mono aU.1.size);have mG:=o13.is (fk (aj 1));have nZ:=i11.keep g13;clear i11;have i11:=nZ;clear nZ;have eJ:Av (fun x=>x=N11) s13/\Av (fun x=>x=N11) t13:=⟨o13.av.1.mono (fun x hx=>by subst hx;exact dB),o13.av.2.mono (fun x hx=>by subst hx;exact dB)⟩;have dQ:=ak dB (g13).size;clear dB;have dB:=dQ;clear dQ;clear o13 g13 gW;go_wp2_with fail
      refine hκ.out _ _ ?_ (fun aU=>?_)
      ·exact⟨nB,dH.out _ nB⟩
      clear hκ κ;refine tu ?_;refine tv 15 (fun κ hκ=>?_);obtain⟨vJ,vK,vL⟩:=mG.st;obtain⟨n0,n1,n2,n3,n4,n5⟩:=id i11;go_simp;clear n0 n1 n2 n3 n4 n5 vJ vK vL;have eW:bw (fun x=>x=N11) w13 (((w13.setCell ⟨N11,0,none⟩ b13).setCell ⟨N11,1,none⟩ s13).setCell ⟨N11,2,none⟩ t13):=(bw.set (P:=(·=N11)) (p:=⟨N11,0,none⟩) rfl _ _).trans ((bw.set (P:=(·=N11)) (p:=⟨N11,1,none⟩) rfl _ _).trans (bw.set (P:=(·=N11)) (p:=⟨N11,2,none⟩) rfl _ _));have kV:=aU.1.trans (eW.below aU.1.size (fun k hk e=>by omega));have HP:=ah (ai (i11.put b13 s13 t13) (ai (mG.bJ eW eJ.1 eJ.2) kV));clear mG eJ i11 eW;refine hκ.out _ _ ?_ (fun aU=>?_)
      ·exact⟨kV,dH.out _ kV⟩
      clear hκ κ;refine tu ?_;refine td ?_ _;go_wp2_with fail
      go_meet;exact⟨N11,b13,s13,t13,rfl,HP.out⟩
     exact AllReadyH.nil
    refine nC 14 rfl (fun κ hκ=>?_) ?_
    focus
     go_simp;have vH:Below wb.heap.size wb (wb.alloc (.cells #[.bool false, .slice none 0 0, .slice none 0 0] 45)).drew:=aU.1.trans ((bI wb.drew (.cells #[.bool false, .slice none 0 0, .slice none 0 0] 45)).mono aU.1.size);have i11:cK (wb.alloc (.cells #[.bool false, .slice none 0 0, .slice none 0 0] 45)).drew wb.heap.size (.bool false) (.slice none 0 0) (.slice none 0 0):=cK.jJ wb.drew 45 (.bool false) (.slice none 0 0) (.slice none 0 0);have dB:wb.heap.size< (wb.alloc (.cells #[.bool false, .slice none 0 0, .slice none 0 0] 45)).drew.heap.size:=i11.lt;obtain⟨N11,hN⟩:∃N:Nat,N=wb.heap.size:=⟨_,rfl⟩;have oy:wb.heap.size<=N11:=by rw[hN];exact aU.1.size
     rw[<-hN]at i11 dB;obtain⟨W14,vI⟩:=xeq ((wb.alloc (.cells #[.bool false, .slice none 0 0, .slice none 0 0] 45)).drew);rw[vI]at vH i11 dB;(try rw[vI]);(try rw[<-hN]);clear hN vI;refine hκ.out _ _ ?_ (fun aU=>?_)
     ·exact⟨vH,dH.out _ vH⟩
     clear hκ κ;refine tu ?_;refine tv 10 (fun κ hκ=>?_);go_simp;go_at_call 30;refine(jm (X5.out _ aU.1) (VG.out _ aU.1) (by decide) (show(0:Rat) -0=0 from by grind)).mono ?_;rintro ret w10 ⟨b10,s10,t10,rfl,o10,g10⟩;have kU:=aU.1.trans (g10.mono aU.1.size);have gW:=o10.is (fk (aj 1));have nZ:=i11.keep g10;clear i11;have i11:=nZ;clear nZ;have dQ:=ak dB (g10).size;clear dB;have dB:=dQ;clear dQ;clear o10 g10;go_wp2_with fail
     refine hκ.out _ _ ?_ (fun aU=>?_)
     ·exact⟨kU,dH.out _ kU⟩
     clear hκ κ;refine tu ?_;refine tv 13 (fun κ hκ=>?_);go_simp;go_at_call 29;refine(kI gW (Xr.out _ aU.1) (by decide) (show(0:Rat)+0=0 from by grind)).mono ?_;rintro ret w13 ⟨b13,s13,t13,rfl,o13,g13⟩;have nB:=aU.1.trans (g13.mono aU.1.size);have mG:=o13.is (fk (aj 1));have nZ:=i11.keep g13;clear i11;have i11:=nZ;clear nZ;have eJ:Av (fun x=>x=N11) s13/\Av (fun x=>x=N11) t13:=⟨o13.av.1.mono (fun x hx=>by subst hx;exact dB),o13.av.2.mono (fun x hx=>by subst hx;exact dB)⟩;have dQ:=ak dB (g13).size;clear dB;have dB:=dQ;clear dQ;clear o13 g13 gW;go_wp2_with fail
     refine hκ.out _ _ ?_ (fun aU=>?_)
     ·exact⟨nB,dH.out _ nB⟩
     clear hκ κ;refine tu ?_;refine tv 15 (fun κ hκ=>?_);obtain⟨vJ,vK,vL⟩:=mG.st;obtain⟨n0,n1,n2,n3,n4,n5⟩:=id i11;go_simp;clear n0 n1 n2 n3 n4 n5 vJ vK vL;have eW:bw (fun x=>x=N11) w13 (((w13.setCell ⟨N11,0,none⟩ b13).setCell ⟨N11,1,none⟩ s13).setCell ⟨N11,2,none⟩ t13):=(bw.set (P:=(·=N11)) (p:=⟨N11,0,none⟩) rfl _ _).trans ((bw.set (P:=(·=N11)) (p:=⟨N11,1,none⟩) rfl _ _).trans (bw.set (P:=(·=N11)) (p:=⟨N11,2,none⟩) rfl _ _));have kV:=aU.1.trans (eW.below aU.1.size (fun k hk e=>by omega));have HP:=ah (ai (i11.put b13 s13 t13) (ai (mG.bJ eW eJ.1 eJ.2) kV));clear mG eJ i11 eW;refine hκ.out _ _ ?_ (fun aU=>?_)
     ·exact⟨kV,dH.out _ kV⟩
     clear hκ κ;refine tu ?_;refine td ?_ _;go_wp2_with fail
     go_meet;exact⟨N11,b13,s13,t13,rfl,HP.out⟩
    exact AllReadyH.nil
   case rest=>
    obtain⟨N11,b13,s13,t13,rfl,i11,mG,jV⟩:=hcut;obtain⟨afq,z2,z3,z4⟩:=HP2.out _ jV;have n0:=i11.c0;have n1:=i11.c1;have n2:=i11.c2;have hmul:=iT (afq) mG (by decide) (show q.s*0=0 from Rat.mul_zero _);have G3:=ah jV;clear jV afq mG i11;go_wp2_with fail
    refine hmul.mono ?_;rintro ret w6 ⟨b6,s6,t6,rfl,o6,g6⟩;clear hmul z2 z3 z4 n0 n1 n2;have hbc:Z0<=wc.heap.size:=ay Hy G3.out.size;have Wj:Z0<=w6.heap.size:=ay hbc g6.size;have ba:=bI w6 (.cells #[b6,s6,t6] 45);have h6:(w6.alloc (.cells #[b6,s6,t6] 45)).heap[w6.heap.size]?=some (.cells #[b6,s6,t6] 45 (0,0)):=aS w6 _;obtain⟨wa,iP⟩:=xeq (w6.alloc (.cells #[b6,s6,t6] 45));rw[iP]at ba h6;have hba:=G3.out.trans ((g6.trans (ba.mono g6.size)).mono G3.out.size);obtain⟨xs,hown,Mg⟩:=QO.below HQ1.out hba;have hblk:=QO.blk HQ1.out;rw[List.length_replicate]at hown;have WZ:=(o6.is (fk (aj 1))).keep ba;have eJ:Av (fun x=>x<Z0∨Value.ownBlock u8=some x) s6/\Av (fun x=>x<Z0∨Value.ownBlock u8=some x) t6:=⟨o6.av.1.mono (fun x hx=>hx.elim (fun h=>ak h hbc) (fun h=>ak (hblk x h).2 G3.out.size)),o6.av.2.mono (fun x hx=>hx.elim (fun h=>ak h hbc) (fun h=>ak (hblk x h).2 G3.out.size))⟩;have hone:=WZ.rN;obtain⟨y01,y02,y03⟩:=o6.cl;have xX:Z0<=wa.heap.size:=ay Wj ba.size;have HOL:=ah hown.lt;have Eh:=ah (Iz.out.trans (hba.mono Hy));have Ss:=ah (fun g7 bR w7 ew dR eO=>ZO.push (w':=w7) (gg:=g7) (cap:=bR) Mg hown.1 WZ eJ.1 eJ.2 ew dR eO);clear o6 g6 hba Mg WZ eJ ba
    go_wp2_with (first
     |(at_builtin;(try rw[iP]);refine Sd rfl (.tmp 46) (.tmp 51) rfl rfl hown rfl h6 hone (by omega) xX ?_;intro g7 bR w7 ew dR eO kR))
    have c7:=bw.grown dR;have fW:=Eh.out.trans (c7.below xX (fun x hx h=>by have:=(HOL.out _ h.symm).1;omega));have Yv:=ah (ai (Ss.out g7 bR w7 ew dR eO) fW);clear ew dR eO kR c7 fW h6 hown hone y01 y02 y03 iP hblk;go_roundw
    case rel=>exact⟨k+1,by omega,by go_num,Yv.out⟩
    case measure=>simp[intOf];omega
  ·obtain rfl:m=k:=by omega
   obtain⟨D5,c5,rfl,hzl⟩:=ZO.slice jG;have HR:=ah (ai hzl cF);clear jG hb cF hzs hzl;go_wp2_with fail
   go_ret2;exact⟨D5,c5,rfl,HR.out⟩
def qC(l:List Bq)(T:Nat->Rat)(lx k:Nat):Rat:=match l[k]? with
 |some q=>q.s* (T q.t-T q.f+ (if k=lx then 1 else 0))
 |none=>0
theorem Can.mono{n n':Nat}{l:List (Nat×Rat)}(h:Can n l)(hn:n<=n'):Can n' l:=⟨h.jF,fun p hp=>ak (h.lt p hp) hn,h.ne⟩
theorem Can.snoc{n:Nat}{l:List (Nat×Rat)}{v:Rat}(h:Can n l)(hv:v≠0):Can (n+1) (l++ [(n,v)]):=
 ⟨h.jF.snoc (fun q hq=>h.lt q hq),fun p hp=>by
   rcases List.mem_append.1 hp with hp|hp
   ·have:=h.lt p hp;omega
   ·simp at hp;subst hp;exact Nat.lt_succ_self n,fun p hp=>by
   rcases List.mem_append.1 hp with hp|hp
   ·exact h.ne p hp
   ·simp at hp;subst hp;exact hv⟩
theorem Sw{n:Nat}{l:List (Nat×Rat)}(h:Can n l){j:Nat}(hj:n<=j):gv l j=0:=iU fun p hp e=>by have:=h.lt p hp;omega
theorem MD{w:World}{D Dt:Option Addr}{N m c lx ct K:Nat}{l:List Bq}{tr:List (Nat×Rat)}(hN:N<=6)(hm:m<=9)(hl:BL w D l 1)(hlm:l.length=m)(hv:NV N l)(ht:EL w Dt tr K)(htl:tr.length<=12)(hta:jo tr)(mB:1<=K)(hK:2*K+4<=1099511627776):
 Calls Tryz.prog 26 #[.agg #[.int .i64 (N:Int), .slice D m c], .int .i64 (lx:Int), .slice Dt tr.length ct] w (fun e w'=>∃v r,e= .returned v/\EO w' w.heap.size v r (2*K+4)/\Can m r/\(∀j,j<m->gv r j=qC l (gv tr) lx j)/\Below w.heap.size w w'):=by
 have bC:=bI w (.cells #[.int .i64 (N:Int), .slice D m c] 25);have h0:=aS w (.cells #[.int .i64 (N:Int), .slice D m c] 25);obtain⟨W,hW⟩:=xeq (w.alloc (.cells #[.int .i64 (N:Int), .slice D m c] 25));obtain⟨Z0,iC⟩:=xeq w.heap.size;rw[hW]at bC h0;rw[iC]at h0;have l0:Z0<W.heap.size:=(au.1 h0).1;have x1:W.cell? ⟨Z0,1,none⟩=some (.slice D m c):=aT W Z0 1 _ _ (0,0) h0;obtain⟨lt,N7⟩:=xeq tr.length;have hget:=fun w' (hb:Below w.heap.size w w') j (hj:j<=1048576)=>LC (c:=ct) (j:=j) (ht.below hb) (by omega) hta hj mB (by omega);rw[N7]at hget;have vV:=ah (fun j=>EL.gsz ht hta mB j);have abv:=ah hget;have HL:=ah hl;have HV:=ah hv;have HM:=ah hlm;have HW:=ah hW;have EN:=ah iC;have HB:=ah bC;have hZW:Z0<=W.heap.size:=by omega
 rw[N7];clear hl hv hlm hW bC h0 ht htl hta iC hget N7;go_enter Tryz.func26,Tryz.ntmps26
 go_upto_region 2 with fail
 rw[HW.out,EN.out];go_wp2_with fail
 clear x1
 go_loopw [7,14] (fun u t wr=>∃k:Nat,k<=m/\t= .int .i64 (k:Int)/\(∃r,EO wr Z0 u r (2*K+4)/\Can k r/\∀j,j<k->gv r j=qC l (gv tr) lx j)/\Below Z0 w wr/\W.heap.size<=wr.heap.size) (fun _ t _=>m- (intOf t).toNat)
 case atStart=>exact⟨0,aF _,rfl,⟨[],EO.nil _ _ _,⟨fun a b p q _ hp=>by simp at hp,fun p hp=>by simp at hp,fun p hp=>by simp at hp⟩,fun j hj=>absurd hj (Nat.not_lt_zero j)⟩,by rw[<-EN.out];exact HB.out,aj _⟩
 case round=>
  obtain⟨k,hk,rfl,⟨r,dY,hcan,xK⟩,hb,hWs⟩:=hrel;have cF:Below w.heap.size w wr:=by rw[EN.out];exact hb
  have hrl:r.length<=k:=by
   have:=mX (a:=0) (b:=k) hcan.jF (fun p hp=>⟨aF _,hcan.lt p hp⟩) (aF k);omega
  by_cases hlk:k<m
  ·obtain⟨q,hq⟩:∃q,l[k]?=some q:=⟨l[k]'(by rw[HM.out];exact hlk),aB _⟩;obtain⟨bb,bo,rfl,hbl,⟨e0,e1⟩,p1,p2,p3,y1,y2,y3,⟨e2,e3,e4⟩,⟨e5,e6,e7⟩,hr1,iW⟩:=(HL.out.below cF).nth hq;obtain⟨s0,s1,s2⟩:=hr1.st;obtain⟨s3,s4,s5⟩:=iW.st;obtain⟨vO,vP,-,-⟩:=HV.out q (aD hq);obtain⟨qf,lE⟩:=xeq q.f;obtain⟨qt,lF⟩:=xeq q.t;rw[lE]at e0 vO;rw[lF]at e1 vP;have u0:(0:Int)<=(k:Int):=by omega
   have u1:(k:Int)<m:=by omega
   have gm:=bI wr (.cells #[.int .i64 (qf:Int), .int .i64 (qt:Int),p1,p2,p3,y1,y2,y3] 47);have h5:=aS wr (.cells #[.int .i64 (qf:Int), .int .i64 (qt:Int),p1,p2,p3,y1,y2,y3] 47);obtain⟨wb,gh⟩:=xeq (wr.alloc (.cells #[.int .i64 (qf:Int), .int .i64 (qt:Int),p1,p2,p3,y1,y2,y3] 47));obtain⟨Ne,fG⟩:=xeq wr.heap.size;rw[gh]at gm h5;rw[fG]at h5;obtain⟨⟨z0,z1,z2,z3,z4,z5,z6,z7⟩,-⟩:=fQ h5;have lC:=ah gh;have ny:=ah fG;have jd:=cF.trans (gm.mono cF.size);have kO:Ne<wb.heap.size:=(au.1 h5).1;have dH:=ah (show∀w',Below wb.heap.size wb w'->w'.cell? ⟨Ne,0,none⟩=some (.int .i64 (qf:Int))/\w'.cell? ⟨Ne,1,none⟩=some (.int .i64 (qt:Int))from fun w' hb=>⟨bn hb kO z0,bn hb kO z1⟩);have NP:=ah (fun w' (hb:Below wb.heap.size wb w')=>abv.out w' (jd.trans (hb.mono jd.size)) qt (by omega));have HGF:=ah (fun w' (hb:Below wb.heap.size wb w')=>abv.out w' (jd.trans (hb.mono jd.size)) qf (by omega));have OD:=hr1.keep gm;have HP2:=ah (fun w' (hb:Below wb.heap.size wb w')=>ai (OD.keep hb) (ai (bn hb kO z2) (ai (bn hb kO z3) (bn hb kO z4))));have U3:=ah (ai (dY.below gm) (ai hcan xK));have Qr:qC l (gv tr) lx k=q.s* (gv tr qt-gv tr qf+ (if k=lx then 1 else 0)):=by unfold qC;rw[hq];show q.s* (gv tr q.t-gv tr q.f+_)=_;rw[lE,lF]
   have HSV:=ah Qr;have xQ:=ah jd;have hZb:Z0<=wb.heap.size:=by have:=jd.size;have:=EN.out;omega
   have hsq:Sz q.s 1:=hr1.sz;have VH:=ah hsq;clear hr1 iW hq lE lF gm h5 gh fG cF hb dY hcan xK jd OD Qr hsq;go_upto_region 5 with fail
   (try rw[lC.out]);(try rw[ny.out]);clear e0 e1 e2 e3 e4 e5 e6 e7 s0 s1 s2 s3 s4 s5 z0 z1 z2 z3 z4 z5 z6 z7
   go_cut [10] (fun u wx=>∃N9 b s t,u= .pointer (some ⟨N9,0,none⟩)/\cK wx N9 b s t/\RO wx (fun x=>x=N9) b s t (gv tr qt-gv tr qf) (K+K+1)/\wb.heap.size<=N9/\Below wb.heap.size wb wx)
   case first=>
    refine wp_region_held_drew (S:=(fun w'=>Below wb.heap.size wb w'/\w'.cell? ⟨Ne,0,none⟩=some (.int .i64 (qf:Int))/\w'.cell? ⟨Ne,1,none⟩=some (.int .i64 (qt:Int)))) (by kernel_rfl) (⟨(aq _ _).drew,dH.out _ (aq _ _).drew⟩) (fun aU=>?_);refine tq 0 aU ?_;refine tq 1 aU ?_;refine tq 2 aU ?_;refine tq 4 aU ?_;refine tq 5 aU ?_;refine tq 6 aU ?_;refine wpAnyH_ready (rs:=[3,9]) (by kernel_rfl) (by simp) ?_;refine nC 3 rfl (fun κ hκ=>?_) ?_
    focus
     go_simp;go_at_call 51;refine(NP.out _ aU.1).mono ?_;rintro ret w3 ⟨b3,s3,t3,rfl,o3,g3⟩;have fq:=aU.1.trans (g3.mono aU.1.size);have qR:=o3.is (vV.out qt);clear o3 g3;go_wp2_with fail
     refine hκ.out _ _ ?_ (fun aU=>?_)
     ·exact⟨fq,dH.out _ fq⟩
     clear hκ κ;refine tu ?_;refine wpAnyH_ready (rs:=[7,9]) (by kernel_rfl) (by simp) ?_;refine nC 7 rfl (fun κ hκ=>?_) ?_
     focus
      go_simp;go_at_call 51;refine(HGF.out _ aU.1).mono ?_;rintro ret w7 ⟨b7,s7,t7,rfl,o7,g7⟩;have fW:=aU.1.trans (g7.mono aU.1.size);have qD:=qR.keep g7;clear qR;have qR:=qD;clear qD;have G4:=o7.is (vV.out qf);clear o7 g7;go_wp2_with fail
      refine hκ.out _ _ ?_ (fun aU=>?_)
      ·exact⟨fW,dH.out _ fW⟩
      clear hκ κ;refine tu ?_;refine wpAnyH_ready (rs:=[8,9]) (by kernel_rfl) (by simp) ?_;refine nC 8 rfl (fun κ hκ=>?_) ?_
      focus
       go_simp;go_at_call 30;refine(jm qR G4 (by omega) rfl).mono ?_;rintro ret w8 ⟨b8,s8,t8,rfl,o8,g8⟩;have jV:=aU.1.trans (g8.mono aU.1.size);have oR:=o8.is ((vV.out qt).yX (vV.out qf) rfl (aj _));clear o8 g8 qR G4;go_wp2_with fail
       refine hκ.out _ _ ?_ (fun aU=>?_)
       ·exact⟨jV,dH.out _ jV⟩
       clear hκ κ;refine tu ?_;refine tv 9 (fun κ hκ=>?_);go_simp;have fS:Below wb.heap.size wb (w8.alloc (.cells #[.bool false, .slice none 0 0, .slice none 0 0] 45)):=aU.1.trans ((bI w8 (.cells #[.bool false, .slice none 0 0, .slice none 0 0] 45)).mono aU.1.size);have i9:cK (w8.alloc (.cells #[.bool false, .slice none 0 0, .slice none 0 0] 45)) w8.heap.size (.bool false) (.slice none 0 0) (.slice none 0 0):=cK.jJ w8 45 (.bool false) (.slice none 0 0) (.slice none 0 0);have eJ:Av (fun x=>x=w8.heap.size) s8/\Av (fun x=>x=w8.heap.size) t8:=⟨oR.av.1.mono (fun x hx=>by subst hx;exact aj _),oR.av.2.mono (fun x hx=>by subst hx;exact aj _)⟩;have L5:=oR.keep (bI w8 (.cells #[.bool false, .slice none 0 0, .slice none 0 0] 45));clear oR;have oR:=L5;clear L5;have dB:w8.heap.size< (w8.alloc (.cells #[.bool false, .slice none 0 0, .slice none 0 0] 45)).heap.size:=i9.lt;obtain⟨N9,hN⟩:∃N:Nat,N=w8.heap.size:=⟨_,rfl⟩;have oy:wb.heap.size<=N9:=by rw[hN];exact aU.1.size
       rw[<-hN]at i9 dB eJ;obtain⟨J7,gH⟩:=xeq ((w8.alloc (.cells #[.bool false, .slice none 0 0, .slice none 0 0] 45)));rw[gH]at fS i9 dB oR;(try rw[gH]);(try rw[<-hN]);clear hN gH;refine hκ.out _ _ ?_ (fun aU=>?_)
       ·exact⟨fS,dH.out _ fS⟩
       clear hκ κ;refine tu ?_;refine tv 10 (fun κ hκ=>?_);obtain⟨vJ,vK,vL⟩:=oR.st;obtain⟨n0,n1,n2,n3,n4,n5⟩:=id i9;go_simp;clear n0 n1 n2 n3 n4 n5 vJ vK vL;have eW:bw (fun x=>x=N9) J7 (((J7.setCell ⟨N9,0,none⟩ b8).setCell ⟨N9,1,none⟩ s8).setCell ⟨N9,2,none⟩ t8):=(bw.set (P:=(·=N9)) (p:=⟨N9,0,none⟩) rfl _ _).trans ((bw.set (P:=(·=N9)) (p:=⟨N9,1,none⟩) rfl _ _).trans (bw.set (P:=(·=N9)) (p:=⟨N9,2,none⟩) rfl _ _));have gI:=aU.1.trans (eW.below aU.1.size (fun k hk e=>by omega));have HP:=ah (ai (i9.put b8 s8 t8) (ai (show RO _ (fun x=>x=N9) b8 s8 t8 _ _ from⟨oR.bJ eW eJ.1 eJ.2,eJ.1,eJ.2⟩) (ai oy gI)));clear oR eJ i9 eW;refine hκ.out _ _ ?_ (fun aU=>?_)
       ·exact⟨gI,dH.out _ gI⟩
       clear hκ κ;refine tu ?_;refine td ?_ _;go_wp2_with fail
       go_meet;exact⟨N9,b8,s8,t8,rfl,HP.out⟩
      refine nC 9 rfl (fun κ hκ=>?_) ?_
      focus
       go_simp;have fS:Below wb.heap.size wb (w7.alloc (.cells #[.bool false, .slice none 0 0, .slice none 0 0] 45)):=aU.1.trans ((bI w7 (.cells #[.bool false, .slice none 0 0, .slice none 0 0] 45)).mono aU.1.size);have i9:cK (w7.alloc (.cells #[.bool false, .slice none 0 0, .slice none 0 0] 45)) w7.heap.size (.bool false) (.slice none 0 0) (.slice none 0 0):=cK.jJ w7 45 (.bool false) (.slice none 0 0) (.slice none 0 0);have qD:=qR.keep (bI w7 (.cells #[.bool false, .slice none 0 0, .slice none 0 0] 45));clear qR;have qR:=qD;clear qD;have abw:=G4.keep (bI w7 (.cells #[.bool false, .slice none 0 0, .slice none 0 0] 45));clear G4;have G4:=abw;clear abw;have dB:w7.heap.size< (w7.alloc (.cells #[.bool false, .slice none 0 0, .slice none 0 0] 45)).heap.size:=i9.lt;obtain⟨N9,hN⟩:∃N:Nat,N=w7.heap.size:=⟨_,rfl⟩;have oy:wb.heap.size<=N9:=by rw[hN];exact aU.1.size
       rw[<-hN]at i9 dB;obtain⟨J7,gH⟩:=xeq ((w7.alloc (.cells #[.bool false, .slice none 0 0, .slice none 0 0] 45)));rw[gH]at fS i9 dB qR G4;(try rw[gH]);(try rw[<-hN]);clear hN gH;refine hκ.out _ _ ?_ (fun aU=>?_)
       ·exact⟨fS,dH.out _ fS⟩
       clear hκ κ;refine tu ?_;refine tv 8 (fun κ hκ=>?_);go_simp;go_at_call 30;refine(jm qR G4 (by omega) rfl).mono ?_;rintro ret w8 ⟨b8,s8,t8,rfl,o8,g8⟩;have jV:=aU.1.trans (g8.mono aU.1.size);have oR:=o8.is ((vV.out qt).yX (vV.out qf) rfl (aj _));have eJ:Av (fun x=>x=N9) s8/\Av (fun x=>x=N9) t8:=⟨o8.av.1.mono (fun x hx=>by subst hx;exact dB),o8.av.2.mono (fun x hx=>by subst hx;exact dB)⟩;have kP:=i9.keep g8;clear i9;have i9:=kP;clear kP;have dQ:=ak dB g8.size;clear dB;have dB:=dQ;clear dQ;clear o8 g8 qR G4;go_wp2_with fail
       refine hκ.out _ _ ?_ (fun aU=>?_)
       ·exact⟨jV,dH.out _ jV⟩
       clear hκ κ;refine tu ?_;refine tv 10 (fun κ hκ=>?_);obtain⟨vJ,vK,vL⟩:=oR.st;obtain⟨n0,n1,n2,n3,n4,n5⟩:=id i9;go_simp;clear n0 n1 n2 n3 n4 n5 vJ vK vL;have eW:bw (fun x=>x=N9) w8 (((w8.setCell ⟨N9,0,none⟩ b8).setCell ⟨N9,1,none⟩ s8).setCell ⟨N9,2,none⟩ t8):=(bw.set (P:=(·=N9)) (p:=⟨N9,0,none⟩) rfl _ _).trans ((bw.set (P:=(·=N9)) (p:=⟨N9,1,none⟩) rfl _ _).trans (bw.set (P:=(·=N9)) (p:=⟨N9,2,none⟩) rfl _ _));have gI:=aU.1.trans (eW.below aU.1.size (fun k hk e=>by omega));have HP:=ah (ai (i9.put b8 s8 t8) (ai (show RO _ (fun x=>x=N9) b8 s8 t8 _ _ from⟨oR.bJ eW eJ.1 eJ.2,eJ.1,eJ.2⟩) (ai oy gI)));clear oR eJ i9 eW;refine hκ.out _ _ ?_ (fun aU=>?_)
       ·exact⟨gI,dH.out _ gI⟩
       clear hκ κ;refine tu ?_;refine td ?_ _;go_wp2_with fail
       go_meet;exact⟨N9,b8,s8,t8,rfl,HP.out⟩
      exact AllReadyH.nil
     refine nC 9 rfl (fun κ hκ=>?_) ?_
     focus
      go_simp;have fS:Below wb.heap.size wb (w3.alloc (.cells #[.bool false, .slice none 0 0, .slice none 0 0] 45)):=aU.1.trans ((bI w3 (.cells #[.bool false, .slice none 0 0, .slice none 0 0] 45)).mono aU.1.size);have i9:cK (w3.alloc (.cells #[.bool false, .slice none 0 0, .slice none 0 0] 45)) w3.heap.size (.bool false) (.slice none 0 0) (.slice none 0 0):=cK.jJ w3 45 (.bool false) (.slice none 0 0) (.slice none 0 0);have qD:=qR.keep (bI w3 (.cells #[.bool false, .slice none 0 0, .slice none 0 0] 45));clear qR;have qR:=qD;clear qD;have dB:w3.heap.size< (w3.alloc (.cells #[.bool false, .slice none 0 0, .slice none 0 0] 45)).heap.size:=i9.lt;obtain⟨N9,hN⟩:∃N:Nat,N=w3.heap.size:=⟨_,rfl⟩;have oy:wb.heap.size<=N9:=by rw[hN];exact aU.1.size
      rw[<-hN]at i9 dB;obtain⟨J7,gH⟩:=xeq ((w3.alloc (.cells #[.bool false, .slice none 0 0, .slice none 0 0] 45)));rw[gH]at fS i9 dB qR;(try rw[gH]);(try rw[<-hN]);clear hN gH;refine hκ.out _ _ ?_ (fun aU=>?_)
      ·exact⟨fS,dH.out _ fS⟩
      clear hκ κ;refine tu ?_;refine tv 7 (fun κ hκ=>?_);go_simp;go_at_call 51;refine(HGF.out _ aU.1).mono ?_;rintro ret w7 ⟨b7,s7,t7,rfl,o7,g7⟩;have fW:=aU.1.trans (g7.mono aU.1.size);have qD:=qR.keep g7;clear qR;have qR:=qD;clear qD;have G4:=o7.is (vV.out qf);have kP:=i9.keep g7;clear i9;have i9:=kP;clear kP;have dQ:=ak dB g7.size;clear dB;have dB:=dQ;clear dQ;clear o7 g7;go_wp2_with fail
      refine hκ.out _ _ ?_ (fun aU=>?_)
      ·exact⟨fW,dH.out _ fW⟩
      clear hκ κ;refine tu ?_;refine tv 8 (fun κ hκ=>?_);go_simp;go_at_call 30;refine(jm qR G4 (by omega) rfl).mono ?_;rintro ret w8 ⟨b8,s8,t8,rfl,o8,g8⟩;have jV:=aU.1.trans (g8.mono aU.1.size);have oR:=o8.is ((vV.out qt).yX (vV.out qf) rfl (aj _));have eJ:Av (fun x=>x=N9) s8/\Av (fun x=>x=N9) t8:=⟨o8.av.1.mono (fun x hx=>by subst hx;exact dB),o8.av.2.mono (fun x hx=>by subst hx;exact dB)⟩;have kP:=i9.keep g8;clear i9;have i9:=kP;clear kP;have dQ:=ak dB g8.size;clear dB;have dB:=dQ;clear dQ;clear o8 g8 qR G4;go_wp2_with fail
      refine hκ.out _ _ ?_ (fun aU=>?_)
      ·exact⟨jV,dH.out _ jV⟩
      clear hκ κ;refine tu ?_;refine tv 10 (fun κ hκ=>?_);obtain⟨vJ,vK,vL⟩:=oR.st;obtain⟨n0,n1,n2,n3,n4,n5⟩:=id i9;go_simp;clear n0 n1 n2 n3 n4 n5 vJ vK vL;have eW:bw (fun x=>x=N9) w8 (((w8.setCell ⟨N9,0,none⟩ b8).setCell ⟨N9,1,none⟩ s8).setCell ⟨N9,2,none⟩ t8):=(bw.set (P:=(·=N9)) (p:=⟨N9,0,none⟩) rfl _ _).trans ((bw.set (P:=(·=N9)) (p:=⟨N9,1,none⟩) rfl _ _).trans (bw.set (P:=(·=N9)) (p:=⟨N9,2,none⟩) rfl _ _));have gI:=aU.1.trans (eW.below aU.1.size (fun k hk e=>by omega));have HP:=ah (ai (i9.put b8 s8 t8) (ai (show RO _ (fun x=>x=N9) b8 s8 t8 _ _ from⟨oR.bJ eW eJ.1 eJ.2,eJ.1,eJ.2⟩) (ai oy gI)));clear oR eJ i9 eW;refine hκ.out _ _ ?_ (fun aU=>?_)
      ·exact⟨gI,dH.out _ gI⟩
      clear hκ κ;refine tu ?_;refine td ?_ _;go_wp2_with fail
      go_meet;exact⟨N9,b8,s8,t8,rfl,HP.out⟩
     exact AllReadyH.nil
    refine nC 9 rfl (fun κ hκ=>?_) ?_
    focus
     go_simp;have fS:Below wb.heap.size wb (wb.alloc (.cells #[.bool false, .slice none 0 0, .slice none 0 0] 45)).drew:=aU.1.trans ((bI wb.drew (.cells #[.bool false, .slice none 0 0, .slice none 0 0] 45)).mono aU.1.size);have i9:cK (wb.alloc (.cells #[.bool false, .slice none 0 0, .slice none 0 0] 45)).drew wb.heap.size (.bool false) (.slice none 0 0) (.slice none 0 0):=cK.jJ wb.drew 45 (.bool false) (.slice none 0 0) (.slice none 0 0);have dB:wb.heap.size< (wb.alloc (.cells #[.bool false, .slice none 0 0, .slice none 0 0] 45)).drew.heap.size:=i9.lt;obtain⟨N9,hN⟩:∃N:Nat,N=wb.heap.size:=⟨_,rfl⟩;have oy:wb.heap.size<=N9:=by rw[hN];exact aU.1.size
     rw[<-hN]at i9 dB;obtain⟨J7,gH⟩:=xeq ((wb.alloc (.cells #[.bool false, .slice none 0 0, .slice none 0 0] 45)).drew);rw[gH]at fS i9 dB;(try rw[gH]);(try rw[<-hN]);clear hN gH;refine hκ.out _ _ ?_ (fun aU=>?_)
     ·exact⟨fS,dH.out _ fS⟩
     clear hκ κ;refine tu ?_;refine tv 3 (fun κ hκ=>?_);go_simp;go_at_call 51;refine(NP.out _ aU.1).mono ?_;rintro ret w3 ⟨b3,s3,t3,rfl,o3,g3⟩;have fq:=aU.1.trans (g3.mono aU.1.size);have qR:=o3.is (vV.out qt);have kP:=i9.keep g3;clear i9;have i9:=kP;clear kP;have dQ:=ak dB g3.size;clear dB;have dB:=dQ;clear dQ;clear o3 g3;go_wp2_with fail
     refine hκ.out _ _ ?_ (fun aU=>?_)
     ·exact⟨fq,dH.out _ fq⟩
     clear hκ κ;refine tu ?_;refine tv 7 (fun κ hκ=>?_);go_simp;go_at_call 51;refine(HGF.out _ aU.1).mono ?_;rintro ret w7 ⟨b7,s7,t7,rfl,o7,g7⟩;have fW:=aU.1.trans (g7.mono aU.1.size);have qD:=qR.keep g7;clear qR;have qR:=qD;clear qD;have G4:=o7.is (vV.out qf);have kP:=i9.keep g7;clear i9;have i9:=kP;clear kP;have dQ:=ak dB g7.size;clear dB;have dB:=dQ;clear dQ;clear o7 g7;go_wp2_with fail
     refine hκ.out _ _ ?_ (fun aU=>?_)
     ·exact⟨fW,dH.out _ fW⟩
     clear hκ κ;refine tu ?_;refine tv 8 (fun κ hκ=>?_);go_simp;go_at_call 30;refine(jm qR G4 (by omega) rfl).mono ?_;rintro ret w8 ⟨b8,s8,t8,rfl,o8,g8⟩;have jV:=aU.1.trans (g8.mono aU.1.size);have oR:=o8.is ((vV.out qt).yX (vV.out qf) rfl (aj _));have eJ:Av (fun x=>x=N9) s8/\Av (fun x=>x=N9) t8:=⟨o8.av.1.mono (fun x hx=>by subst hx;exact dB),o8.av.2.mono (fun x hx=>by subst hx;exact dB)⟩;have kP:=i9.keep g8;clear i9;have i9:=kP;clear kP;have dQ:=ak dB g8.size;clear dB;have dB:=dQ;clear dQ;clear o8 g8 qR G4;go_wp2_with fail
     refine hκ.out _ _ ?_ (fun aU=>?_)
     ·exact⟨jV,dH.out _ jV⟩
     clear hκ κ;refine tu ?_;refine tv 10 (fun κ hκ=>?_);obtain⟨vJ,vK,vL⟩:=oR.st;obtain⟨n0,n1,n2,n3,n4,n5⟩:=id i9;go_simp;clear n0 n1 n2 n3 n4 n5 vJ vK vL;have eW:bw (fun x=>x=N9) w8 (((w8.setCell ⟨N9,0,none⟩ b8).setCell ⟨N9,1,none⟩ s8).setCell ⟨N9,2,none⟩ t8):=(bw.set (P:=(·=N9)) (p:=⟨N9,0,none⟩) rfl _ _).trans ((bw.set (P:=(·=N9)) (p:=⟨N9,1,none⟩) rfl _ _).trans (bw.set (P:=(·=N9)) (p:=⟨N9,2,none⟩) rfl _ _));have gI:=aU.1.trans (eW.below aU.1.size (fun k hk e=>by omega));have HP:=ah (ai (i9.put b8 s8 t8) (ai (show RO _ (fun x=>x=N9) b8 s8 t8 _ _ from⟨oR.bJ eW eJ.1 eJ.2,eJ.1,eJ.2⟩) (ai oy gI)));clear oR eJ i9 eW;refine hκ.out _ _ ?_ (fun aU=>?_)
     ·exact⟨gI,dH.out _ gI⟩
     clear hκ κ;refine tu ?_;refine td ?_ _;go_wp2_with fail
     go_meet;exact⟨N9,b8,s8,t8,rfl,HP.out⟩
    exact AllReadyH.nil
   case rest=>
    obtain⟨N9,b8,s8,t8,rfl,i9,hro,hN9,jV⟩:=hcut;have Qs:=ah i9;have IX:=ah hro;have G3:=ah jV;have c0:=i9.c0;have c1:=i9.c1;have c2:=i9.c2;have ye:=ah (fun w' (hb:Below wc.heap.size wc w')=>ai ((Qs.out.keep hb).c0) (ai ((Qs.out.keep hb).c1) ((Qs.out.keep hb).c2)));have E1:=ah (show mkRat (1:Int) 1=(1:Rat)from by decide);have z10:=hro.1.rN;clear i9 hro jV;obtain⟨S9,rfl⟩:∃x,x=wc:=⟨_,rfl⟩;go_upto_region 6 with fail
    go_cut [30] (fun u wx=>u= .bool (decide (k=lx))/\wx=S9)
    case first=>
     by_cases hkl:k=lx
     ·have abx:(k:Int)=(lx:Int):=by omega
      clear c0 c1 c2 z10;go_wp2_with fail
      go_meet;exact⟨by simp[hkl],rfl⟩
     ·have abx:¬(k:Int)=(lx:Int):=by omega
      clear c0 c1 c2 z10;go_wp2_with fail
      go_meet;exact⟨by simp[hkl,abx],rfl⟩
    case rest=>
    obtain⟨hu,hw⟩:=hcut;subst hu;have hw:=hw.symm;subst hw;rename_i hK
    refine hK _ _ ?_
    go_cut [] (fun wx=>∃b s t,cK wx N9 b s t/\RO wx (fun x=>x=N9) b s t (gv tr qt-gv tr qf+ (if k=lx then 1 else 0)) (2*K+3)/\Below wb.heap.size wb wx)
    case first=>
     by_cases hkl:k=lx
     ·rw[decide_eq_true hkl];have Sg:=ah hkl;clear hkl;go_upto_region 7 with fail
      refine wp_region_held_drew (S:=(fun _=>True)) (by kernel_rfl) (trivial) (fun aU=>?_);refine wpAnyH_ready (rs:=[0,1]) (by kernel_rfl) (by simp) ?_;refine nC 0 rfl (fun κ hκ=>?_) ?_
      focus
       go_simp;refine hκ.out _ _ ?_ (fun aU=>?_)
       ·trivial
       clear hκ κ;refine tu ?_;refine tv 1 (fun κ hκ=>?_);go_simp;go_at_call 47;refine(fO (by omega) (by omega) E1.out).mono ?_;rintro ret w1 ⟨b1,s1,t1,rfl,o1,g1⟩;have hg1:=(aq S9.heap.size S9).drew.trans g1;have hi1:=o1.is (nW (aj 1));obtain⟨m0,m1,m2⟩:=ye.out _ hg1;have hadd:=kI ((IX.out.1.keep hg1).mono (aj _)) (hi1.mono (show 1<=K+K+1 by omega)) (by omega) rfl;clear o1 g1 hi1;go_wp2_with fail
       refine hκ.out _ _ ?_ (fun aU=>?_)
       ·trivial
       clear hκ κ;refine tu ?_;refine tv 2 (fun κ hκ=>?_);go_simp;go_at_call 29;refine hadd.mono ?_;rintro ret w2 ⟨b2,s2,t2,rfl,o2,g2⟩;have hg2:=hg1.trans (g2.mono hg1.size);have j9:=Qs.out.keep hg2;obtain⟨n0,n1,n2,n3,n4,n5⟩:=id j9;obtain⟨Ns,Nt,Nu⟩:=o2.st;have hsz:=IX.out.1.sz.LL (nW (aj 1)) (k:=K+K+1) (j:=1) (l:=2*K+3) rfl (by omega);have fU:RO w2 (fun x=>x=N9) b2 s2 t2 (gv tr qt-gv tr qf+1) (2*K+3):=o2.ro hsz (fun x e=>by rw[e];exact ak Qs.out.lt hg1.size);have hcs:=bw.jc N9 0 w2 b2 s2 t2;have HP:=ah (ai (j9.put b2 s2 t2) (ai (fU.bJ hcs (fun _ h=>h)) (G3.out.trans ((hg2.mono G3.out.size).trans (hcs.below (ay G3.out.size hg2.size) (fun x hx e=>by omega))))));clear o2 g2 hg2 j9 hsz fU hcs hadd m0 m1 m2;go_wp2_with fail
       refine hκ.out _ _ ?_ (fun aU=>?_)
       ·trivial
       clear hκ κ;refine tu ?_;refine tv 3 (fun κ hκ=>?_);go_simp;refine hκ.out _ _ ?_ (fun aU=>?_)
       ·trivial
       clear hκ κ;refine tu ?_;refine td ?_ _;clear n0 n1 n2 n3 n4 n5 Ns Nt Nu;go_wp2_with fail
       go_meet;exact⟨b2,s2,t2,by rw[if_pos Sg.out];exact HP.out⟩
      refine nC 1 rfl (fun κ hκ=>?_) ?_
      focus
       go_simp;go_at_call 47;refine(fO (by omega) (by omega) E1.out).mono ?_;rintro ret w1 ⟨b1,s1,t1,rfl,o1,g1⟩;have hg1:=(aq S9.heap.size S9).drew.trans g1;have hi1:=o1.is (nW (aj 1));obtain⟨m0,m1,m2⟩:=ye.out _ hg1;have hadd:=kI ((IX.out.1.keep hg1).mono (aj _)) (hi1.mono (show 1<=K+K+1 by omega)) (by omega) rfl;clear o1 g1 hi1;go_wp2_with fail
       refine hκ.out _ _ ?_ (fun aU=>?_)
       ·trivial
       clear hκ κ;refine tu ?_;refine tv 0 (fun κ hκ=>?_);go_simp;refine hκ.out _ _ ?_ (fun aU=>?_)
       ·trivial
       clear hκ κ;refine tu ?_;refine tv 2 (fun κ hκ=>?_);go_simp;go_at_call 29;refine hadd.mono ?_;rintro ret w2 ⟨b2,s2,t2,rfl,o2,g2⟩;have hg2:=hg1.trans (g2.mono hg1.size);have j9:=Qs.out.keep hg2;obtain⟨n0,n1,n2,n3,n4,n5⟩:=id j9;obtain⟨Ns,Nt,Nu⟩:=o2.st;have hsz:=IX.out.1.sz.LL (nW (aj 1)) (k:=K+K+1) (j:=1) (l:=2*K+3) rfl (by omega);have fU:RO w2 (fun x=>x=N9) b2 s2 t2 (gv tr qt-gv tr qf+1) (2*K+3):=o2.ro hsz (fun x e=>by rw[e];exact ak Qs.out.lt hg1.size);have hcs:=bw.jc N9 0 w2 b2 s2 t2;have HP:=ah (ai (j9.put b2 s2 t2) (ai (fU.bJ hcs (fun _ h=>h)) (G3.out.trans ((hg2.mono G3.out.size).trans (hcs.below (ay G3.out.size hg2.size) (fun x hx e=>by omega))))));clear o2 g2 hg2 j9 hsz fU hcs hadd m0 m1 m2;go_wp2_with fail
       refine hκ.out _ _ ?_ (fun aU=>?_)
       ·trivial
       clear hκ κ;refine tu ?_;refine tv 3 (fun κ hκ=>?_);go_simp;refine hκ.out _ _ ?_ (fun aU=>?_)
       ·trivial
       clear hκ κ;refine tu ?_;refine td ?_ _;clear n0 n1 n2 n3 n4 n5 Ns Nt Nu;go_wp2_with fail
       go_meet;exact⟨b2,s2,t2,by rw[if_pos Sg.out];exact HP.out⟩
      exact AllReadyH.nil
     ·rw[decide_eq_false hkl];have Sg:=ah hkl;clear hkl;have HR:=ah (show cK S9 N9 b8 s8 t8/\RO S9 (fun x=>x=N9) b8 s8 t8 (gv tr qt-gv tr qf+0) (2*K+3)/\Below wb.heap.size wb S9 from⟨Qs.out,by rw[Rat.add_zero];exact IX.out.mono (by omega),G3.out⟩);clear c0 c1 c2;go_wp2_with fail
      go_meet;exact⟨_,_,_,by rw[if_neg Sg.out];exact HR.out⟩
    case rest=>
     obtain⟨b4,s4,t4,i4,oT,hb4⟩:=hcut;clear c0 c1 c2 ye IX Qs G3 z10;obtain⟨v1,ev1⟩:=xeq (gv tr qt-gv tr qf+ (if k=lx then 1 else 0));rw[ev1]at oT;obtain⟨afr,z2,z3,z4⟩:=HP2.out _ hb4;have n0:=i4.c0;have n1:=i4.c1;have n2:=i4.c2;have hmul:=iT (afr.mono (show 1<=2*K+3 by omega)) oT.1 (by omega) (rfl:q.s*v1=q.s*v1);have aby:Sz (q.s*v1) (2*K+4):=VH.out.mul' oT.1.sz rfl (by omega);have H4:=ah (ai i4 (ai hb4 aby));clear i4 oT hb4 afr aby
     go_wp2_with fail
     refine hmul.mono ?_;rintro ret w5 ⟨b5,Ob,t5,rfl,o5,g5⟩;clear hmul z2 z3 z4 n0 n1 n2;have amj:N9<wc.heap.size:=H4.out.1.lt;have i5:=H4.out.1.keep g5;obtain⟨n0,n1,n2,n3,n4,n5⟩:=id i5;obtain⟨Ns,Nt,Nu⟩:=o5.st;have zW:RO w5 (fun x=>x=N9) b5 Ob t5 (q.s*v1) (2*K+4):=o5.ro H4.out.2.2 (fun x e=>by rw[e];exact amj);have hcs:=bw.jc N9 0 w5 b5 Ob t5;have i6:=i5.put b5 Ob t5;have gj:=H4.out.2.1.trans (g5.mono H4.out.2.1.size);obtain⟨w6,iB⟩:=xeq (((w5.setCell ⟨N9,0,none⟩ b5).setCell ⟨N9,1,none⟩ Ob).setCell ⟨N9,2,none⟩ t5);have Xc:bw (·=N9) w5 w6:=by rw[<-iB];exact hcs
     rw[iB]at i6;have qO:=zW.bJ Xc (fun _ h=>h);have eC:=gj.trans (Xc.below gj.size (fun x hx e=>by omega));obtain⟨sg,kZ⟩:=xeq (fZ (q.s*v1).num);have wk:=fN (qO.1) (by omega) kZ;have Fb:=ah iB;have HAV:=ah (show Av (fun x=>x<Z0∨Value.ownBlock u7=some x) Ob/\Av (fun x=>x<Z0∨Value.ownBlock u7=some x) t5 from⟨o5.av.1.mono (fun x hx=>by have h1:=H4.out.2.1.size;exact hx.elim (fun h=>by omega) (fun h=>by have:=(U3.out.1.blk x h).2;omega)),o5.av.2.mono (fun x hx=>by have h1:=H4.out.2.1.size;exact hx.elim (fun h=>by omega) (fun h=>by have:=(U3.out.1.blk x h).2;omega))⟩);have H6:=ah (ai i6 (ai qO eC));have Qt:=ah kZ;clear o5 g5 i5 zW hcs i6 gj iB Xc qO eC kZ;go_upto_region 9 with fail
     rw[Fb.out];clear n0 n1 n2 n3 n4 n5 Ns Nt Nu;have n0:=H6.out.1.c0;have n1:=H6.out.1.c1;have n2:=H6.out.1.c2;have z11:=H6.out.2.1.1.rN;go_wp2_with fail
     refine wk.mono ?_;rintro ret w7 ⟨rfl,g7⟩;clear wk n0 n1 n2 z11;obtain⟨i6,qO,eC⟩:=H6.out;have fW:=eC.trans (g7.mono eC.size);have i7:=i6.keep g7;have hval:q.s*v1=qC l (gv tr) lx k:=by rw[HSV.out,ev1]
     by_cases hz:q.s*v1=0
     ·have hs0:sg=0:=by rw[<-Qt.out,hz];rfl
      have HR:=ah (show(∃r,EO w7 Z0 u7 r (2*K+4)/\Can (k+1) r/\∀j,j<k+1->gv r j=qC l (gv tr) lx j)/\Below Z0 w w7/\W.heap.size<=w7.heap.size from by
       obtain⟨dY,hcan,xK⟩:=U3.out;refine⟨⟨r,dY.below fW,hcan.mono (Nat.le_succ k),fun j hj=>?_⟩,by rw[<-EN.out];exact xQ.out.trans (fW.mono xQ.out.size),?_⟩
       ·by_cases e:j=k
        ·subst e;rw[Sw hcan (aj _),<-hval,hz]
        ·exact xK j (by omega)
       ·have h1:wr.heap.size<=wb.heap.size:=by have:=lC.out;rw[<-this];show _<=(wr.heap.push _).size;simp
        have h2:=fW.size;omega)
      clear i6 qO eC fW i7 g7 hval hz;go_wp2_with fail
      go_roundw
      case rel=>exact⟨k+1,by omega,by go_num,HR.out⟩
      case measure=>simp[intOf];omega
     ·have hs0:¬sg=0:=by rw[<-Qt.out];exact lU hz
      have n0:=i7.c0;have n1:=i7.c1;have n2:=i7.c2;have JH:=qO.1.keep g7;have ba:=bI w7 (.cells #[.int .i64 (k:Int),b5,Ob,t5] 92);have h6:(w7.alloc (.cells #[.int .i64 (k:Int),b5,Ob,t5] 92)).heap[w7.heap.size]?=some (.cells #[.int .i64 (k:Int),b5,Ob,t5] 92 (0,0)):=aS w7 _;obtain⟨wa,iP⟩:=xeq (w7.alloc (.cells #[.int .i64 (k:Int),b5,Ob,t5] 92));rw[iP]at ba h6;have hba:=fW.trans (ba.mono fW.size);obtain⟨dY,hcan,xK⟩:=U3.out;have hblk:=dY.blk;obtain⟨xs,hown,ld⟩:=dY.below hba;have wS:=JH.keep ba;have eJ:Av (fun x=>x<Z0∨Value.ownBlock u7=some x) Ob/\Av (fun x=>x<Z0∨Value.ownBlock u7=some x) t5:=HAV.out;have hone:=wS.qG (k:Int);obtain⟨y01,y02,y03⟩:=wS.cl;have xX:Z0<=wa.heap.size:=ay hZb hba.size;have HOL:=ah hown.lt;have Eh:=ah (show Below Z0 w wa from by rw[<-EN.out];exact xQ.out.trans (hba.mono xQ.out.size));have Ss:=ah (fun g7 bR w8 ew dR eO=>EO.push (w':=w8) (g:=g7) (cap:=bR) (i:=k) ld hown.1 wS eJ.1 eJ.2 ew dR eO);have HC:=ah (ai hcan (ai xK hval))
      have amk:W.heap.size<=wa.heap.size:=by
       have h1:wr.heap.size<=wb.heap.size:=by have:=lC.out;rw[<-this];show _<=(wr.heap.push _).size;simp
       have h2:=hba.size;omega
      obtain⟨lr,elr⟩:=xeq r.length;rw[elr]at hown hrl;have HLR:=ah elr;clear i6 qO eC fW i7 g7 hval JH ba hba dY hcan xK hblk ld wS eJ elr
      go_wp2_with (first
       |(at_builtin;(try rw[iP]);refine pJ rfl (.tmp 41) (.tmp 45) rfl rfl hown rfl h6 hone (by omega) xX ?_;intro g7 bR w8 ew dR eO kR))
      have c7:=bw.grown dR;have jV:=Eh.out.trans (c7.below xX (fun x hx h=>by have:=(HOL.out _ h.symm).1;omega))
      have HR:=ah (show(∃r,EO w8 Z0 (.slice (some ⟨g7,0,none⟩) (lr+1) bR) r (2*K+4)/\Can (k+1) r/\∀j,j<k+1->gv r j=qC l (gv tr) lx j)/\Below Z0 w w8/\W.heap.size<=w8.heap.size from by
       obtain⟨hcan,xK,hval⟩:=HC.out;have h9:=Ss.out g7 bR w8 (by rw[HLR.out];exact ew) dR eO;rw[HLR.out]at h9;refine⟨⟨_,h9,hcan.snoc hz,fun j hj=>?_⟩,jV,ay amk c7.size⟩;rw[fJ]
       by_cases e:j=k
       ·subst e;rw[Sw hcan (aj _),<-hval]
        show 0+ ((if j=j then q.s*v1 else 0)+0)=_
        rw[if_pos rfl];grind
       ·show gv r j+ ((if k=j then q.s*v1 else 0)+0)=_
        rw[if_neg (fun h=>e h.symm),xK j (by omega)];grind)
      clear ew dR eO kR c7 jV h6 hown hone y01 y02 y03 iP n0 n1 n2 hz;go_roundw
      case rel=>exact⟨k+1,by omega,by go_num,HR.out⟩
      case measure=>simp[intOf];omega
  ·obtain rfl:m=k:=by omega
   have HR:=ah (show EO wr w.heap.size u7 r (2*K+4)/\Can m r/\(∀j,j<m->gv r j=qC l (gv tr) lx j)/\Below w.heap.size w wr from⟨by rw[EN.out];exact dY,hcan,xK,cF⟩);clear dY hcan xK hb cF;go_wp2_with fail
   go_ret;exact⟨_,r,rfl,HR.out⟩
def oZ(s:Nat->Nat)(b:Nat):Int:=if b=s b then -1 else((fR s b).length:Int)
theorem ME(s:Nat->Nat)(b d:Nat):∃r,fR s (b+d)=fR s b++r:=by
 induction d with
 |zero=>exact⟨[],by simp⟩
 |succ d ih=>
  obtain⟨r,hr⟩:=ih;rw[show b+ (d+1)=b+d+1 by omega,kN,hr];split
  ·exact⟨r++ [b+d],by simp⟩
  ·exact⟨r,rfl⟩
theorem GU{s:Nat->Nat}{N b:Nat}(hb:b<N)(hs:b≠s b):(fR s b).length< (fR s N).length/\vk s N (fR s b).length=b:=by
 obtain⟨r,hr⟩:=ME s (b+1) (N- (b+1));rw[show b+1+ (N- (b+1))=N by omega,kN,if_pos hs]at hr;unfold vk;rw[hr];simp
theorem Qu(s:Nat->Nat)(N:Nat){i j:Nat}(hi:i<j)(hj:j< (fR s N).length):vk s N i<vk s N j:=by
 have hp:(fR s N).Pairwise (·< ·):=List.pairwise_lt_range.filter _;have h:=List.pairwise_iff_getElem.1 hp i j (by omega) hj hi;unfold vk;rw[aB hj,aB (show i<_ by omega)];exact h
theorem IY{s:Nat->Nat}{N b:Nat}(hb:b<N):oZ s b= -1∨∃j,j< (fR s N).length/\oZ s b=((j:Nat):Int):=by
 unfold oZ
 by_cases h:b=s b
 ·rw[if_pos h];exact .inl rfl
 ·rw[if_neg h];exact .inr ⟨_,(GU hb h).1,rfl⟩
theorem Qv{s:Nat->Nat}{N b:Nat}(f:Nat->Qc)(hb:b<N):vN (oZ s b) f=om (fR s N).length (vk s N) (fun j=>(f j).r) b:=by
 have hO:=zH s N
 by_cases h:b=s b
 ·unfold oZ;rw[if_pos h,Mj,hO.xZ _ h.symm]
 ·obtain⟨h1,h2⟩:=GU hb h;unfold oZ;rw[if_neg h,Mk];have h3:=hO.Mv (fun j=>(f j).r) h1;rw[h2]at h3;exact h3.symm
def Sy(l:List Bq)(θ:Nat->Rat)(k:Nat):Rat:=match l[k]? with
 |some q=>q.s* (θ q.f-θ q.t)
 |none=>0
def iZ(T:Nat->Rat)(b:Nat)(A:Nat->List (Nat×Rat))(k j:Nat):List (Nat×Rat):=if j<k/\T j≠0 then A j++ [(b,T j)]else A j
section
variable {T:Nat->Rat}{b:Nat}{A:Nat->List (Nat×Rat)}{k j:Nat}
theorem IZ:iZ T b A 0=A:=funext fun _=>if_neg fun h=>Nat.not_lt_zero _ h.1
theorem GV:iZ T b A k k=A k:=if_neg fun h=>Nat.lt_irrefl _ h.1
theorem I3(h:T k=0):iZ T b A (k+1)=iZ T b A k:=funext fun j=>by
 unfold iZ
 by_cases e:j=k
 ·subst e;rw[if_neg (fun h2=>h2.2 h),if_neg (fun h2=>h2.2 h)]
 ·by_cases h2:j<k/\T j≠0
  ·rw[if_pos h2,if_pos ⟨by omega,h2.2⟩]
  ·rw[if_neg h2,if_neg (fun h3=>h2 ⟨by omega,h3.2⟩)]
theorem I4(h:T k≠0):iZ T b A (k+1)=bE (iZ T b A k) k (iZ T b A k k++ [(b,T k)]):=funext fun j=>by
 by_cases e:j=k
 ·subst e;rw[aW,GV];exact if_pos ⟨Nat.lt_succ_self _,h⟩
 ·rw[bk _ _ e];unfold iZ
  by_cases h2:j<k/\T j≠0
  ·rw[if_pos h2,if_pos ⟨by omega,h2.2⟩]
  ·rw[if_neg h2,if_neg (fun h3=>h2 ⟨by omega,h3.2⟩)]
theorem MF:(iZ T b A k j).length<=(A j).length+1:=by
 unfold iZ;split
 ·simp
 ·omega
theorem MG{p:Nat×Rat}(h:p∈iZ T b A k j):p∈A j∨(p.1=b/\p.2≠0):=by
 unfold iZ at h;split at h
 ·rename_i h2
  rcases List.mem_append.1 h with h|h
  ·exact .inl h
  ·simp at h;subst h;exact .inr ⟨rfl,h2.2⟩
 ·exact .inl h
theorem Qw(hT:∀j,k<=j->T j=0)(c:Nat):gv (iZ T b A k j) c=gv (A j) c+ (if b=c then T j else 0):=by
 unfold iZ;split
 ·rw[fJ]
  show _+ ((if b=c then T j else 0)+0)=_
  grind
 ·rename_i h
  have h0:T j=0:=by
   by_cases e:j<k
   ·exact Classical.byContradiction fun h2=>h ⟨e,h2⟩
   ·exact hT j (by omega)
  rw[h0];split<;>grind
end
def tab(l:List Bq)(n:Nat)(x:Nat->Nat)(y:Nat->Nat->Rat):Nat->Nat->List (Nat×Rat)
 |0=>fun _=>[]
 |i+1=>iZ (Sy l (om n x (y i))) (x i) (tab l n x y i) l.length
section
variable {l:List Bq}{n N:Nat}{x s:Nat->Nat}{y y':Nat->Nat->Rat}
theorem I5{i:Nat}(h:∀a,a<i->y a=y' a):tab l n x y i=tab l n x y' i:=by
 induction i with
 |zero=>rfl
 |succ i ih=>
  show iZ _ _ (tab l n x y i) _=iZ _ _ (tab l n x y' i) _
  rw[ih fun a ha=>h a (by omega),h i (Nat.lt_succ_self i)]
theorem Qx(i k:Nat):(tab l n x y i k).length<=i:=by
 induction i with
 |zero=>exact aj _
 |succ i ih=>exact ay MF (by omega)
theorem tH{i k:Nat}{p:Nat×Rat}(h:p∈tab l n x y i k):(∃a,a<i/\p.1=x a)/\p.2≠0:=by
 induction i with
 |zero=>cases h
 |succ i ih=>
  rcases MG h with h|⟨h,h2⟩
  ·obtain⟨⟨a,ha,e⟩,h2⟩:=ih h;exact⟨⟨a,by omega,e⟩,h2⟩
  ·exact⟨⟨i,by omega,h⟩,h2⟩
theorem VI(l:List Bq)(θ:Nat->Rat)(j:Nat)(h:l.length<=j):Sy l θ j=0:=by
 unfold Sy;rw[aQ h]
theorem Qy{i:Nat}(hx:∀a b,a<b->b<i->x a<x b)(k:Nat):jo (tab l n x y i k):=by
 induction i with
 |zero=>exact fun a b p q _ hp=>by simp[tab]at hp
 |succ i ih=>
  have h1:=ih fun a b h h2=>hx a b h (by omega)
  show jo (iZ _ _ _ _ _)
  unfold iZ;split
  ·refine h1.snoc fun q hq=>?_;obtain⟨⟨a,ha,e⟩,_⟩:=tH hq;rw[e];exact hx a i ha (Nat.lt_succ_self i)
  ·exact h1
theorem VJ{i c:Nat}(hi:i<=n)(hO:CW N n s x)(hc:c<n)(k:Nat):gv (tab l n x y i k) (x c)=if c<i then Sy l (om n x (y c)) k else 0:=by
 induction i with
 |zero=>rfl
 |succ i ih=>
  show gv (iZ _ _ _ _ _) _=_
  rw[Qw (fun j hj=>VI _ _ _ hj),ih (by omega)]
  by_cases e:x i=x c
  ·have h1:=hO.inj i c (by omega) hc e;subst h1;rw[if_pos rfl,if_neg (Nat.lt_irrefl _),if_pos (Nat.lt_succ_self _)];grind
  ·rw[if_neg e];have h1:c≠i:=fun h=>e (by rw[h])
   by_cases h2:c<i
   ·rw[if_pos h2,if_pos (by omega)];grind
   ·rw[if_neg h2,if_neg (by omega)];grind
theorem zJ(hO:CW N n s x)(hinc:∀a b,a<b->b<n->x a<x b)(hy:∀a,a<n->∀r,r<n->Gd.S n (fun j=>Gd.vM (pO l) (x r) (x j)*y a j)=Gd.dl r a):
 (∀k,Can N (tab l n x y n k))/\Gd.Transfer N (pO l) s (fun k j=>gv (tab l n x y n k) j):=by
 refine⟨fun k=>⟨Qy hinc k,fun p hp=>?_,fun p hp=>(tH hp).2⟩,fun b hb=>⟨fun hs k=>iU fun p hp e=>?_,fun hs=>?_⟩⟩
 ·obtain⟨⟨a,ha,e⟩,_⟩:=tH hp;rw[e];exact hO.lt a ha
 ·obtain⟨⟨a,ha,e2⟩,_⟩:=tH hp;exact hO.ns a ha (by rw[<-e2,e];exact hs)
 ·obtain⟨c,hc,rfl⟩:=hO.all b hb hs;refine⟨om n x (y c),hO.pot (y c) hc (hy c hc),fun k d hd=>?_⟩
  show gv (tab l n x y n k) (x c)=_
  rw[VJ (aj _) hO hc,if_pos hc];unfold pO at hd;rw[List.getElem?_map]at hd
  cases hq:l[k]? with
  |none=>rw[hq]at hd;cases hd
  |some q=>
   rw[hq]at hd;injection hd with hd
   subst hd;unfold Sy;rw[hq]
end
structure TS(w:World)(Z gR m n:Nat)(V:Nat->Value)(A:Nat->List (Nat×Rat))(L:Nat->List Value)(gF Q:Nat)(f:Nat->Qc)(K KT:Nat):Prop where
 fF:gG w Z gR m V (fun _=>False) A KT L
 row:dL w gF n f
 ok:∀j,j<n->(f j).ok w (iq gR m V) K
 q:w.heap[Q]?=some (.cells #[.slice (some ⟨gF,0,none⟩) n n] 49 (0,0))
section
variable {w w':World}{Z gR m n:Nat}{V:Nat->Value}{A:Nat->List (Nat×Rat)}{L:Nat->List Value}{gF Q:Nat}{f:Nat->Qc}{K KT:Nat}
theorem TS.below(h:TS w Z gR m n V A L gF Q f K KT)(hb:Below w.heap.size w w'):TS w' Z gR m n V A L gF Q f K KT:=
 ⟨h.fF.below hb,h.row.below hb,fun j hj=>RO.bJ (P:=fun _=>False) (h.ok j hj) (bw.of hb) (fun _ h=>h.elim),(hb.block _ (au.1 h.q).1).trans h.q⟩
theorem TS.tbQ(h:TS w Z gR m n V A L gF Q f K KT):TB w Q 49:=⟨_,h.q⟩
theorem TS.nQ(h:TS w Z gR m n V A L gF Q f K KT):¬iq gR m V Q:=TB.Cb h.fF.fF h.tbQ (by decide) (by decide)
theorem TS.nF(h:TS w Z gR m n V A L gF Q f K KT):¬iq gR m V gF:=TB.Cb h.fF.fF h.row.tb (by decide) (by decide)
theorem TS.push(h:TS w Z gR m n V A L gF Q f K KT){i b g' cap:Nat}{v:Rat}{x1 x2 x3:Value}{w1:World}(hi:i<m)(hro:RO w (iq gR m V) x1 x2 x3 v KT)
 (ho:w1.ownsRow Z 92 4 (.slice (some ⟨g',0,none⟩) ((A i).length+1) cap) ((A i).length+1) (L i++ [.int .i64 (b:Int),x1,x2,x3])) (hg:w.grownBy w1 (V i).ownBlock) (iX:(V i).ownBlock=some g'∨g'=w.heap.size):
 ∃V' L',TS (w1.setCell ⟨gR,i,none⟩ (.slice (some ⟨g',0,none⟩) ((A i).length+1) cap)) Z gR m n V' (bE A i (A i++ [(b,v)])) L' gF Q f K KT/\bw (iq gR m V) w (w1.setCell ⟨gR,i,none⟩ (.slice (some ⟨g',0,none⟩) ((A i).length+1) cap)):=by
 have hE:nr w (FM gR m V fun _=>False) [(b,v)] [.int .i64 (b:Int),x1,x2,x3] KT:=by
  have h0:nr w (FM gR m V fun _=>False) [] [] KT:=fun i p hp=>by simp at hp
  exact h0.snoc (i:=b) rfl hro.1 (hro.2.1.mono fun k hk=>hk.elim id (fun h=>h.elim)) (hro.2.2.mono fun k hk=>hk.elim id (fun h=>h.elim))
 obtain⟨h1,hc⟩:=h.fF.grow (m:=1) hi rfl hE ho hg iX;have hsub:∀k,iq gR m (bE V i (.slice (some ⟨g',0,none⟩) ((A i).length+1) cap)) k->iq gR m V k∨w.heap.size<=k:=fun k hk=>iq.grow iX hi hk;exact⟨_,_,⟨h1,h.row.bJ hc h.nF,fun j hj=>RO.step (h.ok j hj) hsub hc (fun _ h=>h),(hc.block _ (au.1 h.q).1 h.nQ).trans h.q⟩,hc⟩
end
end Go.Proofs.YtkmpoleajjgfaaaGreat
