/- Parts of the proof, in order. -/
import Derived.Test.YtkmpoleajjgfaaaGreatQ17
namespace Go.Proofs.YtkmpoleajjgfaaaGreat
open Go.RowKit Gm Go.Sort Go.Shelf
set_option maxRecDepth 100000
set_option maxHeartbeats 16000000
structure Bq where
 f:Nat
 t:Nat
 s:Rat
 h:Rat
def BC(w:World)(b o:Nat)(q:Bq)(K:Nat):Prop:=
 (w.cell? ⟨b,o,none⟩=some (.int .i64 (q.f:Int))/\w.cell? ⟨b,o+1,none⟩=some (.int .i64 (q.t:Int)))/\∃x1 x2 x3 y1 y2 y3,(w.cell? ⟨b,o+2,none⟩=some x1/\w.cell? ⟨b,o+3,none⟩=some x2/\w.cell? ⟨b,o+4,none⟩=some x3)/\(w.cell? ⟨b,o+5,none⟩=some y1/\w.cell? ⟨b,o+6,none⟩=some y2/\w.cell? ⟨b,o+7,none⟩=some y3)/\bG w x1 x2 x3 q.s K/\bG w y1 y2 y3 q.h K
def BL(w:World)(D:Option Addr)(l:List Bq)(K:Nat):Prop:=
 0<l.length->∃b off,D=some ⟨b,off,none⟩/\b<w.heap.size/\∀(i:Nat) (q:Bq),l[i]?=some q->BC w b (off+i*8) q K
section
variable {w w':World}{D:Option Addr}{l:List Bq}{K:Nat}
theorem BC.below{b o:Nat}{q:Bq}(h:BC w b o q K)(hb:Below w.heap.size w w')(hl:b<w.heap.size):BC w' b o q K:=by
 obtain⟨⟨h1,h2⟩,x1,x2,x3,y1,y2,y3,⟨h3,h4,h5⟩,⟨h6,h7,h8⟩,h9,h10⟩:=h;exact⟨⟨bn hb hl h1,bn hb hl h2⟩,x1,x2,x3,y1,y2,y3,⟨bn hb hl h3,bn hb hl h4,bn hb hl h5⟩,⟨bn hb hl h6,bn hb hl h7,bn hb hl h8⟩,h9.keep hb,h10.keep hb⟩
theorem BL.below(h:BL w D l K)(hb:Below w.heap.size w w'):BL w' D l K:=fun h0=>by
 obtain⟨b,off,e,hlt,hc⟩:=h h0;exact⟨b,off,e,ak hlt hb.size,fun i q hq=>(hc i q hq).below hb hlt⟩
theorem BL.nth(h:BL w D l K){i:Nat}{q:Bq}(hq:l[i]?=some q):∃b off,D=some ⟨b,off,none⟩/\b<w.heap.size/\BC w b (off+i*8) q K:=by
 obtain⟨b,off,e,hlt,hc⟩:=h (by have:=(aC.1 hq).1;omega);exact⟨b,off,e,hlt,hc i q hq⟩
end
def NV(N:Nat)(l:List Bq):Prop:=∀q∈l,q.f<N/\q.t<N/\q.f≠q.t/\0<q.s
theorem Qp{r:Rat}(h:0<r):fZ r.num=1:=by
 have h1:0<r.num:=by
  have h2:0<=r.num:=Rat.num_nonneg.2 (Rat.le_of_lt h);have h3:r.num≠0:=fun e=>by rw[Rat.num_eq_zero.1 e]at h;exact absurd h (by decide)
  omega
 unfold fZ;rw[if_neg (by omega),if_pos h1]
theorem B6{w:World}{D:Option Addr}{N m c K:Nat}{l:List Bq}(hN:N<=16384)(hm:m<=16384)(hl:BL w D l K)(hlm:l.length=m)(hv:NV N l)(hK:K<=1099511627776):
 Calls Tryz.prog 41 #[.agg #[.int .i64 (N:Int), .slice D m c]] w (fun e w'=>e= .returned (.bool true)/\Below w.heap.size w w'):=by
 have bC:=bI w (.cells #[.int .i64 (N:Int), .slice D m c] 25);have h0:=aS w (.cells #[.int .i64 (N:Int), .slice D m c] 25);obtain⟨W,hW⟩:=xeq (w.alloc (.cells #[.int .i64 (N:Int), .slice D m c] 25));obtain⟨N0,kz⟩:=xeq w.heap.size;rw[hW]at bC h0;rw[kz]at h0;have l0:N0<W.heap.size:=(au.1 h0).1;have x0:W.cell? ⟨N0,0,none⟩=some (.int .i64 (N:Int)):=aT W N0 0 _ _ (0,0) h0;have x1:W.cell? ⟨N0,1,none⟩=some (.slice D m c):=aT W N0 1 _ _ (0,0) h0;have HL:=ah hl;have HV:=ah hv;have HX:=ah (ai x0 x1);have HW:=ah hW;have EN:=ah kz;have HB:=ah bC;have HM:=ah hlm;have v0:¬(N:Int)<0:=by omega
 have v1:¬(16384:Int)< (N:Int):=by omega
 have v2:¬(16384:Int)< (m:Int):=by omega
 clear hl hv hW kz bC h0 x0 x1 hlm;go_enter Tryz.func41,Tryz.ntmps41
 go_wp2_with fail
 rw[HW.out,EN.out]
 go_loopw [22] (fun t wr=>∃k:Nat,k<=m/\t= .int .i64 (k:Int)/\Below W.heap.size W wr) (fun t _=>m- (intOf t).toNat)
 case atStart=>exact⟨0,aF _,rfl,aq _ _⟩
 case round=>
  obtain⟨k,hk,rfl,hb⟩:=hrel
  by_cases hlk:k<m
  ·obtain⟨q,hq⟩:∃q,l[k]?=some q:=⟨l[k]'(by rw[HM.out];exact hlk),aB _⟩;obtain⟨hf,ht,hne,hpos⟩:=HV.out q (aD hq);obtain⟨bb,bo,rfl,hbl,⟨e0,e1⟩,p1,p2,p3,y1,y2,y3,⟨e2,e3,e4⟩,⟨e5,e6,e7⟩,hr1,iW⟩:=(HL.out.below (HB.out.trans (hb.mono HB.out.size))).nth hq;obtain⟨s0,s1,s2⟩:=hr1.st;obtain⟨s3,s4,s5⟩:=iW.st;obtain⟨qf,lE⟩:=xeq q.f;obtain⟨qt,lF⟩:=xeq q.t;rw[lE]at e0 hf hne;rw[lF]at e1 ht hne;have x0:=bn hb l0 HX.out.1;have u0:(0:Int)<=(k:Int):=by omega
   have u1:(k:Int)<m:=by omega
   have gm:=bI wr (.cells #[.int .i64 (qf:Int), .int .i64 (qt:Int),p1,p2,p3,y1,y2,y3] 47);have h5:=aS wr (.cells #[.int .i64 (qf:Int), .int .i64 (qt:Int),p1,p2,p3,y1,y2,y3] 47);obtain⟨wb,gh⟩:=xeq (wr.alloc (.cells #[.int .i64 (qf:Int), .int .i64 (qt:Int),p1,p2,p3,y1,y2,y3] 47));obtain⟨Ne,fG⟩:=xeq wr.heap.size;rw[gh]at gm h5;rw[fG]at h5;obtain⟨⟨z0,z1,z2,z3,z4,z5,z6,z7⟩,-⟩:=fQ h5;have x0':=bn gm (ak l0 hb.size) x0;have wk:=fN (hr1.keep gm) hK (Qp hpos);have lC:=ah gh;have ny:=ah fG;have xQ:=ah (hb.trans (gm.mono hb.size));have g0:¬(qf:Int)<0:=by omega
   have g1:¬(N:Int)<=(qf:Int):=by omega
   have g2:¬(qt:Int)<0:=by omega
   have g3:¬(N:Int)<=(qt:Int):=by omega
   have g4:¬(qf:Int)=(qt:Int):=by omega
   clear hr1 iW hb hq lE lF gm h5 gh fG x0 hpos;go_upto_region 6 with fail
   (try rw[lC.out]);(try rw[ny.out]);clear e0 e1 e2 e3 e4 e5 e6 e7 s0 s1 s2 s3 s4 s5;go_wp2_with fail
   refine wk.mono ?_;rintro ret w8 ⟨rfl,g8⟩;have jV:=xQ.out.trans (g8.mono xQ.out.size);clear wk z0 z1 z2 z3 z4 z5 z6 z7 x0' g8;go_wp2_with fail
   go_roundw
   case rel=>exact⟨k+1,by omega,by go_num,jV⟩
   case measure=>simp[intOf];omega
  ·obtain rfl:k=m:=by omega
   have HR:=ah (HB.out.trans (hb.mono HB.out.size));clear hb;go_wp2_with fail
   go_ret;exact⟨rfl,HR.out⟩
def Mn(l:List Bq):List (Nat×Nat):=l.map fun q=>(q.f,q.t)
def qQ(l:List Bq)(i:Nat):Nat×Nat:=((Mn l)[i]?).getD (0,0)
theorem rE{l:List Bq}{i:Nat}{q:Bq}(h:l[i]?=some q):qQ l i=(q.f,q.t):=by simp[qQ,Mn,h]
theorem Et{l:List (Nat×Nat)}{i:Nat}{p:Nat×Nat}(h:l[i]?=some p):(dK l)[i*2]?=some (.int .i64 (p.1:Int))/\(dK l)[i*2+1]?=some (.int .i64 (p.2:Int)):=by
 induction l generalizing i with
 |nil=>simp at h
 |cons a l ih=>
  have e:dK (a::l)=[Value.int .i64 (a.1:Int),Value.int .i64 (a.2:Int)]++dK l:=rfl
  cases i with
  |zero=>simp at h;subst h;rw[e];exact⟨rfl,rfl⟩
  |succ i=>
   obtain⟨h1,h2⟩:=ih (i:=i) (by simpa using h);rw[e,aK (by simp;omega),aK (by simp;omega)];simp only[List.length_cons,List.length_nil];rw[show(i+1)*2- (0+1+1)=i*2 by omega,show(i+1)*2+1- (0+1+1)=i*2+1 by omega];exact⟨h1,h2⟩
theorem Mp{w:World}{lo n:Nat}{v:Value}{l:List Bq}(h:w.ownsRow lo 63 2 v n (dK (Mn l)))(hn:l.length=n):∃D c,v= .slice D n c/\PL w D n (qQ l):=by
 have hcl:=fun g=> @World.ownsRow.cells _ _ _ _ _ _ _ h g;obtain⟨h1,⟨rfl,h0⟩|⟨g,cap,cur,rfl,hb,hh,hc,hm,_⟩⟩:=h
 ·exact⟨none,0,by rw[h0],fun h=>by omega⟩
 ·refine⟨some ⟨g,0,none⟩,cap,rfl,fun _=>⟨g,0,rfl,(au.1 hh).1,fun i hi=>?_⟩⟩;obtain⟨q,hq⟩:∃q,l[i]?=some q:=⟨l[i]'(by omega),aB _⟩;have hp:(Mn l)[i]?=some (q.f,q.t):=by simp[Mn,hq]
  obtain⟨k1,k2⟩:=Et hp;have a1:=hcl g rfl _ _ k1;have a2:=hcl g rfl _ _ k2;rw[ow]at a1 a2;rw[rE hq,Nat.zero_add];exact⟨a1,a2⟩
theorem NV.qQ{N:Nat}{l:List Bq}(h:NV N l){m:Nat}(hm:l.length=m):∀i,i<m->(qQ l i).1<N/\(qQ l i).2<N:=fun i hi=>by
 obtain⟨q,hq⟩:∃q,l[i]?=some q:=⟨l[i]'(by omega),aB _⟩;rw[rE hq];exact⟨(h q (aD hq)).1,(h q (aD hq)).2.1⟩
theorem ve{l:List Bq}{k:Nat}{q:Bq}(h:l[k]?=some q):dK (Mn (l.take (k+1)))=dK (Mn (l.take k))++ [.int .i64 (q.f:Int), .int .i64 (q.t:Int)]:=by
 rw[List.take_add_one,h];simp[Mn,dK]
theorem xY(z:Int)(n:Nat)(hz:z=(n:Int))(hn:n<=1048576)(u:World):
 (Instr.makeSlice 30 (.int .i64 0) (.int .i64 z)).run Tryz.prog u= .ok (.slice (some ⟨u.heap.size,0,none⟩) 0 n) (u.alloc (.cells (madeCells (Value.agg #[.int .i64 0, .int .i64 0]).cells (n*2)) 63)):=by
 subst hz;have h:=run_make (P:=Tryz.prog) u 30 63 _ _ Tryz.underlying30 fH.1 fH.2.1 .i64 .i64 0 (n:Int) (Int.le_refl _) (by omega) (by rw[fH.2.2.2];omega) (by omega);simp only[Int.toNat_natCast]at h;rw[fH.2.2.1]at h;exact h
theorem vh(w:World)(lo n:Nat)(z:Value)(h:lo<=w.heap.size)(hn:n<=1048576):(w.alloc (.cells (madeCells z.cells (n*2)) 63)).ownsRow lo 63 2 (.slice (some ⟨w.heap.size,0,none⟩) 0 n) 0 []:=
 ⟨rfl, .inr ⟨w.heap.size,n,_,rfl,h,aS w _,aF _,by simp only[maxLen];omega,by simp[madeCells],by simp⟩⟩
/-- the slack buses -/
theorem Mq{w:World}{D:Option Addr}{N m c K:Nat}{l:List Bq}(hN:N<=16384)(hm:m<=16384)(hl:BL w D l K)(hlm:l.length=m)(hv:NV N l):
 Calls Tryz.prog 52 #[.agg #[.int .i64 (N:Int), .slice D m c]] w (fun e w'=>∃g,e= .returned (.slice (some ⟨g,0,none⟩) N N)/\w.heap.size<=g/\cC w' g N (fun i=>(uf (qQ l) m i:Int))/\Below w.heap.size w w'):=by
 have bC:=bI w (.cells #[.int .i64 (N:Int), .slice D m c] 25);have h0:=aS w (.cells #[.int .i64 (N:Int), .slice D m c] 25);obtain⟨W,hW⟩:=xeq (w.alloc (.cells #[.int .i64 (N:Int), .slice D m c] 25));obtain⟨N0,kz⟩:=xeq w.heap.size;rw[hW]at bC h0;rw[kz]at h0;have l0:N0<W.heap.size:=(au.1 h0).1;have x0:W.cell? ⟨N0,0,none⟩=some (.int .i64 (N:Int)):=aT W N0 0 _ _ (0,0) h0;have x1:W.cell? ⟨N0,1,none⟩=some (.slice D m c):=aT W N0 1 _ _ (0,0) h0;have hmk:=xY (m:Int) m rfl (by omega) W;have how:=vh W W.heap.size m (Value.agg #[.int .i64 0, .int .i64 0]) (aj _) (by omega);have sK:=bI W (.cells (madeCells (Value.agg #[.int .i64 0, .int .i64 0]).cells (m*2)) 63);obtain⟨W2,Ki⟩:=xeq (W.alloc (.cells (madeCells (Value.agg #[.int .i64 0, .int .i64 0]).cells (m*2)) 63));rw[Ki]at hmk how sK;obtain⟨Z0,iC⟩:=xeq W.heap.size;rw[iC]at hmk how;have x2:W2.cell? ⟨N0,0,none⟩=some (.int .i64 (N:Int)):=bn sK l0 x0;have x3:W2.cell? ⟨N0,1,none⟩=some (.slice D m c):=bn sK l0 x1;have HL:=ah hl;have HV:=ah hv;have HX:=ah (ai x2 (ai x3 (show N0<W2.heap.size from ak l0 sK.size)));have HW:=ah hW;have EN:=ah kz;have HZ:=ah iC;have HB:=ah (bC.trans (sK.mono bC.size));have HM:=ah hlm;have HOW:=ah how;have hZ:Z0<=W2.heap.size:=by rw[<-iC];exact sK.size
 have J5:w.heap.size<=Z0:=by rw[<-iC];exact bC.size
 have wF:=ah J5;have XU:N0<Z0:=by rw[<-iC];exact l0
 clear hl hv hW kz bC h0 hlm sK Ki iC how J5;go_enter Tryz.func52,Tryz.ntmps52
 go_upto_region 1 with fail
 rw[HW.out,EN.out];have x0':=x0;go_wp2_with fail
 clear hmk x0 x1 x2 x3
 go_loopw [3,15] (fun u t wr=>∃k:Nat,k<=m/\t= .int .i64 (k:Int)/\wr.ownsRow Z0 63 2 u k (dK (Mn (l.take k)))/\Below Z0 W2 wr) (fun _ t _=>m- (intOf t).toNat)
 case atStart=>exact⟨0,aF _,rfl,HOW.out,aq _ _⟩
 case round=>
  clear HOW;obtain⟨k,hk,rfl,how,hb⟩:=hrel;have cF:=HB.out.trans (hb.mono wF.out);have hzs:=hb.size
  by_cases hlk:k<m
  ·obtain⟨q,hq⟩:∃q,l[k]?=some q:=⟨l[k]'(by rw[HM.out];exact hlk),aB _⟩;obtain⟨bb,bo,rfl,hbl,⟨e0,e1⟩,p1,p2,p3,y1,y2,y3,⟨e2,e3,e4⟩,⟨e5,e6,e7⟩,hr1,iW⟩:=(HL.out.below cF).nth hq;obtain⟨s0,s1,s2⟩:=hr1.st;obtain⟨s3,s4,s5⟩:=iW.st;obtain⟨qf,lE⟩:=xeq q.f;obtain⟨qt,lF⟩:=xeq q.t;have hpt:=ve hq;rw[lE]at e0 hpt;rw[lF]at e1 hpt;have u0:(0:Int)<=(k:Int):=by omega
   have u1:(k:Int)<m:=by omega
   have gm:=bI wr (.cells #[.int .i64 (qf:Int), .int .i64 (qt:Int),p1,p2,p3,y1,y2,y3] 47);have h5:=aS wr (.cells #[.int .i64 (qf:Int), .int .i64 (qt:Int),p1,p2,p3,y1,y2,y3] 47);obtain⟨wb,gh⟩:=xeq (wr.alloc (.cells #[.int .i64 (qf:Int), .int .i64 (qt:Int),p1,p2,p3,y1,y2,y3] 47));obtain⟨Ne,fG⟩:=xeq wr.heap.size;rw[gh]at gm h5;rw[fG]at h5;obtain⟨⟨z0,z1,z2,z3,z4,z5,z6,z7⟩,-⟩:=fQ h5;have ba:=bI wb (.cells #[.int .i64 (qf:Int), .int .i64 (qt:Int)] 63);have h6:(wb.alloc (.cells #[.int .i64 (qf:Int), .int .i64 (qt:Int)] 63)).heap[wb.heap.size]?=some (.cells #[.int .i64 (qf:Int), .int .i64 (qt:Int)] 63 (0,0)):=aS wb _;obtain⟨wa,iP⟩:=xeq (wb.alloc (.cells #[.int .i64 (qf:Int), .int .i64 (qt:Int)] 63));rw[iP]at ba h6;have bba:=gm.trans (ba.mono gm.size);have jQ:=bL how (bw.of (P:=fun _=>False) bba) (fun _ _ h=>h);have hlo:Z0<=wa.heap.size:=by have:=bba.size;omega
   have Eh:=ah (hb.trans (bba.mono (by omega)));have HOL:=ah jQ.lt;have lC:=ah gh;have ny:=ah fG;have HPT:=ah hpt;clear hr1 iW hb cF hq lE lF gm h5 gh fG ba bba how hpt hzs;go_upto_region 5 with fail
   (try rw[lC.out]);(try rw[ny.out]);clear e0 e1 e2 e3 e4 e5 e6 e7 s0 s1 s2 s3 s4 s5
   go_wp2_with (first
    |(at_builtin;(try rw[iP]);refine Dh rfl (.tmp 19) (.tmp 25) rfl rfl jQ rfl h6 (by omega) hlo ?_;intro g7 bR w7 ew dR eO kR))
   have c7:=bw.grown dR;have fW:=Eh.out.trans (c7.below hlo (fun x hx h=>by have:=(HOL.out _ h.symm).1;omega));rw[<-HPT.out]at ew;have HZ:=ah (ai ew fW);clear ew dR eO kR c7 fW h6 jQ z0 z1 z2 z3 z4 z5 z6 z7 iP hlo;go_roundw
   case rel=>exact⟨k+1,by omega,by go_num,HZ.out⟩
   case measure=>simp[intOf];omega
  ·obtain rfl:k=m:=by omega
   rw[aI (by rw[HM.out];exact aj _)]at how;obtain⟨D2,c2,rfl,hpl⟩:=Mp how HM.out;have x2:=hb.cell (p:=⟨N0,0,none⟩) XU|>.trans HX.out.1;have hI:=wZ (c:=c2) hN (by omega) hpl (HV.out.qQ HM.out);have rB:=ah cF;clear how hpl hb cF hzs;go_wp2_with fail
   refine hI.mono ?_;rintro ret w8 ⟨g,rfl,hge,hrow,-,g8⟩;have HR:=ah (show w.heap.size<=g/\cC w8 g N (fun i=>(uf (qQ l) k i:Int))/\Below w.heap.size w w8 from⟨ay rB.out.size hge,hrow,rB.out.trans (g8.mono rB.out.size)⟩);clear hI hge hrow g8;go_wp2_with fail
   go_ret;exact⟨g,rfl,HR.out⟩
def iH(q:Bq)(r:Nat->List (Nat×Rat)):Nat->List (Nat×Rat):=
 bE (bE r q.f (r q.f++ [(q.f,q.s),(q.t,-q.s)])) q.t (bE r q.f (r q.f++ [(q.f,q.s),(q.t,-q.s)]) q.t++ [(q.t,q.s),(q.f,-q.s)])
def cw(l:List Bq):Nat->Nat->List (Nat×Rat)
 |0=>fun _=>[]
 |k+1=>match l[k]? with
  |none=>cw l k
  |some q=>iH q (cw l k)
def pO(l:List Bq):List Gd.Br:=l.map fun q=>⟨q.f,q.t,q.s⟩
theorem Mr(g:Gd.Br->Rat)(m:List Gd.Br):∀l,Gd.SL g (l++m)=Gd.SL g l+Gd.SL g m
 |[]=>by show Gd.SL g m=0+Gd.SL g m;grind
 |b::l=>by show g b+Gd.SL g (l++m)=g b+Gd.SL g l+Gd.SL g m;rw[Mr g m l];grind
theorem Eu{q:Bq}(hq:q.f≠q.t)(r:Nat->List (Nat×Rat))(i j:Nat):gv (iH q r i) j=gv (r i) j+q.s* ((Gd.dl i q.f-Gd.dl i q.t)* (Gd.dl j q.f-Gd.dl j q.t)):=by
 have e:∀(a b:Nat) (s:Rat),gv [(a,s),(b,-s)] j=s* (Gd.dl j a-Gd.dl j b):=fun a b s=>by
  show(if a=j then s else 0)+ ((if b=j then -s else 0)+0)=_
  have e1:∀a,Gd.dl j a=if a=j then 1 else 0:=fun a=>by
   unfold Gd.dl
   by_cases h:j=a
   ·rw[if_pos h,if_pos h.symm]
   ·rw[if_neg h,if_neg (fun h2=>h h2.symm)]
  rw[e1,e1];split<;>split<;>grind
 unfold iH
 by_cases h1:i=q.t
 ·subst h1;rw[aW,bk _ _ (fun e=>hq e.symm),fJ,e,Gd.gQ,Gd.je (fun e=>hq e.symm)]
  grind
 ·rw[bk _ _ h1]
  by_cases h2:i=q.f
  ·subst h2;rw[aW,fJ,e,Gd.gQ,Gd.je hq]
   grind
  ·rw[bk _ _ h2,Gd.je h2,Gd.je h1]
   grind
theorem Ev{l:List Bq}(hl:∀q∈l,q.f≠q.t)(k i j:Nat):gv (cw l k i) j=Gd.vM (pO (l.take k)) i j:=by
 induction k with
 |zero=>rfl
 |succ k ih=>
  unfold cw
  cases hq:l[k]? with
  |none=>
   have h1:l.take (k+1)=l.take k:=by rw[List.take_add_one,hq];simp
   rw[h1];exact ih
  |some q=>
   rw[List.take_add_one,hq]
   show gv (iH q (cw l k) i) j=_
   rw[Eu (hl q (aD hq)),ih];unfold Gd.vM;simp only[pO,Option.toList,List.map_append,List.map_cons,List.map_nil];rw[Mr]
   show _=_+ (_+0)
   grind
theorem Ca(q:Bq)(r:Nat->List (Nat×Rat))(i:Nat):q.f≠q.t->(iH q r i).length<=(r i).length+2:=fun hq=>by
 unfold iH
 by_cases h1:i=q.t
 ·subst h1;rw[aW,bk _ _ (fun e=>hq e.symm)];simp
 ·rw[bk _ _ h1]
  by_cases h2:i=q.f
  ·subst h2;rw[aW];simp
  ·rw[bk _ _ h2];omega
theorem sq{l:List Bq}(hl:∀q∈l,q.f≠q.t)(k i:Nat):(cw l k i).length<=2*k:=by
 induction k with
 |zero=>exact aj _
 |succ k ih=>
  unfold cw
  cases hq:l[k]? with
  |none=>exact ay ih (by omega)
  |some q=>
   show(iH q (cw l k) i).length<=_
   have:=Ca q (cw l k) i (hl q (aD hq));omega
theorem Ew{N:Nat}{l:List Bq}(hl:∀q∈l,q.f<N/\q.t<N)(k i:Nat):∀p∈cw l k i,p.1<N:=by
 induction k generalizing i with
 |zero=>intro p hp;cases hp
 |succ k ih=>
  unfold cw
  cases hq:l[k]? with
  |none=>exact ih i
  |some q=>
   obtain⟨h1,h2⟩:=hl q (aD hq)
   have key:∀i,∀p∈bE (cw l k) q.f (cw l k q.f++ [(q.f,q.s),(q.t,-q.s)]) i,p.1<N:=fun i p hp=>by
    by_cases e:i=q.f
    ·subst e;rw[aW]at hp;rcases List.mem_append.1 hp with hp|hp
     ·exact ih _ p hp
     ·simp at hp;rcases hp with rfl|rfl<;>assumption
    ·rw[bk _ _ e]at hp;exact ih _ p hp
   intro p hp;have hp:p∈iH q (cw l k) i:=hp;unfold iH at hp
   by_cases e:i=q.t
   ·subst e;rw[aW]at hp;rcases List.mem_append.1 hp with hp|hp
    ·exact key _ p hp
    ·simp at hp;rcases hp with rfl|rfl<;>assumption
   ·rw[bk _ _ e]at hp;exact key _ p hp
theorem iq.grow{w:World}{g n:Nat}{V:Nat->Value}{i g' m cap:Nat}(iX:(V i).ownBlock=some g'∨g'=w.heap.size)(hi:i<n){k:Nat}(hk:iq g n (bE V i (.slice (some ⟨g',0,none⟩) m cap)) k):iq g n V k∨w.heap.size<=k:=by
 rcases hk with e|⟨j,hj,e⟩
 ·exact .inl (.inl e)
 ·by_cases e2:j=i
  ·subst e2;rw[aW]at e;injection e with e
   rcases iX with e3|e3
   ·exact .inl (.inr ⟨j,hj,by rw[e3,<-e]⟩)
   ·exact .inr (by rw[<-e];exact Nat.le_of_eq e3.symm)
  ·rw[bk _ _ e2]at e;exact .inl (.inr ⟨j,hj,e⟩)
def BV(w:World)(N qf qt:Nat)(p1 p2 p3 y1 y2 y3:Value):Prop:=w.heap[N]?=some (.cells #[.int .i64 (qf:Int), .int .i64 (qt:Int),p1,p2,p3,y1,y2,y3] 47 (0,0))
theorem TB.Cb{w:World}{lo g n size:Nat}{V:Nat->Value}{c:Nat->Nat}{L:Nat->List Value}{x:Nat}{T:TypeId}(h:vY w lo g n 40 92 size V c L)(ht:TB w x T)(h1:T≠40)(h2:T≠92):¬iq g n V x:=fun hx=>by
 rcases hx with rfl|⟨i,hi,hx⟩
 ·exact ht.ne h.row.tb h1 rfl
 ·exact ht.ne (h.tb hi hx) h2 rfl
theorem gG.two{w w1:World}{Z0 g N K ri oi g' cap Ne Nn qf qt:Nat}{V:Nat->Value}{A:Nat->List (Nat×Rat)}{L:Nat->List Value}{p1 p2 p3 y1 y2 y3 n1 n2 n3:Value}{s r:Rat}(hf:gG w Z0 g N V (fun _=>False) A K L)(hi:ri<N)(kA:RO w (FM g N V fun _=>False) p1 p2 p3 s K)(fU:RO w (FM g N V fun _=>False) n1 n2 n3 r K)
 (hNe:BV w Ne qf qt p1 p2 p3 y1 y2 y3) (Ey:cK w Nn n1 n2 n3) (GK:TB w Nn 45)
 (ho:w1.ownsRow Z0 92 4 (.slice (some ⟨g',0,none⟩) ((A ri).length+2) cap) ((A ri).length+2) (L ri++ [.int .i64 (ri:Int),p1,p2,p3, .int .i64 (oi:Int),n1,n2,n3])) (hg:w.grownBy w1 (V ri).ownBlock) (iX:(V ri).ownBlock=some g'∨g'=w.heap.size):
 ∃V' L',gG (w1.setCell ⟨g,ri,none⟩ (.slice (some ⟨g',0,none⟩) ((A ri).length+2) cap)) Z0 g N V' (fun _=>False) (bE A ri (A ri++ [(ri,s),(oi,r)])) K L'/\RO (w1.setCell ⟨g,ri,none⟩ (.slice (some ⟨g',0,none⟩) ((A ri).length+2) cap)) (FM g N V' fun _=>False) p1 p2 p3 s K/\RO (w1.setCell ⟨g,ri,none⟩ (.slice (some ⟨g',0,none⟩) ((A ri).length+2) cap)) (FM g N V' fun _=>False) n1 n2 n3 r K/\
  BV (w1.setCell ⟨g,ri,none⟩ (.slice (some ⟨g',0,none⟩) ((A ri).length+2) cap)) Ne qf qt p1 p2 p3 y1 y2 y3/\cK (w1.setCell ⟨g,ri,none⟩ (.slice (some ⟨g',0,none⟩) ((A ri).length+2) cap)) Nn n1 n2 n3/\TB (w1.setCell ⟨g,ri,none⟩ (.slice (some ⟨g',0,none⟩) ((A ri).length+2) cap)) Nn 45/\bw (fun k=>Z0<=k) w (w1.setCell ⟨g,ri,none⟩ (.slice (some ⟨g',0,none⟩) ((A ri).length+2) cap)):=by
 have hE:nr w (FM g N V fun _=>False) [(ri,s),(oi,r)] [.int .i64 (ri:Int),p1,p2,p3, .int .i64 (oi:Int),n1,n2,n3] K:=by
  have h0:nr w (FM g N V fun _=>False) [] [] K:=fun i p hp=>by simp at hp
  have h1:=h0.snoc (i:=ri) rfl kA.1 kA.2.1 kA.2.2;exact h1.snoc (i:=oi) rfl fU.1 fU.2.1 fU.2.2
 obtain⟨h1,hc⟩:=hf.grow (m:=2) hi rfl hE ho hg iX;have hsub:∀k,FM g N (bE V ri (.slice (some ⟨g',0,none⟩) ((A ri).length+2) cap)) (fun _=>False) k->FM g N V (fun _=>False) k∨w.heap.size<=k:=fun k hk=>hk.elim (fun h=>(iq.grow iX hi h).imp .inl id) (fun h=>h.elim);have nE:=TB.Cb hf.fF (⟨_,hNe⟩:TB w Ne 47) (by decide) (by decide);have nN:=TB.Cb hf.fF GK (by decide) (by decide);exact⟨_,_,h1,kA.step hsub hc (fun _ h=> .inl h),fU.step hsub hc (fun _ h=> .inl h),(hc.block _ (au.1 hNe).1 nE).trans hNe,Ey.bJ hc nN,GK.bJ hc nN,hc.mono (fun k _ hk=>(hf.fF.ge hk).1)⟩
/-- the susceptance matrix -/
theorem su{w:World}{D:Option Addr}{N m c K M:Nat}{l:List Bq}(hN:N<=12)(hm:m<=9)(hl:BL w D l K)(hlm:l.length=m)(hv:NV N l)(mB:1<=K)(hM:18* (K+1)+K<=M)(vS:M<=1099511627776):
 Calls Tryz.prog 23 #[.agg #[.int .i64 (N:Int), .slice D m c]] w (fun e w'=>∃g A,e= .returned (.tuple #[.agg #[.int .i64 (N:Int), .int .i64 (N:Int), .slice (some ⟨g,0,none⟩) N N], .int .i64 0])/\ML w' (some ⟨g,0,none⟩) N A M/\(∀i,i<N->Can N (A i)/\∀j,gv (A i) j=Gd.vM (pO l) i j)/\Below w.heap.size w w'):=by
 obtain⟨W,hW,bC,b0,b1,rJ⟩:∃W,(w.alloc (.cells #[.int .i64 (N:Int), .slice D m c] 25)).alloc (.cells #[.int .i64 0, .int .i64 0, .slice none 0 0] 34)=W/\Below w.heap.size w W/\W.cell? ⟨w.heap.size,0,none⟩=some (.int .i64 (N:Int))/\W.cell? ⟨w.heap.size,1,none⟩=some (.slice D m c)/\W.heap[w.heap.size+1]?=some (.cells #[.int .i64 0, .int .i64 0, .slice none 0 0] 34 (0,0)):=⟨_,rfl,((aq _ _).alloc (by simp) _).alloc (by simp) _,by go_simp,by go_simp,by
  have h1:=aS (w.alloc (.cells #[.int .i64 (N:Int), .slice D m c] 25)) (.cells #[.int .i64 0, .int .i64 0, .slice none 0 0] 34);have e:∀o,(w.alloc o).heap.size=w.heap.size+1:=fun o=>by show(w.heap.push o).size=_;simp
  rw[e]at h1;exact h1⟩
 have hval:=B6 (c:=c) (by omega) (by omega) (hl.below bC) hlm hv (by omega);obtain⟨N0,kz⟩:=xeq w.heap.size;obtain⟨N1,Kh⟩:=xeq (N0+1);rw[kz]at b0 b1 rJ;rw[Kh]at rJ;have l1:N1<W.heap.size:=(au.1 rJ).1;have l0:N0<W.heap.size:=by omega
 have HX:=ah (ai b0 (ai b1 rJ));have HL:=ah hl;have HV:=ah hv;have HM:=ah hlm;have HK:=ah (ai mB (ai hM vS));have HB:=ah bC;have HW:=ah hW;have Oh:=ah kz;have EN1:=ah Kh;clear hl hv hlm mB hM vS bC hW kz Kh b0 b1 rJ;go_enter Tryz.func23,Tryz.ntmps23
 go_wp2_with fail
 rw[HW.out,Oh.out];(try rw[EN1.out]);refine hval.mono ?_;rintro e w1 ⟨rfl,g1⟩;clear hval;have c0:=bn g1 l0 HX.out.1;have c1:=bn g1 l0 HX.out.2.1;have hmk:=mD (N:Int) N rfl (by omega) w1;have QV:=gG.new w1 w1.heap.size N K (fun _=>False) (aj _);have hb2:=bI w1 (.cells ((List.range N).map fun _=>Value.slice none 0 0).toArray 40);obtain⟨w2,hw2⟩:=xeq (w1.alloc (.cells ((List.range N).map fun _=>Value.slice none 0 0).toArray 40));obtain⟨Z0,iC⟩:=xeq w1.heap.size;rw[hw2]at hmk QV hb2;rw[iC]at hmk QV;have hWZ:W.heap.size<=Z0:=by rw[<-iC];exact g1.size
 have x0:=bn hb2 (ak l0 g1.size) c0;have x1:=bn hb2 (ak l0 g1.size) c1;have rJ:=((g1.trans (hb2.mono g1.size)).block N1 l1).trans HX.out.2.2;have wT:=ah (ai (HB.out.trans ((g1.trans (hb2.mono g1.size)).mono HB.out.size)) (ai x0 (ai x1 rJ)));have hsz2:Z0<w2.heap.size:=QV.fF.row.lt;obtain⟨g,eg⟩:=xeq Z0;have abg:gG w2 Z0 g N (fun _=> .slice none 0 0) (fun _=>False) (fun _=>[]) K (fun _=>[]):=by rw[<-eg];exact QV
 have XW:Z0<=g:=by omega
 have HF0:=ah abg;have XU:N0<Z0:=by omega
 have aoz:N1<Z0:=by omega
 have al4:(Instr.makeSlice 32 (.int .i64 (N:Int)) (.int .i64 (N:Int))).run Tryz.prog w1= .ok (.slice (some ⟨g,0,none⟩) N N) w2:=by rw[<-eg];exact hmk
 clear QV abg rJ hw2 iC hb2 hmk eg;go_wp2_with fail
 clear al4 x0 x1 c0 c1 g1
 go_loopw [20] (fun t wr=>∃(k:Nat) (V:Nat->Value) (L:Nat->List Value),k<=m/\t= .int .i64 (k:Int)/\gG wr Z0 g N V (fun _=>False) (cw l k) K L/\Below Z0 w2 wr) (fun t _=>m- (intOf t).toNat)
 case atStart=>exact⟨0,_,_,aF _,rfl,HF0.out,aq _ _⟩
 case round=>
  clear HF0;obtain⟨k,V,L,hk,rfl,hf,hb⟩:=hrel;have J5:w.heap.size<=Z0:=by have:=HB.out.size;omega
  have cF:=wT.out.1.trans (hb.mono J5);have hzs:=hb.size
  by_cases hlk:k<m
  ·obtain⟨q,hq⟩:∃q,l[k]?=some q:=⟨l[k]'(by rw[HM.out];exact hlk),aB _⟩;obtain⟨vO,vP,hne,hpos⟩:=HV.out q (aD hq);have hlr:cw l (k+1)=iH q (cw l k):=by show(match l[k]? with|none=>_|some q=>_)=_;rw[hq]
   have afd:=ah (fun i=>sq (l:=l) (fun q h=>(HV.out q h).2.2.1) k i);obtain⟨bb,bo,rfl,hbl,⟨e0,e1⟩,p1,p2,p3,y1,y2,y3,⟨e2,e3,e4⟩,⟨e5,e6,e7⟩,hr0,iW⟩:=HL.out.nth hq;have hr1:=(hr0.mono (aj K)).ro (M:=FM g N V fun _=>False) (fun x hx=>hx.elim (fun h=>ay J5 (hf.fF.ge h).1) (fun h=>h.elim)) cF;replace e0:=bn cF hbl e0;replace e1:=bn cF hbl e1;replace e2:=bn cF hbl e2;replace e3:=bn cF hbl e3;replace e4:=bn cF hbl e4;replace e5:=bn cF hbl e5;replace e6:=bn cF hbl e6;replace e7:=bn cF hbl e7;obtain⟨s0,s1,s2⟩:=hr1.1.st;obtain⟨s3,s4,s5⟩:=iW.st;obtain⟨s,Ez⟩:=xeq q.s;obtain⟨qf,lE⟩:=xeq q.f;obtain⟨qt,lF⟩:=xeq q.t;rw[lE]at e0 vO hne;rw[lF]at e1 vP hne;rw[Ez]at hr0 hr1;have u0:(0:Int)<=(k:Int):=by omega
   have u1:(k:Int)<m:=by omega
   have gm:=bI wr (.cells #[.int .i64 (qf:Int), .int .i64 (qt:Int),p1,p2,p3,y1,y2,y3] 47);have h5:=aS wr (.cells #[.int .i64 (qf:Int), .int .i64 (qt:Int),p1,p2,p3,y1,y2,y3] 47);obtain⟨wb,gh⟩:=xeq (wr.alloc (.cells #[.int .i64 (qf:Int), .int .i64 (qt:Int),p1,p2,p3,y1,y2,y3] 47));obtain⟨Ne,fG⟩:=xeq wr.heap.size;rw[gh]at gm h5;rw[fG]at h5;obtain⟨⟨z0,z1,z2,z3,z4,z5,z6,z7⟩,-⟩:=fQ h5;have pQ:=hf.below gm;have Rh:=hr1.bJ (P:=fun _=>False) (bw.of gm) (fun _ h=>h.elim);have hng:=Lw (w:=wb) (Rh.1.mono (aj _)) (by have:=HK.out;omega) rfl;have Ms:Sz (-s) K:=Rh.1.sz.neg rfl;have lC:=ah gh;have ny:=ah fG;have al5:=ah (ai pQ (ai Rh (ai h5 (ai Ms (ai (hb.trans (gm.mono (show Z0<=wr.heap.size by omega))) (ai hlr (ai lE (ai lF Ez))))))));have rF:=vO;have rG:=vP;clear hr0 hr1 iW hb cF hq gm h5 gh fG hf pQ Rh Ms hlr lE lF Ez vO vP hpos hzs;go_upto_region 7 with fail
   (try rw[lC.out]);(try rw[ny.out]);clear e0 e1 e2 e3 e4 e5 e6 e7 s0 s1 s2 s3 s4 s5;go_wp2_with fail
   refine hng.mono ?_;rintro ret w3 ⟨n1,n2,n3,rfl,o3,g3⟩;clear hng;have b4:=bI w3 (.cells #[n1,n2,n3] 45);have f4:=cK.jJ w3 45 n1 n2 n3;have t4:TB (w3.alloc (.cells #[n1,n2,n3] 45)) w3.heap.size 45:=⟨_,aS w3 _⟩;obtain⟨y01,y02,y03⟩:=o3.st;obtain⟨hf,kA,hNe,Ms,hb4,hlr,lE,lF,Ez⟩:=al5.out;have fU:RO w3 (FM g N V fun _=>False) n1 n2 n3 (-s) K:=o3.ro Ms (fun x hx=>hx.elim (fun h=>(hf.fF.ge h).2) (fun h=>h.elim));have zK:=g3.trans (b4.mono g3.size);obtain⟨w4,iG⟩:=xeq (w3.alloc (.cells #[n1,n2,n3] 45));obtain⟨Nn,eNn⟩:=xeq w3.heap.size;rw[iG]at b4 f4 t4 zK;rw[eNn]at f4 t4;replace fU:=fU.bJ (P:=fun _=>False) (bw.of b4) (fun _ h=>h.elim);replace kA:=kA.bJ (P:=fun _=>False) (bw.of zK) (fun _ h=>h.elim);replace hf:=hf.below zK;replace hNe:BV w4 Ne qf qt p1 p2 p3 y1 y2 y3:=(zK.block _ (au.1 hNe).1).trans hNe;have Ey:=f4;have GK:=t4;have pU:=ah (ai iG eNn);have abh:Z0<=wb.heap.size:=by have:=hb4.size;omega
   have JY:=ah (hb4.trans (zK.mono abh));have HQ:=ah (ai hlr (ai lE (ai lF Ez)));have sx:=ah (show∀i,(cw l k i).length<=18 from fun i=>by have:=afd.out i;omega);obtain⟨A,hA⟩:=xeq (cw l k);rw[hA]at hf sx;have HA:=ah hA;clear o3 g3 b4 f4 t4 zK iG eNn hb4 hlr lE lF Ez hA Ms abh
   -- w4:hf,kA,fU,hNe,Ey,GK,hZ
   obtain⟨Wb,oV⟩:=xeq ((w4.alloc (.cells #[.int .i64 (qf:Int),p1,p2,p3, .int .i64 (qt:Int),n1,n2,n3] 92)).drew);have jd:Below w4.heap.size w4 Wb:=by rw[<-oV];exact(bI w4 _).drew
   obtain⟨nb,hnb⟩:=xeq w4.heap.size;have h6:Wb.heap[nb]?=some (.cells #[.int .i64 (qf:Int),p1,p2,p3, .int .i64 (qt:Int),n1,n2,n3] 92 (0,0)):=by rw[<-oV,<-hnb];exact aS w4 _
   have pQ:=hf.below jd;have CD:=kA.bJ (P:=fun _=>False) (bw.of jd) (fun _ h=>h.elim);have CG:=fU.bJ (P:=fun _=>False) (bw.of jd) (fun _ h=>h.elim);have zB:BV Wb Ne qf qt p1 p2 p3 y1 y2 y3:=(jd.block _ (au.1 hNe).1).trans hNe;have EF:=Ey.keep jd;have zC:=GK.bJ (P:=fun _=>False) (bw.of jd) (fun h=>h)
   have hone:∀u∈[Value.int .i64 (qf:Int),p1,p2,p3, .int .i64 (qt:Int),n1,n2,n3],u.oneCell'=true:=fun u hu=>by
    have h1:=kA.1.qG (qf:Int);have h2:=fU.1.qG (qt:Int);rcases List.mem_append.1 (show u∈[Value.int .i64 (qf:Int),p1,p2,p3]++ [.int .i64 (qt:Int),n1,n2,n3]from hu)with h|h
    ·exact h1 u h
    ·exact h2 u h
   have x0:=hf.fF.row.cell rF;have xb:=pQ.fF.row.cell rF;have hown:=pQ.fF.own qf rF;have jR:Z0<=Wb.heap.size:=by have:=jd.size;have:=hf.fF.lo;have:=hf.fF.row.lt;omega
   have tE:TB Wb Ne 47:=⟨_,zB⟩;have gV:¬some Ne=(V qf).ownBlock:=fun hx=>TB.Cb pQ.fF tE (by decide) (by decide) (.inr ⟨qf,rF,hx.symm⟩);have iw:¬some Nn=(V qf).ownBlock:=fun hx=>TB.Cb pQ.fF zC (by decide) (by decide) (.inr ⟨qf,rF,hx.symm⟩);have jS:¬some g=(V qf).ownBlock:=fun hx=>pQ.fF.out qf rF hx.symm;have mI:=ah (show¬Ne=g/\¬Nn=g from⟨tE.ne pQ.fF.row.tb (by decide),zC.ne pQ.fF.row.tb (by decide)⟩);obtain⟨ll,qB⟩:=xeq ((A qf).length);have hll:ll<=40:=by rw[<-qB];exact ay (sx.out qf) (by omega)
   have HG:=ah (show∀g7 bR w7,w7.ownsRow Z0 92 4 (.slice (some ⟨g7,0,none⟩) (ll+2) bR) (ll+2) (L qf++ [.int .i64 (qf:Int),p1,p2,p3, .int .i64 (qt:Int),n1,n2,n3])->Wb.grownBy w7 (V qf).ownBlock->((V qf).ownBlock=some g7∨g7=Wb.heap.size)->∃V' L',gG (w7.setCell ⟨g,qf,none⟩ (.slice (some ⟨g7,0,none⟩) (ll+2) bR)) Z0 g N V' (fun _=>False) (bE A qf (A qf++ [(qf,s),(qt,-s)])) K L'/\RO (w7.setCell ⟨g,qf,none⟩ (.slice (some ⟨g7,0,none⟩) (ll+2) bR)) (FM g N V' fun _=>False) p1 p2 p3 s K/\RO (w7.setCell ⟨g,qf,none⟩ (.slice (some ⟨g7,0,none⟩) (ll+2) bR)) (FM g N V' fun _=>False) n1 n2 n3 (-s) K/\BV (w7.setCell ⟨g,qf,none⟩ (.slice (some ⟨g7,0,none⟩) (ll+2) bR)) Ne qf qt p1 p2 p3 y1 y2 y3/\cK (w7.setCell ⟨g,qf,none⟩ (.slice (some ⟨g7,0,none⟩) (ll+2) bR)) Nn n1 n2 n3/\TB (w7.setCell ⟨g,qf,none⟩ (.slice (some ⟨g7,0,none⟩) (ll+2) bR)) Nn 45/\bw (fun k=>Z0<=k) w4 (w7.setCell ⟨g,qf,none⟩ (.slice (some ⟨g7,0,none⟩) (ll+2) bR))from fun g7 bR w7 ew dR eO=>by
    subst qB;obtain⟨V',L',a1,a2,a3,a4,a5,a6,a7⟩:=pQ.two rF CD CG zB EF zC ew dR eO;exact⟨V',L',a1,a2,a3,a4,a5,a6,(bw.of jd).trans a7⟩)
   rw[qB]at hown;have xT:=ah pQ.fF.row
   have vQ:=ah (show∀w',Below w4.heap.size w4 w'->BV w' Ne qf qt p1 p2 p3 y1 y2 y3->cK w' Nn n1 n2 n3->w'.cell? ⟨Ne,0,none⟩=some (.int .i64 (qf:Int))/\w'.cell? ⟨Ne,1,none⟩=some (.int .i64 (qt:Int))/\w'.cell? ⟨Ne,2,none⟩=some p1/\w'.cell? ⟨Ne,3,none⟩=some p2/\w'.cell? ⟨Ne,4,none⟩=some p3/\w'.cell? ⟨Nn,0,none⟩=some n1/\w'.cell? ⟨Nn,1,none⟩=some n2/\w'.cell? ⟨Nn,2,none⟩=some n3 from fun w' _ h1 h2=>by
    obtain⟨⟨c0,c1,c2,c3,c4,_⟩,_⟩:=fQ h1;exact⟨c0,c1,c2,c3,c4,h2.c0,h2.c1,h2.c2⟩)
   have xQ:=ah jd;have Sn:=ah zB;have Sp:=ah EF;have JE:=ah (show BV w4.drew Ne qf qt p1 p2 p3 y1 y2 y3 from hNe);have JF:=ah (show cK w4.drew Nn n1 n2 n3 from Ey.keep (aq _ _).drew);obtain⟨y01,y02,y03⟩:=kA.1.st;obtain⟨y04,y05,y06⟩:=kA.1.cl;obtain⟨y07,y08,y09⟩:=fU.1.st;obtain⟨y10,y11,y12⟩:=fU.1.cl;have Ab:=ah oV;have uY:=ah hnb;clear hf kA fU hNe Ey GK jd pQ CD CG zB EF zC tE qB oV hnb;go_upto_region 8 with fail
   (try rw[pU.out.1]);(try rw[pU.out.2])
   go_cut [] (fun wx=>∃V' L',gG wx Z0 g N V' (fun _=>False) (bE A qf (A qf++ [(qf,s),(qt,-s)])) K L'/\RO wx (FM g N V' fun _=>False) p1 p2 p3 s K/\RO wx (FM g N V' fun _=>False) n1 n2 n3 (-s) K/\BV wx Ne qf qt p1 p2 p3 y1 y2 y3/\cK wx Nn n1 n2 n3/\TB wx Nn 45/\bw (fun k=>Z0<=k) w4 wx)
   case first=>
    refine wp_region_held_drew (S:=(fun w'=>w'.cell? ⟨Ne,0,none⟩=some (.int .i64 (qf:Int))/\w'.cell? ⟨Ne,1,none⟩=some (.int .i64 (qt:Int))/\w'.cell? ⟨Ne,2,none⟩=some p1/\w'.cell? ⟨Ne,3,none⟩=some p2/\w'.cell? ⟨Ne,4,none⟩=some p3/\w'.cell? ⟨Nn,0,none⟩=some n1/\w'.cell? ⟨Nn,1,none⟩=some n2/\w'.cell? ⟨Nn,2,none⟩=some n3)) (by kernel_rfl) (vQ.out _ (aq _ _).drew JE.out JF.out) (fun aU=>?_);refine tq 0 aU ?_;refine tq 1 aU ?_;refine tq 2 aU ?_;refine tq 3 aU ?_;refine tq 4 aU ?_;refine tq 5 aU ?_;refine tq 6 aU ?_;refine tq 8 aU ?_;refine tq 9 aU ?_;refine tq 10 aU ?_;refine tq 11 aU ?_;refine tq 12 aU ?_;refine tq 13 aU ?_;refine tq 14 aU ?_;refine tq 15 aU ?_;refine tq 16 aU ?_;refine wpAnyH_ready (rs:=[7,17]) (by kernel_rfl) (by simp) ?_;refine nC 7 rfl (fun κ hκ=>?_) ?_
    focus
     go_simp;refine hκ.out _ _ ?_ (fun aU=>?_)
     ·exact aU
     clear hκ κ;refine tu ?_;refine tv 17 (fun κ hκ=>?_);go_simp;(try rw[Ab.out]);(try rw[uY.out]);have k15:=vQ.out _ xQ.out Sn.out Sp.out;refine hκ.out _ _ ?_ (fun aU=>?_)
     ·exact k15
     clear hκ κ;refine tu ?_;refine tv 18 (fun κ hκ=>?_);refine step_append_lies _ rfl (.tmp 34) (.tmp 44) 40 rfl Z0 92 _ (.agg #[.int .i64 0, .bool false, .slice none 0 0, .slice none 0 0]) 4 64 Tryz.underlying40 bT.1 bT.2.1 bT.2.2.1 bT.2.2.2 rfl (by decide) (V qf) _ _ rfl hown ⟨nb,0,none⟩ 2 2 [.int .i64 (qf:Int),p1,p2,p3, .int .i64 (qt:Int),n1,n2,n3] rfl rfl (World.news_of_block h6) hone (by decide) (by simp only[maxLen];omega) (by omega) jR Wb.heap.size rfl ?_;intro g7 bR w7 ew dR eO kR;have c7:=bw.grown dR;have mF:=xT.out.bJ c7 jS;have x7:=mF.cell rF;have Kc:=mF.frozen qf;have k16:=ai (c7.cell gV k15.1) (ai (c7.cell gV k15.2.1) (ai (c7.cell gV k15.2.2.1) (ai (c7.cell gV k15.2.2.2.1) (ai (c7.cell gV k15.2.2.2.2.1) (ai (c7.cell iw k15.2.2.2.2.2.1) (ai (c7.cell iw k15.2.2.2.2.2.2.1) (c7.cell iw k15.2.2.2.2.2.2.2)))))));have sG:=ah (HG.out g7 bR w7 ew dR eO);clear ew dR eO c7 mF;refine hκ.out _ _ ?_ (fun aU=>?_)
     ·exact k16
     clear hκ κ;refine tu ?_;refine tq 19 aU ?_;refine tv 20 (fun κ hκ=>?_);go_simp;have c18:bw (fun x=>x=g) w7 (w7.setCell ⟨g,qf,none⟩ (.slice (some ⟨g7,0,none⟩) (ll+2) bR)):=bw.set (P:=(·=g)) (p:=⟨g,qf,none⟩) rfl _ _;have k18:=ai (c18.cell mI.out.1 aU.1) (ai (c18.cell mI.out.1 aU.2.1) (ai (c18.cell mI.out.1 aU.2.2.1) (ai (c18.cell mI.out.1 aU.2.2.2.1) (ai (c18.cell mI.out.1 aU.2.2.2.2.1) (ai (c18.cell mI.out.2 aU.2.2.2.2.2.1) (ai (c18.cell mI.out.2 aU.2.2.2.2.2.2.1) (c18.cell mI.out.2 aU.2.2.2.2.2.2.2)))))));clear c18;refine hκ.out _ _ ?_ (fun aU=>?_)
     ·exact k18
     clear hκ κ;refine tu ?_;refine td ?_ _;go_wp2_with fail
     go_meet;exact sG.out
    refine nC 17 rfl (fun κ hκ=>?_) ?_
    focus
     go_simp;(try rw[Ab.out]);(try rw[uY.out]);have k15:=vQ.out _ xQ.out Sn.out Sp.out;refine hκ.out _ _ ?_ (fun aU=>?_)
     ·exact k15
     clear hκ κ;refine tu ?_;refine tv 7 (fun κ hκ=>?_);go_simp;refine hκ.out _ _ ?_ (fun aU=>?_)
     ·exact aU
     clear hκ κ;refine tu ?_;refine tv 18 (fun κ hκ=>?_);refine step_append_lies _ rfl (.tmp 34) (.tmp 44) 40 rfl Z0 92 _ (.agg #[.int .i64 0, .bool false, .slice none 0 0, .slice none 0 0]) 4 64 Tryz.underlying40 bT.1 bT.2.1 bT.2.2.1 bT.2.2.2 rfl (by decide) (V qf) _ _ rfl hown ⟨nb,0,none⟩ 2 2 [.int .i64 (qf:Int),p1,p2,p3, .int .i64 (qt:Int),n1,n2,n3] rfl rfl (World.news_of_block h6) hone (by decide) (by simp only[maxLen];omega) (by omega) jR Wb.heap.size rfl ?_;intro g7 bR w7 ew dR eO kR;have c7:=bw.grown dR;have mF:=xT.out.bJ c7 jS;have x7:=mF.cell rF;have Kc:=mF.frozen qf;have k16:=ai (c7.cell gV k15.1) (ai (c7.cell gV k15.2.1) (ai (c7.cell gV k15.2.2.1) (ai (c7.cell gV k15.2.2.2.1) (ai (c7.cell gV k15.2.2.2.2.1) (ai (c7.cell iw k15.2.2.2.2.2.1) (ai (c7.cell iw k15.2.2.2.2.2.2.1) (c7.cell iw k15.2.2.2.2.2.2.2)))))));have sG:=ah (HG.out g7 bR w7 ew dR eO);clear ew dR eO c7 mF;refine hκ.out _ _ ?_ (fun aU=>?_)
     ·exact k16
     clear hκ κ;refine tu ?_;refine tq 19 aU ?_;refine tv 20 (fun κ hκ=>?_);go_simp;have c18:bw (fun x=>x=g) w7 (w7.setCell ⟨g,qf,none⟩ (.slice (some ⟨g7,0,none⟩) (ll+2) bR)):=bw.set (P:=(·=g)) (p:=⟨g,qf,none⟩) rfl _ _;have k18:=ai (c18.cell mI.out.1 aU.1) (ai (c18.cell mI.out.1 aU.2.1) (ai (c18.cell mI.out.1 aU.2.2.1) (ai (c18.cell mI.out.1 aU.2.2.2.1) (ai (c18.cell mI.out.1 aU.2.2.2.2.1) (ai (c18.cell mI.out.2 aU.2.2.2.2.2.1) (ai (c18.cell mI.out.2 aU.2.2.2.2.2.2.1) (c18.cell mI.out.2 aU.2.2.2.2.2.2.2)))))));clear c18;refine hκ.out _ _ ?_ (fun aU=>?_)
     ·exact k18
     clear hκ κ;refine tu ?_;refine td ?_ _;go_wp2_with fail
     go_meet;exact sG.out
    exact AllReadyH.nil
   case rest=>
    clear HG xT vQ xQ Sn Sp JE JF Ab uY mI h6 x0 xb hown jR gV iw jS hone y01 y02 y03 y04 y05 y06 y07 y08 y09 y10 y11 y12;obtain⟨V2,L2,hf,kA,fU,hNe,Ey,GK,hch⟩:=hcut;obtain⟨w5,rfl⟩:∃w5,w5=wc:=⟨_,rfl⟩;have HC1:=ah hch;obtain⟨A2,Kl⟩:=xeq (bE A qf (A qf++ [(qf,s),(qt,-s)]));rw[Kl]at hf
    have afe:=ah (show∀i,(A2 i).length<=40 from fun i=>by
     rw[<-Kl];unfold bE;split
     ·have:=sx.out qf;simp;omega
     ·have:=sx.out i;omega)
    have Yt:=ah Kl;clear hch Kl
    -- w5:hf,kA,fU,hNe,Ey,GK,hZ
    obtain⟨Wb,oV⟩:=xeq ((w5.alloc (.cells #[.int .i64 (qt:Int),p1,p2,p3, .int .i64 (qf:Int),n1,n2,n3] 92)).drew);have jd:Below w5.heap.size w5 Wb:=by rw[<-oV];exact(bI w5 _).drew
    obtain⟨nb,hnb⟩:=xeq w5.heap.size;have h6:Wb.heap[nb]?=some (.cells #[.int .i64 (qt:Int),p1,p2,p3, .int .i64 (qf:Int),n1,n2,n3] 92 (0,0)):=by rw[<-oV,<-hnb];exact aS w5 _
    have pQ:=hf.below jd;have CD:=kA.bJ (P:=fun _=>False) (bw.of jd) (fun _ h=>h.elim);have CG:=fU.bJ (P:=fun _=>False) (bw.of jd) (fun _ h=>h.elim);have zB:BV Wb Ne qf qt p1 p2 p3 y1 y2 y3:=(jd.block _ (au.1 hNe).1).trans hNe;have EF:=Ey.keep jd;have zC:=GK.bJ (P:=fun _=>False) (bw.of jd) (fun h=>h)
    have hone:∀u∈[Value.int .i64 (qt:Int),p1,p2,p3, .int .i64 (qf:Int),n1,n2,n3],u.oneCell'=true:=fun u hu=>by
     have h1:=kA.1.qG (qt:Int);have h2:=fU.1.qG (qf:Int);rcases List.mem_append.1 (show u∈[Value.int .i64 (qt:Int),p1,p2,p3]++ [.int .i64 (qf:Int),n1,n2,n3]from hu)with h|h
     ·exact h1 u h
     ·exact h2 u h
    have x0:=hf.fF.row.cell rG;have xb:=pQ.fF.row.cell rG;have hown:=pQ.fF.own qt rG;have jR:Z0<=Wb.heap.size:=by have:=jd.size;have:=hf.fF.lo;have:=hf.fF.row.lt;omega
    have tE:TB Wb Ne 47:=⟨_,zB⟩;have gV:¬some Ne=(V2 qt).ownBlock:=fun hx=>TB.Cb pQ.fF tE (by decide) (by decide) (.inr ⟨qt,rG,hx.symm⟩);have iw:¬some Nn=(V2 qt).ownBlock:=fun hx=>TB.Cb pQ.fF zC (by decide) (by decide) (.inr ⟨qt,rG,hx.symm⟩);have jS:¬some g=(V2 qt).ownBlock:=fun hx=>pQ.fF.out qt rG hx.symm;have mI:=ah (show¬Ne=g/\¬Nn=g from⟨tE.ne pQ.fF.row.tb (by decide),zC.ne pQ.fF.row.tb (by decide)⟩);obtain⟨ll,qB⟩:=xeq ((A2 qt).length);have hll:ll<=40:=by rw[<-qB];exact ay (afe.out qt) (by omega)
    have HG:=ah (show∀g7 bR w7,w7.ownsRow Z0 92 4 (.slice (some ⟨g7,0,none⟩) (ll+2) bR) (ll+2) (L2 qt++ [.int .i64 (qt:Int),p1,p2,p3, .int .i64 (qf:Int),n1,n2,n3])->Wb.grownBy w7 (V2 qt).ownBlock->((V2 qt).ownBlock=some g7∨g7=Wb.heap.size)->∃V' L',gG (w7.setCell ⟨g,qt,none⟩ (.slice (some ⟨g7,0,none⟩) (ll+2) bR)) Z0 g N V' (fun _=>False) (bE A2 qt (A2 qt++ [(qt,s),(qf,-s)])) K L'/\RO (w7.setCell ⟨g,qt,none⟩ (.slice (some ⟨g7,0,none⟩) (ll+2) bR)) (FM g N V' fun _=>False) p1 p2 p3 s K/\RO (w7.setCell ⟨g,qt,none⟩ (.slice (some ⟨g7,0,none⟩) (ll+2) bR)) (FM g N V' fun _=>False) n1 n2 n3 (-s) K/\BV (w7.setCell ⟨g,qt,none⟩ (.slice (some ⟨g7,0,none⟩) (ll+2) bR)) Ne qf qt p1 p2 p3 y1 y2 y3/\cK (w7.setCell ⟨g,qt,none⟩ (.slice (some ⟨g7,0,none⟩) (ll+2) bR)) Nn n1 n2 n3/\TB (w7.setCell ⟨g,qt,none⟩ (.slice (some ⟨g7,0,none⟩) (ll+2) bR)) Nn 45/\bw (fun k=>Z0<=k) w5 (w7.setCell ⟨g,qt,none⟩ (.slice (some ⟨g7,0,none⟩) (ll+2) bR))from fun g7 bR w7 ew dR eO=>by
     subst qB;obtain⟨V',L',a1,a2,a3,a4,a5,a6,a7⟩:=pQ.two rG CD CG zB EF zC ew dR eO;exact⟨V',L',a1,a2,a3,a4,a5,a6,(bw.of jd).trans a7⟩)
    rw[qB]at hown;have xT:=ah pQ.fF.row
    have vQ:=ah (show∀w',Below w5.heap.size w5 w'->BV w' Ne qf qt p1 p2 p3 y1 y2 y3->cK w' Nn n1 n2 n3->w'.cell? ⟨Ne,0,none⟩=some (.int .i64 (qf:Int))/\w'.cell? ⟨Ne,1,none⟩=some (.int .i64 (qt:Int))/\w'.cell? ⟨Ne,2,none⟩=some p1/\w'.cell? ⟨Ne,3,none⟩=some p2/\w'.cell? ⟨Ne,4,none⟩=some p3/\w'.cell? ⟨Nn,0,none⟩=some n1/\w'.cell? ⟨Nn,1,none⟩=some n2/\w'.cell? ⟨Nn,2,none⟩=some n3 from fun w' _ h1 h2=>by
     obtain⟨⟨c0,c1,c2,c3,c4,_⟩,_⟩:=fQ h1;exact⟨c0,c1,c2,c3,c4,h2.c0,h2.c1,h2.c2⟩)
    have xQ:=ah jd;have Sn:=ah zB;have Sp:=ah EF;have JE:=ah (show BV w5.drew Ne qf qt p1 p2 p3 y1 y2 y3 from hNe);have JF:=ah (show cK w5.drew Nn n1 n2 n3 from Ey.keep (aq _ _).drew);obtain⟨y01,y02,y03⟩:=kA.1.st;obtain⟨y04,y05,y06⟩:=kA.1.cl;obtain⟨y07,y08,y09⟩:=fU.1.st;obtain⟨y10,y11,y12⟩:=fU.1.cl;have Ab:=ah oV;have uY:=ah hnb;clear hf kA fU hNe Ey GK jd pQ CD CG zB EF zC tE qB oV hnb;go_upto_region 9 with fail
    refine wp_region_held_drew (S:=(fun w'=>w'.cell? ⟨Ne,0,none⟩=some (.int .i64 (qf:Int))/\w'.cell? ⟨Ne,1,none⟩=some (.int .i64 (qt:Int))/\w'.cell? ⟨Ne,2,none⟩=some p1/\w'.cell? ⟨Ne,3,none⟩=some p2/\w'.cell? ⟨Ne,4,none⟩=some p3/\w'.cell? ⟨Nn,0,none⟩=some n1/\w'.cell? ⟨Nn,1,none⟩=some n2/\w'.cell? ⟨Nn,2,none⟩=some n3)) (by kernel_rfl) (vQ.out _ (aq _ _).drew JE.out JF.out) (fun aU=>?_);refine tq 0 aU ?_;refine tq 1 aU ?_;refine tq 2 aU ?_;refine tq 3 aU ?_;refine tq 4 aU ?_;refine tq 5 aU ?_;refine tq 6 aU ?_;refine tq 8 aU ?_;refine tq 9 aU ?_;refine tq 10 aU ?_;refine tq 11 aU ?_;refine tq 12 aU ?_;refine tq 13 aU ?_;refine tq 14 aU ?_;refine tq 15 aU ?_;refine tq 16 aU ?_;refine wpAnyH_ready (rs:=[7,17]) (by kernel_rfl) (by simp) ?_;refine nC 7 rfl (fun κ hκ=>?_) ?_
    focus
     go_simp;refine hκ.out _ _ ?_ (fun aU=>?_)
     ·exact aU
     clear hκ κ;refine tu ?_;refine tv 17 (fun κ hκ=>?_);go_simp;(try rw[Ab.out]);(try rw[uY.out]);have k15:=vQ.out _ xQ.out Sn.out Sp.out;refine hκ.out _ _ ?_ (fun aU=>?_)
     ·exact k15
     clear hκ κ;refine tu ?_;refine tv 18 (fun κ hκ=>?_);refine step_append_lies _ rfl (.tmp 54) (.tmp 64) 40 rfl Z0 92 _ (.agg #[.int .i64 0, .bool false, .slice none 0 0, .slice none 0 0]) 4 64 Tryz.underlying40 bT.1 bT.2.1 bT.2.2.1 bT.2.2.2 rfl (by decide) (V2 qt) _ _ rfl hown ⟨nb,0,none⟩ 2 2 [.int .i64 (qt:Int),p1,p2,p3, .int .i64 (qf:Int),n1,n2,n3] rfl rfl (World.news_of_block h6) hone (by decide) (by simp only[maxLen];omega) (by omega) jR Wb.heap.size rfl ?_;intro g7 bR w7 ew dR eO kR;have c7:=bw.grown dR;have mF:=xT.out.bJ c7 jS;have x7:=mF.cell rG;have Kc:=mF.frozen qt;have k16:=ai (c7.cell gV k15.1) (ai (c7.cell gV k15.2.1) (ai (c7.cell gV k15.2.2.1) (ai (c7.cell gV k15.2.2.2.1) (ai (c7.cell gV k15.2.2.2.2.1) (ai (c7.cell iw k15.2.2.2.2.2.1) (ai (c7.cell iw k15.2.2.2.2.2.2.1) (c7.cell iw k15.2.2.2.2.2.2.2)))))));have sG:=ah (HG.out g7 bR w7 ew dR eO);clear ew dR eO c7 mF;refine hκ.out _ _ ?_ (fun aU=>?_)
     ·exact k16
     clear hκ κ;refine tu ?_;refine tq 19 aU ?_;refine tv 20 (fun κ hκ=>?_);go_simp;have c18:bw (fun x=>x=g) w7 (w7.setCell ⟨g,qt,none⟩ (.slice (some ⟨g7,0,none⟩) (ll+2) bR)):=bw.set (P:=(·=g)) (p:=⟨g,qt,none⟩) rfl _ _;have k18:=ai (c18.cell mI.out.1 aU.1) (ai (c18.cell mI.out.1 aU.2.1) (ai (c18.cell mI.out.1 aU.2.2.1) (ai (c18.cell mI.out.1 aU.2.2.2.1) (ai (c18.cell mI.out.1 aU.2.2.2.2.1) (ai (c18.cell mI.out.2 aU.2.2.2.2.2.1) (ai (c18.cell mI.out.2 aU.2.2.2.2.2.2.1) (c18.cell mI.out.2 aU.2.2.2.2.2.2.2)))))));clear c18;refine hκ.out _ _ ?_ (fun aU=>?_)
     ·exact k18
     clear hκ κ;refine tu ?_;refine td ?_ _;have oB:=sG.out;obtain⟨wc,hwc⟩:=xeq (w7.setCell ⟨g,qt,none⟩ (.slice (some ⟨g7,0,none⟩) (ll+2) bR));rw[hwc]at oB⊢;clear hwc sG HG xT vQ xQ Sn Sp JE JF Ab uY mI h6 x0 xb hown jR gV iw jS hone y01 y02 y03 y04 y05 y06 y07 y08 y09 y10 y11 y12 aU;obtain⟨V3,L3,hf,kA,fU,hNe,Ey,GK,hch⟩:=oB;have Cw:=HC1.out.trans hch;have Fu:=JY.out;have eC:Below Z0 w2 wc:=Fu.trans (Cw.below (ay (by omega) Fu.size) (fun x hx h=>by omega));obtain⟨hlr,lE,lF,Ez⟩:=HQ.out
     have hfin:gG wc Z0 g N V3 (fun _=>False) (cw l (k+1)) K L3:=by
      rw[hlr];unfold iH;rw[HA.out,lE,lF,Ez,Yt.out];exact hf
     have HR:=ah (ai hfin eC);clear hf kA fU hNe Ey GK hch Cw Fu eC hlr lE lF Ez hfin;go_wp2_with fail
     go_roundw
     case rel=>exact⟨k+1,_,_,by omega,by go_num,HR.out⟩
     case measure=>simp[intOf];omega
    refine nC 17 rfl (fun κ hκ=>?_) ?_
    focus
     go_simp;(try rw[Ab.out]);(try rw[uY.out]);have k15:=vQ.out _ xQ.out Sn.out Sp.out;refine hκ.out _ _ ?_ (fun aU=>?_)
     ·exact k15
     clear hκ κ;refine tu ?_;refine tv 7 (fun κ hκ=>?_);go_simp;refine hκ.out _ _ ?_ (fun aU=>?_)
     ·exact aU
     clear hκ κ;refine tu ?_;refine tv 18 (fun κ hκ=>?_);refine step_append_lies _ rfl (.tmp 54) (.tmp 64) 40 rfl Z0 92 _ (.agg #[.int .i64 0, .bool false, .slice none 0 0, .slice none 0 0]) 4 64 Tryz.underlying40 bT.1 bT.2.1 bT.2.2.1 bT.2.2.2 rfl (by decide) (V2 qt) _ _ rfl hown ⟨nb,0,none⟩ 2 2 [.int .i64 (qt:Int),p1,p2,p3, .int .i64 (qf:Int),n1,n2,n3] rfl rfl (World.news_of_block h6) hone (by decide) (by simp only[maxLen];omega) (by omega) jR Wb.heap.size rfl ?_;intro g7 bR w7 ew dR eO kR;have c7:=bw.grown dR;have mF:=xT.out.bJ c7 jS;have x7:=mF.cell rG;have Kc:=mF.frozen qt;have k16:=ai (c7.cell gV k15.1) (ai (c7.cell gV k15.2.1) (ai (c7.cell gV k15.2.2.1) (ai (c7.cell gV k15.2.2.2.1) (ai (c7.cell gV k15.2.2.2.2.1) (ai (c7.cell iw k15.2.2.2.2.2.1) (ai (c7.cell iw k15.2.2.2.2.2.2.1) (c7.cell iw k15.2.2.2.2.2.2.2)))))));have sG:=ah (HG.out g7 bR w7 ew dR eO);clear ew dR eO c7 mF;refine hκ.out _ _ ?_ (fun aU=>?_)
     ·exact k16
     clear hκ κ;refine tu ?_;refine tq 19 aU ?_;refine tv 20 (fun κ hκ=>?_);go_simp;have c18:bw (fun x=>x=g) w7 (w7.setCell ⟨g,qt,none⟩ (.slice (some ⟨g7,0,none⟩) (ll+2) bR)):=bw.set (P:=(·=g)) (p:=⟨g,qt,none⟩) rfl _ _;have k18:=ai (c18.cell mI.out.1 aU.1) (ai (c18.cell mI.out.1 aU.2.1) (ai (c18.cell mI.out.1 aU.2.2.1) (ai (c18.cell mI.out.1 aU.2.2.2.1) (ai (c18.cell mI.out.1 aU.2.2.2.2.1) (ai (c18.cell mI.out.2 aU.2.2.2.2.2.1) (ai (c18.cell mI.out.2 aU.2.2.2.2.2.2.1) (c18.cell mI.out.2 aU.2.2.2.2.2.2.2)))))));clear c18;refine hκ.out _ _ ?_ (fun aU=>?_)
     ·exact k18
     clear hκ κ;refine tu ?_;refine td ?_ _;have oB:=sG.out;obtain⟨wc,hwc⟩:=xeq (w7.setCell ⟨g,qt,none⟩ (.slice (some ⟨g7,0,none⟩) (ll+2) bR));rw[hwc]at oB⊢;clear hwc sG HG xT vQ xQ Sn Sp JE JF Ab uY mI h6 x0 xb hown jR gV iw jS hone y01 y02 y03 y04 y05 y06 y07 y08 y09 y10 y11 y12 aU;obtain⟨V3,L3,hf,kA,fU,hNe,Ey,GK,hch⟩:=oB;have Cw:=HC1.out.trans hch;have Fu:=JY.out;have eC:Below Z0 w2 wc:=Fu.trans (Cw.below (ay (by omega) Fu.size) (fun x hx h=>by omega));obtain⟨hlr,lE,lF,Ez⟩:=HQ.out
     have hfin:gG wc Z0 g N V3 (fun _=>False) (cw l (k+1)) K L3:=by
      rw[hlr];unfold iH;rw[HA.out,lE,lF,Ez,Yt.out];exact hf
     have HR:=ah (ai hfin eC);clear hf kA fU hNe Ey GK hch Cw Fu eC hlr lE lF Ez hfin;go_wp2_with fail
     go_roundw
     case rel=>exact⟨k+1,_,_,by omega,by go_num,HR.out⟩
     case measure=>simp[intOf];omega
    exact AllReadyH.nil
  ·obtain rfl:m=k:=by omega
   have hV:∀i,i<N->∃D c,V i= .slice D (cw l m i).length c/\((cw l m i).length<=c/\c<=9223372036854775807)/\EL wr D (cw l m i) K:=fun i hi=>hf.eo hi;have HI:=ah (show dm wr g 40 N V/\(∀i,i<0->∃D c,V i= .slice D ([]:List (Nat×Rat)).length c/\(([]:List (Nat×Rat)).length<=c/\c<=9223372036854775807)/\EL wr D ([]:List (Nat×Rat)) M/\Can N ([]:List (Nat×Rat))/\∀j,gv ([]:List (Nat×Rat)) j=gv (cw l m i) j)/\(∀i,0<=i->i<N->∃D c,V i= .slice D (cw l m i).length c/\((cw l m i).length<=c/\c<=9223372036854775807)/\EL wr D (cw l m i) K)/\Below Z0 w2 wr from⟨hf.fF.row,fun i hi=>absurd hi (Nat.not_lt_zero _),fun i _ hi=>hV i hi,hb⟩);clear hf hV hb cF hzs;go_wp2_with fail
   go_loopw [70] (fun t wr=>∃(k:Nat) (V:Nat->Value) (R:Nat->List (Nat×Rat)),k<=N/\t= .int .i64 (k:Int)/\dm wr g 40 N V/\(∀i,i<k->∃D c,V i= .slice D (R i).length c/\((R i).length<=c/\c<=9223372036854775807)/\EL wr D (R i) M/\Can N (R i)/\∀j,gv (R i) j=gv (cw l m i) j)/\(∀i,k<=i->i<N->∃D c,V i= .slice D (cw l m i).length c/\((cw l m i).length<=c/\c<=9223372036854775807)/\EL wr D (cw l m i) K)/\Below Z0 w2 wr) (fun t _=>N- (intOf t).toNat)
   case atStart=>exact⟨0,_,fun _=>[],aF _,rfl,HI.out⟩
   case round=>
    clear HI;obtain⟨k,V,R,hk,rfl,hv,hdone,hold,hb⟩:=hrel
    have hne:NE wr g:=hv.ne (fun i hi=>by
     rcases aN i k with h1|h1
     ·obtain⟨D,c,e,_⟩:=hdone i h1;exact⟨_,_,_,e⟩
     ·obtain⟨D,c,e,_⟩:=hold i h1 hi;exact⟨_,_,_,e⟩)
    by_cases hlk:k<N
    ·obtain⟨Dk,ck,eV,RX,hel⟩:=hold k (aj _) hlk;have x0:=hv.cell hlk;rw[eV]at x0;have hlen:=sq (l:=l) (fun q h=>(HV.out q h).2.2.1) m k
     have hnm:=LO (c:=ck) (n:=N) (M:=M) hel (by omega) RX.1 (by have:=HK.out.1;omega) (by
      have h1:=HK.out.2.1;have h2:=aH (K+1) (show(cw l m k).length<=18 by omega);omega) HK.out.2.2 (Ew (fun q h=>⟨(HV.out q h).1,(HV.out q h).2.1⟩) m k) (by omega)
     obtain⟨la,kL⟩:=xeq ((cw l m k).length);rw[kL]at x0 hnm;have v0:(0:Int)<=(k:Int):=by omega
     have v1:(k:Int)<N:=by omega
     have HS:=ah (ai hv (ai hdone (ai hold (ai hb hne))));clear hv hdone hold hb hne eV RX hel hlen kL;go_wp2_with fail
     refine hnm.mono ?_;rintro ret w3 ⟨v3,r3,rfl,dY,lK,qJ,g3⟩;obtain⟨D3,c3,rfl,aff,hc3⟩:=dY.slice;clear hnm;obtain⟨hv,hdone,hold,hb,hne⟩:=HS.out;have Ke:=hv.bJ (P:=fun _=>False) (bw.of g3) (fun h=>h);have z0:=Ke.cell hlk;have z1:=Ke.frozen k
     have jS:∀x,x=g->NE w3 x:=fun x e=>by
      subst e;refine Ke.ne (fun i hi=>?_);rcases aN i k with h1|h1
      ·obtain⟨D,c,e,_⟩:=hdone i h1;exact⟨_,_,_,e⟩
      ·obtain⟨D,c,e,_⟩:=hold i h1 hi;exact⟨_,_,_,e⟩
     have hcg:bw (·=g) w3 (w3.setCell ⟨g,k,none⟩ (.slice D3 r3.length c3)):=bw.set (P:=(·=g)) (p:=⟨g,k,none⟩) rfl _ _;have hvs:=Ke.set k (.slice D3 r3.length c3);have Sq:Z0<=wr.heap.size:=by have:=hb.size;omega
     have HR:=ah (show dm (w3.setCell ⟨g,k,none⟩ (.slice D3 r3.length c3)) g 40 N (bE V k (.slice D3 r3.length c3))/\(∀i,i<k+1->∃D c,bE V k (.slice D3 r3.length c3) i= .slice D (bE R k r3 i).length c/\((bE R k r3 i).length<=c/\c<=9223372036854775807)/\EL (w3.setCell ⟨g,k,none⟩ (.slice D3 r3.length c3)) D (bE R k r3 i) M/\Can N (bE R k r3 i)/\∀j,gv (bE R k r3 i) j=gv (cw l m i) j)/\(∀i,k+1<=i->i<N->∃D c,bE V k (.slice D3 r3.length c3) i= .slice D (cw l m i).length c/\((cw l m i).length<=c/\c<=9223372036854775807)/\EL (w3.setCell ⟨g,k,none⟩ (.slice D3 r3.length c3)) D (cw l m i) K)/\Below Z0 w2 (w3.setCell ⟨g,k,none⟩ (.slice D3 r3.length c3))from by
      refine⟨hvs,fun i hi=>?_,fun i h1 h2=>?_,(hb.trans (g3.mono Sq)).trans (hcg.below (ay Sq g3.size) (fun x hx e=>by omega))⟩
      ·by_cases e:i=k
       ·subst e;rw[aW,aW];exact⟨D3,c3,rfl,hc3,aff.wO hcg jS,lK,qJ⟩
       ·rw[bk _ _ e,bk _ _ e];obtain⟨D,c,h1,h2,h3,h4⟩:=hdone i (by omega);exact⟨D,c,h1,h2,(h3.below g3).wO hcg jS,h4⟩
      ·rw[bk _ _ (by omega)];obtain⟨D,c,h3,h4,h5⟩:=hold i (by omega) h2;exact⟨D,c,h3,h4,(h5.below g3).wO hcg jS⟩)
     clear dY aff lK qJ g3 hv hdone hold hb hne Ke jS hcg hvs Sq x0;go_wp2_with fail
     go_roundw
     case rel=>exact⟨k+1,_,_,by omega,by go_num,HR.out⟩
     case measure=>simp[intOf];omega
    ·obtain rfl:N=k:=by omega
     have x0:=hb.cell (p:=⟨N0,0,none⟩) XU|>.trans wT.out.2.1;have rJ:=(hb.block N1 aoz).trans wT.out.2.2.2;have e8:=fun i=>aT wr N1 i _ _ (0,0) rJ;have y0:=(e8 0).trans (show _=some (Value.int .i64 0)from rfl);have y1:=(e8 1).trans (show _=some (Value.int .i64 0)from rfl);have y2:=(e8 2).trans (show _=some (Value.slice none 0 0)from rfl);have f8:∀i,wr.frozen? ⟨N1,i,none⟩=false:=fun i=>by simp[World.frozen?,rJ]
     have f0:=f8 0;have f1:=f8 1;have f2:=f8 2
     have XT:∀x,x=N1->NE wr x:=fun x e=>by
      subst e;refine NE.of rJ fun i v hv=>?_
      match i,hv with
      |0,hv=>injection hv with hv;subst hv;exact⟨fun z e=>(by cases e),fun p e=>(by cases e)⟩
      |1,hv=>injection hv with hv;subst hv;exact⟨fun z e=>(by cases e),fun p e=>(by cases e)⟩
      |2,hv=>injection hv with hv;subst hv;exact⟨fun z e=>(by cases e),fun p e=>(by cases e)⟩
      |i+3,hv=>simp at hv
     have hcs:=bw.jc N1 0 wr (.int .i64 (N:Int)) (.int .i64 (N:Int)) (.slice (some ⟨g,0,none⟩) N N)
     have N4:ML wr (some ⟨g,0,none⟩) N R M:=fun _=>⟨g,0,rfl,hv.lt,fun i hi=>by
      obtain⟨D,c,h1,h2,h3,_⟩:=hdone i hi;exact⟨D,c,by rw[Nat.zero_add,hv.cell hi,h1],h2,h3⟩⟩
     have bC:=wT.out.1
     have HR:=ah (show ML (((wr.setCell ⟨N1,0,none⟩ (.int .i64 (N:Int))).setCell ⟨N1,1,none⟩ (.int .i64 (N:Int))).setCell ⟨N1,2,none⟩ (.slice (some ⟨g,0,none⟩) N N)) (some ⟨g,0,none⟩) N R M/\(∀i,i<N->Can N (R i)/\∀j,gv (R i) j=Gd.vM (pO l) i j)/\Below w.heap.size w (((wr.setCell ⟨N1,0,none⟩ (.int .i64 (N:Int))).setCell ⟨N1,1,none⟩ (.int .i64 (N:Int))).setCell ⟨N1,2,none⟩ (.slice (some ⟨g,0,none⟩) N N))from by
      have Oa:¬g=N1:=by omega
      refine⟨N4.wO Oa hcs XT,fun i hi=>?_,?_⟩
      ·obtain⟨D,c,_,_,_,h4,h5⟩:=hdone i hi;refine⟨h4,fun j=>?_⟩;rw[h5,Ev (fun q h=>(HV.out q h).2.2.1),aI (by rw[HM.out];exact aj _)]
      ·have h1:=bC.trans (hb.mono J5);exact h1.trans (hcs.below h1.size (fun x hx e=>by have:=Oh.out;have:=EN1.out;omega)))
     clear hv hdone hold hb hne rJ e8 f8 XT hcs N4 bC;go_wp2_with fail
     exact bodyPost_ret (v:= .tuple #[.agg #[.int .i64 (N:Int), .int .i64 (N:Int), .slice (some ⟨g,0,none⟩) N N], .int .i64 0]) (by simp[results,Tryz.results23,go_sem,y0,y1,y2]) rfl ⟨g,R,rfl,HR.out⟩
def jA(w:World)(g n:Nat):Prop:=∃f,dL w g n f/\∀i,i<n->(f i).ok w (fun x=>x=g) 1/\(f i).r=0
def ZL(w:World)(D:Option Addr)(n:Nat):Prop:=QL w D (List.replicate n 0) 1
section
variable {w w':World}{g n:Nat}{D:Option Addr}
theorem jA.lt(h:jA w g n):g<w.heap.size:=by
 obtain⟨f,h1,_⟩:=h;exact h1.lt
theorem jA.below(h:jA w g n)(hb:Below w.heap.size w w'):jA w' g n:=by
 obtain⟨f,h1,h2⟩:=h;exact⟨f,h1.below hb,fun i hi=>⟨(h2 i hi).1.bJ (P:=fun _=>False) (bw.of hb) (fun _ h=>h.elim),(h2 i hi).2⟩⟩
theorem jA.sA(h:jA w g n)(i:Nat):w.frozen? ⟨g,i*3,none⟩=false/\w.frozen? ⟨g,i*3+1,none⟩=false/\w.frozen? ⟨g,i*3+2,none⟩=false:=by
 obtain⟨f,h1,_⟩:=h;exact⟨h1.frozen _,h1.frozen _,h1.frozen _⟩
theorem jA.cells(h:jA w g n){i:Nat}(hi:i<n):∃b s t,(w.cell? ⟨g,i*3,none⟩=some b/\w.cell? ⟨g,i*3+1,none⟩=some s/\w.cell? ⟨g,i*3+2,none⟩=some t)/\RO w (fun x=>x=g) b s t 0 1:=by
 obtain⟨f,h1,h2⟩:=h;obtain⟨h3,h4⟩:=h2 i hi;unfold Qc.ok at h3;rw[h4]at h3;exact⟨_,_,_,h1.cell hi,h3⟩
theorem jA.put(h:jA w g n){i:Nat}(hi:i<n){b s t:Value}(hr:RO w (fun x=>x=g) b s t 0 1):jA (((w.setCell ⟨g,i*3,none⟩ b).setCell ⟨g,i*3+1,none⟩ s).setCell ⟨g,i*3+2,none⟩ t) g n:=by
 obtain⟨f,h1,h2⟩:=h;have hc:=bw.jc g i w b s t;refine⟨_,h1.set hi ⟨b,s,t,0⟩,fun j hj=>?_⟩
 by_cases e:j=i
 ·subst e;rw[aW];exact⟨hr.bJ hc (fun _ h=>h),rfl⟩
 ·rw[bk _ _ e];exact⟨(h2 j hj).1.bJ hc (fun _ h=>h),(h2 j hj).2⟩
theorem jA.zl(h:jA w g n):ZL w (some ⟨g,0,none⟩) n:=by
 obtain⟨f,h1,h2⟩:=h
 have e:rZ n f=List.replicate n 0:=by
  apply List.ext_getElem?;intro i
  by_cases hi:i<n
  ·rw[oM hi,(h2 i hi).2,List.getElem?_replicate,if_pos hi]
  ·rw[aQ (by rw[oL];omega),aQ (by simp;omega)]
 unfold ZL;rw[<-e];exact h1.ql (fun i hi=>(h2 i hi).1)
theorem jA.new(w:World)(n:Nat):jA (w.alloc (.cells (dF n fun _=>Qc.z) 45)) w.heap.size n:=
 ⟨_,aS w _,fun _ _=>⟨Qc.okz (aj 1),rfl⟩⟩
theorem ZL.below(h:ZL w D n)(hb:Below w.heap.size w w'):ZL w' D n:=QL.below h hb
theorem ZL.nth(h:ZL w D n){i:Nat}(hi:i<n):∃b off,D=some ⟨b,off,none⟩/\b<w.heap.size/\∃x y z,w.cell? ⟨b,off+i*3,none⟩=some x/\w.cell? ⟨b,off+i*3+1,none⟩=some y/\w.cell? ⟨b,off+i*3+2,none⟩=some z/\bG w x y z 0 1:=by
 obtain⟨b,off,e,hlt,hc⟩:=h (by simp;omega);exact⟨b,off,e,hlt,hc i 0 (by rw[List.getElem?_replicate,if_pos hi])⟩
end
theorem Vx{w:World}{x y z:Value}(h:bG w x y z 0 1):Calls Tryz.prog 92 #[.agg #[x,y,z]] w (fun e w'=>e= .returned (.bool false)/\Below w.heap.size w w'):=by
 obtain⟨W,hW,bC,i0⟩:∃W,w.alloc (.cells #[x,y,z] 45)=W/\Below w.heap.size w W/\cK W w.heap.size x y z:=⟨_,rfl,bI _ _,cK.new _ _ _ _⟩;have hs:=fN (h.keep bC) (by decide) (show fZ (0:Rat).num=0 from by decide);have x0:=i0.c0;have x1:=i0.c1;have x2:=i0.c2;have HW:=ah hW;have HB:=ah bC;clear h hW bC;go_enter Tryz.func92,Tryz.ntmps92
 go_wp2_with fail
 rw[HW.out];refine hs.mono ?_;rintro e w1 ⟨rfl,g1⟩;have hb:=HB.out.trans (g1.mono HB.out.size);clear hs x0 x1 x2;go_wp2_with fail
 go_ret;exact⟨rfl,hb⟩
theorem Mt{w:World}{D:Option Addr}{m c:Nat}(hm:m<=1048576)(hx:ZL w D m):
 Calls Tryz.prog 121 #[.slice D m c, .func (.func 92) #[] #[]] w (fun e w'=>e= .returned (.int .i64 (-1))/\Below w.heap.size w w'):=by
 have LZ:=enters_of Tryz.func92 (by kernel_rfl) rfl;go_enter Tryz.func121,Tryz.ntmps121
 go_wp2_with fail
 go_loopw [8] (fun s wr=>∃i:Nat,i<=m/\s= .int .i64 (i:Int)/\Below w.heap.size w wr) (fun s _=>m- (intOf s).toNat)
 case atStart=>exact⟨0,aF _,rfl,aq _ _⟩
 case round=>
  obtain⟨i,hi,rfl,hb⟩:=hrel
  by_cases hlt:i<m
  ·obtain⟨b,off,rfl,hbl,x,y,z,h0,h1,h2,hr⟩:=(hx.below hb).nth hlt;have i0:(0:Int)<=(i:Int):=by omega
   have i1:(i:Int)<m:=by omega
   have hq:=Vx hr;clear hx hr;go_wp2_with fail
   refine hq.mono ?_;rintro e w1 ⟨rfl,g1⟩;have hb1:=hb.trans (g1.mono hb.size);clear hq h0 h1 h2 hb g1;go_wp2_with fail
   go_roundw
   case rel=>exact⟨i+1,by omega,by go_num,hb1⟩
   case measure=>simp[intOf];omega
  ·obtain rfl:i=m:=by omega
   clear hx;go_wp2_with fail
   go_ret;exact⟨rfl,hb⟩
theorem Cc{w:World}{D:Option Addr}{m c:Nat}(hm:m<=1048576)(hx:ZL w D m):
 Calls Tryz.prog 91 #[.slice D m c, .func (.func 92) #[] #[]] w (fun e w'=>e= .returned (.bool false)/\Below w.heap.size w w'):=by
 have hi:=Mt (c:=c) hm hx;clear hx;go_enter Tryz.func91,Tryz.ntmps91
 go_wp2_with fail
 refine hi.mono ?_;rintro e w1 ⟨rfl,g1⟩;clear hi;go_wp2_with fail
 go_ret;exact⟨rfl,g1⟩
/-- the sums of zeros are 0 -/
theorem Cd{w:World}{g0 N c:Nat}{D:Option Addr}{u:Nat->Nat}(hN:N<=16384)(hs:cC w g0 N (fun i=>(u i:Int)))(hu:∀i,i<N->u i<N)(hz:ZL w D N):
 Calls Tryz.prog 53 #[.slice (some ⟨g0,0,none⟩) N N, .slice D N c] w (fun e w'=>e= .returned (.bool true)/\Below w.heap.size w w'):=by
 have hmk:=mY (N:Int) N rfl (by omega) w;have hz2:=jA.new w N;have hb2:=bI w (.cells (dF N fun _=>Qc.z) 45);obtain⟨GJ,hQ⟩:=xeq (dF N (fun _=>Qc.z));rw[hQ]at hmk hz2 hb2;obtain⟨w2,hw2⟩:=xeq (w.alloc (.cells GJ 45));obtain⟨Z0,iC⟩:=xeq w.heap.size;rw[hw2]at hmk hz2 hb2;obtain⟨g,eg⟩:=xeq Z0;rw[iC]at hmk hz2 hb2;rw[eg]at hmk hz2;have XW:Z0<=g:=by omega
 have hg0:g0<Z0:=by rw[<-iC];exact hs.lt
 have HSL:=ah (ai hs (ai hu hz));have HZ:=ah iC;have wT:=ah hb2;have HI:=ah hz2;clear hs hu hz hw2 hQ iC hb2 hz2 eg;go_enter Tryz.func53,Tryz.ntmps53
 go_wp2_with fail
 clear hmk
 go_loopw [13] (fun t wr=>∃k:Nat,k<=N/\t= .int .i64 (k:Int)/\jA wr g N/\Below Z0 w2 wr) (fun t _=>N- (intOf t).toNat)
 case atStart=>exact⟨0,aF _,rfl,HI.out,aq _ _⟩
 case round=>
  clear HI;obtain⟨k,hk,rfl,hz,hb⟩:=hrel
  have cF:Below w.heap.size w wr:=by
   have h1:=wT.out.trans hb;rw[<-HZ.out]at h1;exact h1
  by_cases hlk:k<N
  ·have hsw:=HSL.out.1.below cF HSL.out.1.lt;have x0:=hsw.cell hlk;have huk:=HSL.out.2.1 k hlk;obtain⟨uk,euk⟩:=xeq (u k);rw[euk]at x0 huk;obtain⟨fb,fo,rfl,hfl,x,y,z,q0,q1,q2,XY⟩:=HSL.out.2.2.nth hlk;have hflZ:fb<Z0:=by rw[<-HZ.out];exact hfl
   have Vy:=huk;have v0:(0:Int)<=(k:Int):=by omega
   have v1:(k:Int)<N:=by omega
   have v2:(0:Int)<=(uk:Int):=by omega
   have v3:(uk:Int)<N:=by omega
   have hbd:Below w.heap.size w wr.drew:=cF.drew;have w0:=bn hbd hfl q0;have w1_:=bn hbd hfl q1;have w2_:=bn hbd hfl q2;have hrd:=XY.keep hbd;have pE:fb<wr.drew.heap.size:=ak hfl hbd.size;have hnf:¬fb=g:=by omega
   have Iz:=ah hb;clear cF hsw q0 q1 q2 XY hbd hb euk;have hdr:Below wr.heap.size wr wr.drew:=(aq _ _).drew;have hzd:=hz.below hdr;obtain⟨zb,zs,zt,⟨Cz,CA,CB⟩,xB⟩:=hzd.cells Vy;have hcall:=kI xB.1 hrd (by decide) (show(0:Rat)+0=0 from by grind);have vQ:=ah (show∀w',Below wr.drew.heap.size wr.drew w'->w'.cell? ⟨fb,fo+k*3,none⟩=some x/\w'.cell? ⟨fb,fo+k*3+1,none⟩=some y/\w'.cell? ⟨fb,fo+k*3+2,none⟩=some z from fun w' hb=>⟨bn hb pE w0,bn hb pE w1_,bn hb pE w2_⟩);have Mu:=ah hzd;have Io:=ah (show Z0<=wr.drew.heap.size from by have h1:=hz.lt;exact aR (aP XW h1));clear hz hdr hzd xB;go_upto_region 5 with fail
   clear x0;refine wp_region_held_drew (S:=(fun w'=>w'.cell? ⟨fb,fo+k*3,none⟩=some x/\w'.cell? ⟨fb,fo+k*3+1,none⟩=some y/\w'.cell? ⟨fb,fo+k*3+2,none⟩=some z)) (by kernel_rfl) (vQ.out _ (aq _ _)) (fun aU=>?_);refine tq 0 aU ?_;refine tq 1 aU ?_;refine tq 2 aU ?_;refine tq 3 aU ?_;refine tq 4 aU ?_;refine tq 6 aU ?_;refine tq 7 aU ?_;refine tq 8 aU ?_;refine tq 9 aU ?_;refine tv 5 (fun κ hκ=>?_);go_simp;refine hκ.out _ _ ?_ (fun aU=>?_)
   ·exact aU
   clear hκ κ;refine tu ?_;refine tv 10 (fun κ hκ=>?_);go_simp;go_at_call 29;refine hcall.mono ?_;rintro ret w12 ⟨b12,s12,t12,rfl,o12,g12⟩;clear hcall Cz CA CB;have k12:=vQ.out _ g12;have qN:=Mu.out.below g12;obtain⟨cb,cs_,ct,⟨c0,c1,c2⟩,-⟩:=qN.cells Vy;obtain⟨Cs,GZ,JC⟩:=qN.sA uk;obtain⟨o0,o1,o2⟩:=o12.st;have oz:RO w12 (fun x=>x=g) b12 s12 t12 0 1:=o12.ro (fk (aj 1)) (fun x e=>by rw[e];exact Mu.out.lt);have hput:=qN.put Vy oz;have hcs:=bw.jc g uk w12 b12 s12 t12;have kx:=Iz.out.drew.trans (g12.mono (show Z0<=wr.drew.heap.size from Io.out));obtain⟨wN,vF⟩:=xeq (((w12.setCell ⟨g,uk*3,none⟩ b12).setCell ⟨g,uk*3+1,none⟩ s12).setCell ⟨g,uk*3+2,none⟩ t12);rw[vF]at hput hcs;have k13:(fun w'=>w'.cell? ⟨fb,fo+k*3,none⟩=some x/\w'.cell? ⟨fb,fo+k*3+1,none⟩=some y/\w'.cell? ⟨fb,fo+k*3+2,none⟩=some z) wN:=⟨hcs.cell hnf (k12.1),hcs.cell hnf (k12.2.1),hcs.cell hnf (k12.2.2)⟩;have EH:=ah (ai hput (kx.trans (hcs.below (ay Io.out g12.size) (fun x hx e=>by omega))));have CH:=ah vF;clear hput hcs oz qN o12 g12 vF kx;go_wp2_with fail
   refine hκ.out _ _ ?_ (fun aU=>?_)
   ·exact k12
   clear hκ κ;refine tu ?_;refine tq 11 aU ?_;refine tv 12 (fun κ hκ=>?_);go_simp;rw[CH.out];refine hκ.out _ _ ?_ (fun aU=>?_)
   ·exact k13
   clear hκ κ;refine tu ?_;refine td ?_ _;clear aU k12 k13 c0 c1 c2 Cs GZ JC o0 o1 o2 CH vQ Mu Io;go_wp2_with fail
   go_roundw
   case rel=>exact⟨k+1,by omega,by go_num,EH.out⟩
   case measure=>simp[intOf];omega
  ·obtain rfl:k=N:=by omega
   have hcq:=Cc (m:=k) (c:=k) (by omega) hz.zl;have rB:=ah cF;clear hz hb cF;go_wp2_with fail
   refine hcq.mono ?_;rintro e w1 ⟨rfl,g1⟩;have hR:=rB.out.trans (g1.mono rB.out.size);clear hcq;go_wp2_with fail
   go_ret;exact⟨rfl,hR⟩
theorem Qq{w:World}{D Df:Option Addr}{N m c cf K:Nat}{l:List Bq}(hN:N<=16384)(hm:m<=16384)(hl:BL w D l K)(hlm:l.length=m)(hv:NV N l)(hzf:ZL w Df m):
 Calls Tryz.prog 54 #[.agg #[.int .i64 (N:Int), .slice D m c], .slice Df m cf] w (fun e w'=>∃g,e= .returned (.slice (some ⟨g,0,none⟩) N N)/\jA w' g N/\Below w.heap.size w w'):=by
 have bC:=bI w (.cells #[.int .i64 (N:Int), .slice D m c] 25);have h0:=aS w (.cells #[.int .i64 (N:Int), .slice D m c] 25);obtain⟨W,hW⟩:=xeq (w.alloc (.cells #[.int .i64 (N:Int), .slice D m c] 25));obtain⟨N0,kz⟩:=xeq w.heap.size;rw[hW]at bC h0;rw[kz]at h0;have l0:N0<W.heap.size:=(au.1 h0).1;have x0:W.cell? ⟨N0,0,none⟩=some (.int .i64 (N:Int)):=aT W N0 0 _ _ (0,0) h0;have x1:W.cell? ⟨N0,1,none⟩=some (.slice D m c):=aT W N0 1 _ _ (0,0) h0;have hmk:=mY (N:Int) N rfl (by omega) W;have hz2:=jA.new W N;have hb2:=bI W (.cells (dF N fun _=>Qc.z) 45);obtain⟨GJ,hQ⟩:=xeq (dF N (fun _=>Qc.z));rw[hQ]at hmk hz2 hb2;obtain⟨w2,hw2⟩:=xeq (W.alloc (.cells GJ 45));obtain⟨Z0,iC⟩:=xeq W.heap.size;rw[hw2]at hmk hz2 hb2;have x2:=bn hb2 l0 x1;have x3:=bn hb2 l0 x0;obtain⟨g,eg⟩:=xeq Z0;rw[iC]at hmk hz2;rw[eg]at hmk hz2;have XW:Z0<=g:=by omega
 have XU:N0<Z0:=by rw[<-iC];exact l0
 have J5:w.heap.size<=Z0:=by rw[<-iC];exact bC.size
 have hZ2:Z0<=w2.heap.size:=by rw[<-iC];exact hb2.size
 have HW:=ah hW;have EN:=ah kz;have HL:=ah (ai hl (ai hzf hlm));have HV:=ah hv;have HX:=ah (ai x2 x3);have wT:=ah (bC.trans (hb2.mono bC.size));have HI:=ah hz2;have E0:=ah (show mkRat (0:Int) 1=(0:Rat)from by decide);have wF:=ah J5;clear hl hv hzf hlm hW kz bC h0 hw2 hQ iC hb2 hz2 eg x2 x3 J5;go_enter Tryz.func54,Tryz.ntmps54
 go_upto_region 1 with fail
 rw[HW.out,EN.out];go_wp2_with fail
 clear hmk x0 x1
 go_loopw [14] (fun t wr=>∃k:Nat,k<=N/\t= .int .i64 (k:Int)/\jA wr g N/\Below Z0 w2 wr) (fun t _=>N- (intOf t).toNat)
 case atStart=>exact⟨0,aF _,rfl,HI.out,aq _ _⟩
 case round=>
  clear HI;obtain⟨k,hk,rfl,hz,hb⟩:=hrel
  by_cases hlk:k<N
  ·have hfi:=fO (w:=wr) (na:=0) (by decide) (by decide) E0.out;have v0:(0:Int)<=(k:Int):=by omega
   have v1:(k:Int)<N:=by omega
   have HS:=ah (ai hz hb);clear hz hb;go_wp2_with fail
   refine hfi.mono ?_;rintro ret w3 ⟨b3,s3,t3,rfl,o3,g3⟩;clear hfi;have Jr:=HS.out.1.below g3;have hzs:Z0<=wr.heap.size:=by have:=HS.out.2.size;omega
   obtain⟨cb,cs_,ct,⟨c0,c1,c2⟩,-⟩:=Jr.cells hlk;obtain⟨Cs,GZ,JC⟩:=Jr.sA k;obtain⟨o0,o1,o2⟩:=o3.st;have hro:RO w3 (fun x=>x=g) b3 s3 t3 0 1:=o3.ro (fk (aj 1)) (fun x e=>by rw[e];exact HS.out.1.lt);have hput:=Jr.put hlk hro;have hcs:=bw.jc g k w3 b3 s3 t3;have HR:=ah (ai hput ((HS.out.2.trans (g3.mono hzs)).trans (hcs.below (ay hzs g3.size) (fun x hx e=>by omega))));clear o3 g3 Jr hro hput hcs;go_wp2_with fail
   go_roundw
   case rel=>exact⟨k+1,by omega,by go_num,HR.out⟩
   case measure=>simp[intOf];omega
  ·obtain rfl:N=k:=by omega
   have x1:=hb.cell (p:=⟨N0,1,none⟩) XU|>.trans HX.out.1;have SW:=ah (ai hz hb);clear hz hb;go_wp2_with fail
   clear x1
   go_loopw [25] (fun t wr=>∃k:Nat,k<=m/\t= .int .i64 (k:Int)/\jA wr g N/\Below Z0 w2 wr) (fun t _=>m- (intOf t).toNat)
   case atStart=>exact⟨0,aF _,rfl,SW.out⟩
   case round=>
    clear SW;obtain⟨k,hk,rfl,hz,hb⟩:=hrel;have cF:Below w.heap.size w wr:=wT.out.trans (hb.mono wF.out);have hzs:Z0<=wr.heap.size:=by have:=hb.size;omega
    by_cases hlk:k<m
    ·obtain⟨q,hq⟩:∃q,l[k]?=some q:=⟨l[k]'(by rw[HL.out.2.2];exact hlk),aB _⟩;obtain⟨vO,vP,-,-⟩:=HV.out q (aD hq);obtain⟨bb,bo,rfl,hbl,⟨e0,e1⟩,p1,p2,p3,y1,y2,y3,⟨e2,e3,e4⟩,⟨e5,e6,e7⟩,hr1,iW⟩:=(HL.out.1.below cF).nth hq;obtain⟨s0,s1,s2⟩:=hr1.st;obtain⟨s3,s4,s5⟩:=iW.st;obtain⟨qf,lE⟩:=xeq q.f;obtain⟨qt,lF⟩:=xeq q.t;rw[lE]at e0 vO;rw[lF]at e1 vP;obtain⟨fb,fo,rfl,hfl,x,y,z,q0,q1,q2,XY⟩:=HL.out.2.1.nth hlk;have hnf:¬fb=g:=by have:=wF.out;omega
     have v0:(0:Int)<=(k:Int):=by omega
     have v1:(k:Int)<m:=by omega
     have v2:(0:Int)<=(qf:Int):=by omega
     have v3:(qf:Int)<N:=by omega
     have v4:(0:Int)<=(qt:Int):=by omega
     have v5:(qt:Int)<N:=by omega
     have rF:=vO;have rG:=vP;have gm:=bI wr (.cells #[.int .i64 (qf:Int), .int .i64 (qt:Int),p1,p2,p3,y1,y2,y3] 47);have h5:=aS wr (.cells #[.int .i64 (qf:Int), .int .i64 (qt:Int),p1,p2,p3,y1,y2,y3] 47);obtain⟨wb,gh⟩:=xeq (wr.alloc (.cells #[.int .i64 (qf:Int), .int .i64 (qt:Int),p1,p2,p3,y1,y2,y3] 47));obtain⟨Ne,fG⟩:=xeq wr.heap.size;rw[gh]at gm h5;rw[fG]at h5;obtain⟨⟨z0,z1,-⟩,-⟩:=fQ h5;have hne:¬Ne=g:=fun e=>by have:=hz.lt;omega
     have JV:Ne<wb.heap.size:=(au.1 h5).1;have hNZe:Z0<=Ne:=by rw[<-fG];exact hzs
     replace hz:=hz.below gm;have Iz:=ah (hb.trans (gm.mono hzs));have IK:=cF.trans (gm.mono cF.size);have w0:=bn IK hfl q0;have w1_:=bn IK hfl q1;have w2_:=bn IK hfl q2;have hrb:=XY.keep IK;have pE:fb<wb.heap.size:=ak hfl IK.size;have HRQ:=ah XY;have lC:=ah gh;have ny:=ah fG;have hfZ:fb<Z0:=by have:=wF.out;omega
     clear hr1 iW hq lE lF gm h5 gh fG q0 q1 q2 XY cF hb IK vO vP hzs;have hdr:Below wb.heap.size wb wb.drew:=(aq _ _).drew;have hzd:=hz.below hdr;obtain⟨zb,zs,zt,⟨Cz,CA,CB⟩,xB⟩:=hzd.cells rF;have hcall:=kI xB.1 (hrb.keep (aq _ _).drew) (by decide) (show(0:Rat)+0=0 from by grind);have vQ:=ah (show∀w',Below wb.drew.heap.size wb.drew w'->w'.cell? ⟨Ne,0,none⟩=some (.int .i64 (qf:Int))/\w'.cell? ⟨Ne,1,none⟩=some (.int .i64 (qt:Int))/\w'.cell? ⟨fb,fo+k*3,none⟩=some x/\w'.cell? ⟨fb,fo+k*3+1,none⟩=some y/\w'.cell? ⟨fb,fo+k*3+2,none⟩=some z from fun w' hb=>⟨bn hb JV z0,bn hb JV z1,bn hb pE w0,bn hb pE w1_,bn hb pE w2_⟩);have Mu:=ah hzd;have Io:=ah (show Z0<=wb.drew.heap.size from by have h1:=hz.lt;exact aR (aP XW h1));clear hz hdr hzd xB;go_upto_region 10 with fail
     (try rw[lC.out]);(try rw[ny.out]);clear e0 e1 e2 e3 e4 e5 e6 e7 s0 s1 s2 s3 s4 s5;refine wp_region_held_drew (S:=(fun w'=>w'.cell? ⟨Ne,0,none⟩=some (.int .i64 (qf:Int))/\w'.cell? ⟨Ne,1,none⟩=some (.int .i64 (qt:Int))/\w'.cell? ⟨fb,fo+k*3,none⟩=some x/\w'.cell? ⟨fb,fo+k*3+1,none⟩=some y/\w'.cell? ⟨fb,fo+k*3+2,none⟩=some z)) (by kernel_rfl) (vQ.out _ (aq _ _)) (fun aU=>?_);refine tq 0 aU ?_;refine tq 1 aU ?_;refine tq 2 aU ?_;refine tq 3 aU ?_;refine tq 4 aU ?_;refine tq 5 aU ?_;refine tq 6 aU ?_;refine tq 8 aU ?_;refine tq 9 aU ?_;refine tq 10 aU ?_;refine tq 11 aU ?_;refine tv 7 (fun κ hκ=>?_);go_simp;refine hκ.out _ _ ?_ (fun aU=>?_)
     ·exact aU
     clear hκ κ;refine tu ?_;refine tv 12 (fun κ hκ=>?_);go_simp;go_at_call 29;refine hcall.mono ?_;rintro ret w12 ⟨b12,s12,t12,rfl,o12,g12⟩;clear hcall Cz CA CB;have k12:=vQ.out _ g12;have qN:=Mu.out.below g12;obtain⟨cb,cs_,ct,⟨c0,c1,c2⟩,-⟩:=qN.cells rF;obtain⟨Cs,GZ,JC⟩:=qN.sA qf;obtain⟨o0,o1,o2⟩:=o12.st;have oz:RO w12 (fun x=>x=g) b12 s12 t12 0 1:=o12.ro (fk (aj 1)) (fun x e=>by rw[e];exact Mu.out.lt);have hput:=qN.put rF oz;have hcs:=bw.jc g qf w12 b12 s12 t12;have kx:=Iz.out.drew.trans (g12.mono (show Z0<=wb.drew.heap.size from Io.out));obtain⟨w5,vF⟩:=xeq (((w12.setCell ⟨g,qf*3,none⟩ b12).setCell ⟨g,qf*3+1,none⟩ s12).setCell ⟨g,qf*3+2,none⟩ t12);rw[vF]at hput hcs;have k13:(fun w'=>w'.cell? ⟨Ne,0,none⟩=some (.int .i64 (qf:Int))/\w'.cell? ⟨Ne,1,none⟩=some (.int .i64 (qt:Int))/\w'.cell? ⟨fb,fo+k*3,none⟩=some x/\w'.cell? ⟨fb,fo+k*3+1,none⟩=some y/\w'.cell? ⟨fb,fo+k*3+2,none⟩=some z) w5:=⟨hcs.cell hne (k12.1),hcs.cell hne (k12.2.1),hcs.cell hnf (k12.2.2.1),hcs.cell hnf (k12.2.2.2.1),hcs.cell hnf (k12.2.2.2.2)⟩;have EH:=ah (ai hput (kx.trans (hcs.below (ay Io.out g12.size) (fun x hx e=>by omega))));have CH:=ah vF;clear hput hcs oz qN o12 g12 vF kx;go_wp2_with fail
     refine hκ.out _ _ ?_ (fun aU=>?_)
     ·exact k12
     clear hκ κ;refine tu ?_;refine tq 13 aU ?_;refine tv 14 (fun κ hκ=>?_);go_simp;rw[CH.out];refine hκ.out _ _ ?_ (fun aU=>?_)
     ·exact k13
     clear hκ κ;refine tu ?_;refine td ?_ _;have k5:=k13;clear aU k12 k13 c0 c1 c2 Cs GZ JC o0 o1 o2 CH vQ Mu Io;have hz:=EH.out.1;have gj:=EH.out.2;replace z0:=k5.1;replace z1:=k5.2.1;replace w0:=k5.2.2.1;replace w1_:=k5.2.2.2.1;replace w2_:=k5.2.2.2.2;have ao0:bG w5.drew x y z 0 1:=(HRQ.out.keep (wT.out.trans (gj.mono wF.out))).keep (aq _ _).drew;have afg:Ne<w5.drew.heap.size:=aG w5 _ z0;have WV:fb<w5.drew.heap.size:=aG w5 _ w0;clear Iz;have Iz:=ah gj;clear EH gj k5;have hdr:Below w5.heap.size w5 w5.drew:=(aq _ _).drew;have hzd:=hz.below hdr;obtain⟨zb,zs,zt,⟨Cz,CA,CB⟩,xB⟩:=hzd.cells rG;have hcall:=jm xB.1 ao0 (by decide) (show(0:Rat) -0=0 from by grind);have vQ:=ah (show∀w',Below w5.drew.heap.size w5.drew w'->w'.cell? ⟨Ne,0,none⟩=some (.int .i64 (qf:Int))/\w'.cell? ⟨Ne,1,none⟩=some (.int .i64 (qt:Int))/\w'.cell? ⟨fb,fo+k*3,none⟩=some x/\w'.cell? ⟨fb,fo+k*3+1,none⟩=some y/\w'.cell? ⟨fb,fo+k*3+2,none⟩=some z from fun w' hb=>⟨bn hb afg z0,bn hb afg z1,bn hb WV w0,bn hb WV w1_,bn hb WV w2_⟩);have Mu:=ah hzd;have Io:=ah (show Z0<=w5.drew.heap.size from by have h1:=hz.lt;exact aR (aP XW h1));clear hz hdr hzd xB;go_upto_region 11 with fail
     refine wp_region_held_drew (S:=(fun w'=>w'.cell? ⟨Ne,0,none⟩=some (.int .i64 (qf:Int))/\w'.cell? ⟨Ne,1,none⟩=some (.int .i64 (qt:Int))/\w'.cell? ⟨fb,fo+k*3,none⟩=some x/\w'.cell? ⟨fb,fo+k*3+1,none⟩=some y/\w'.cell? ⟨fb,fo+k*3+2,none⟩=some z)) (by kernel_rfl) (vQ.out _ (aq _ _)) (fun aU=>?_);refine tq 0 aU ?_;refine tq 1 aU ?_;refine tq 2 aU ?_;refine tq 3 aU ?_;refine tq 4 aU ?_;refine tq 5 aU ?_;refine tq 6 aU ?_;refine tq 8 aU ?_;refine tq 9 aU ?_;refine tq 10 aU ?_;refine tq 11 aU ?_;refine tv 7 (fun κ hκ=>?_);go_simp;refine hκ.out _ _ ?_ (fun aU=>?_)
     ·exact aU
     clear hκ κ;refine tu ?_;refine tv 12 (fun κ hκ=>?_);go_simp;go_at_call 30;refine hcall.mono ?_;rintro ret w12 ⟨b12,s12,t12,rfl,o12,g12⟩;clear hcall Cz CA CB;have k12:=vQ.out _ g12;have qN:=Mu.out.below g12;obtain⟨cb,cs_,ct,⟨c0,c1,c2⟩,-⟩:=qN.cells rG;obtain⟨Cs,GZ,JC⟩:=qN.sA qt;obtain⟨o0,o1,o2⟩:=o12.st;have oz:RO w12 (fun x=>x=g) b12 s12 t12 0 1:=o12.ro (fk (aj 1)) (fun x e=>by rw[e];exact Mu.out.lt);have hput:=qN.put rG oz;have hcs:=bw.jc g qt w12 b12 s12 t12;have kx:=Iz.out.drew.trans (g12.mono (show Z0<=w5.drew.heap.size from Io.out));obtain⟨wN,vF⟩:=xeq (((w12.setCell ⟨g,qt*3,none⟩ b12).setCell ⟨g,qt*3+1,none⟩ s12).setCell ⟨g,qt*3+2,none⟩ t12);rw[vF]at hput hcs;have k13:(fun w'=>w'.cell? ⟨Ne,0,none⟩=some (.int .i64 (qf:Int))/\w'.cell? ⟨Ne,1,none⟩=some (.int .i64 (qt:Int))/\w'.cell? ⟨fb,fo+k*3,none⟩=some x/\w'.cell? ⟨fb,fo+k*3+1,none⟩=some y/\w'.cell? ⟨fb,fo+k*3+2,none⟩=some z) wN:=⟨hcs.cell hne (k12.1),hcs.cell hne (k12.2.1),hcs.cell hnf (k12.2.2.1),hcs.cell hnf (k12.2.2.2.1),hcs.cell hnf (k12.2.2.2.2)⟩;have EH:=ah (ai hput (kx.trans (hcs.below (ay Io.out g12.size) (fun x hx e=>by omega))));have CH:=ah vF;clear hput hcs oz qN o12 g12 vF kx;go_wp2_with fail
     refine hκ.out _ _ ?_ (fun aU=>?_)
     ·exact k12
     clear hκ κ;refine tu ?_;refine tq 13 aU ?_;refine tv 14 (fun κ hκ=>?_);go_simp;rw[CH.out];refine hκ.out _ _ ?_ (fun aU=>?_)
     ·exact k13
     clear hκ κ;refine tu ?_;refine td ?_ _;clear aU k12 k13 c0 c1 c2 Cs GZ JC o0 o1 o2 CH vQ Mu Io;go_wp2_with fail
     go_roundw
     case rel=>exact⟨k+1,by omega,by go_num,EH.out⟩
     case measure=>simp[intOf];omega
    ·obtain rfl:m=k:=by omega
     clear hb hzs;go_wp2_with fail
     go_ret;exact⟨g,rfl,hz,cF⟩
end Go.Proofs.YtkmpoleajjgfaaaGreat
namespace Go.Proofs.YtkmpoleajjgfaaaGreat
open Go.RowKit Gm Gd Go.Sort Go.Shelf
structure CW(N n:Nat)(s x:Nat->Nat):Prop where
 lt:∀i,i<n->x i<N
 ns:∀i,i<n->s (x i)≠x i
 inj:∀i j,i<n->j<n->x i=x j->i=j
 all:∀b,b<N->s b≠b->∃i,i<n/\x i=b
open Classical in
noncomputable def oix (n:Nat) (x:Nat->Nat) (j:Nat):Option Nat:=if h:∃i,i<n/\x i=j then some h.choose else none
section
variable {N n:Nat}{s x:Nat->Nat}{l:List Br}
theorem CW.ix(h:CW N n s x):Ix n x (oix n x) where
 yes:=fun i hi=>by
  have he:∃k,k<n/\x k=x i:=⟨i,hi,rfl⟩;unfold oix;rw[dif_pos he];exact congrArg some (h.inj _ _ he.choose_spec.1 hi he.choose_spec.2)
 no:=fun j i hj=>by
  unfold oix at hj;split at hj
  ·rename_i he
   injection hj with hj
   rw[<-hj];exact he.choose_spec
  ·cases hj
def om(n:Nat)(x:Nat->Nat)(y:Nat->Rat)(b:Nat):Rat:=S n (fun j=>dl b (x j)*y j)
theorem CW.xZ(h:CW N n s x)(y:Nat->Rat){b:Nat}(hb:s b=b):om n x y b=0:=by
 unfold om
 rw[cT (g:=fun _=>0) (fun j hj=>by
  rw[je (fun e=>h.ns j hj (by rw[<-e];exact hb))];grind),pN]
theorem CW.Mv(h:CW N n s x)(y:Nat->Rat){i:Nat}(hi:i<n):om n x y (x i)=y i:=by
 unfold om
 rw[cT (g:=fun j=>dl j i*y j) (fun j hj=>by
  by_cases e:j=i
  ·subst e;rw[gQ,gQ]
  ·rw[je e,je (fun e2=>e (h.inj i j hi hj e2).symm)]),sH _ hi]
theorem CW.GL(h:CW N n s x)(y G:Nat->Rat):S N (fun b=>G b*om n x y b)=S n (fun j=>G (x j)*y j):=by
 unfold om
 rw[cT (g:=fun b=>S n (fun j=>y j* (dl b (x j)*G b))) (fun b _=>by
  rw[<-xV];exact cT fun j _=>by grind),L9]
 refine cT fun j hj=>?_;rw[xV,sH _ (h.lt j hj)]
 grind
theorem CW.reg(h:CW N n s x)(hv:Vi N l)(hs:J2 N l s)(y:Nat->Rat)(hy:∀i,i<n->S n (fun j=>vM l (x i) (x j)*y j)=0):∀j,j<n->y j=0:=fun j hj=>by
 have h1:=Gd.inj hv hs (om n x y) (fun i _ hi=>h.xZ y hi) (fun i hi hne=>by
  obtain⟨k,hk,rfl⟩:=h.all i hi hne;rw[h.GL,hy k hk]) (x j) (h.lt j hj)
 rw[h.Mv y hj]at h1;exact h1
theorem CW.pot(h:CW N n s x)(y:Nat->Rat){i0:Nat}(hi0:i0<n)(hy:∀i,i<n->S n (fun j=>vM l (x i) (x j)*y j)=dl i i0):∀i,i<N->s i≠i->S N (fun b=>vM l i b*om n x y b)=dl i (x i0):=fun i hi hne=>by
 obtain⟨k,hk,rfl⟩:=h.all i hi hne;rw[h.GL,hy k hk]
 by_cases e:k=i0
 ·subst e;rw[gQ,gQ]
 ·rw[je e,je (fun e2=>e (h.inj k i0 hk hi0 e2))]
end
theorem Mw{N m:Nat}{l:List Bq}(hl:l.length=m)(hu:∀i,i<N->uf (qQ l) m i<=i/\uf (qQ l) m (uf (qQ l) m i)=uf (qQ l) m i):J2 N (pO l) (uf (qQ l) m) where
 lt:=fun i hi=>aP (hu i hi).1 hi
 idem:=fun i hi=>(hu i hi).2
 same:=fun b hb=>by
  obtain⟨q,hq,rfl⟩:=List.mem_map.1 hb;obtain⟨k,hk⟩:=aJ hq;have:=sO (qQ l) m k (by rw[<-hl];exact(aC.1 hk).1);rw[rE hk]at this;exact this
 conn:=fun φ hφ i hi=>(Aw m (fun k hk _=>by
  obtain⟨q,hq⟩:∃q,l[k]?=some q:=⟨l[k]'(by omega),aB _⟩;rw[rE hq];exact hφ ⟨q.f,q.t,q.s⟩ (List.mem_map.2 ⟨q,aD hq,rfl⟩)) i).symm
theorem zF{N:Nat}{l:List Bq}(hv:NV N l):Vi N (pO l):=fun b hb=>by
 obtain⟨q,hq,rfl⟩:=List.mem_map.1 hb;obtain⟨h1,h2,_,h3⟩:=hv q hq;exact⟨h1,h2,h3⟩
def fR(s:Nat->Nat)(k:Nat):List Nat:=(List.range k).filter (fun b=>decide (b≠s b))
theorem kN(s:Nat->Nat)(k:Nat):fR s (k+1)=if k≠s k then fR s k++ [k]else fR s k:=by
 unfold fR;rw[List.range_succ,List.filter_append]
 by_cases h:k≠s k
 ·rw[if_pos h];simp[h]
 ·rw[if_neg h];simp at h;simp[<-h]
def vk(s:Nat->Nat)(N i:Nat):Nat:=((fR s N)[i]?).getD 0
theorem zH(s:Nat->Nat)(N:Nat):CW N (fR s N).length s (vk s N):=by
 have hg:∀i,i< (fR s N).length->(fR s N)[i]?=some (vk s N i):=fun i hi=>by
  unfold vk;rw[aB hi];rfl
 have hm:∀i,i< (fR s N).length->vk s N i∈fR s N:=fun i hi=>aD (hg i hi);have hd:(fR s N).Nodup:=List.nodup_range.filter _;refine⟨fun i hi=>?_,fun i hi=>?_,fun i j hi hj e=>?_,fun b hb hne=>?_⟩
 ·have:=hm i hi;unfold fR at this;rw[List.mem_filter,List.mem_range]at this;exact this.1
 ·have:=hm i hi;unfold fR at this;rw[List.mem_filter]at this;have h2:=this.2;simp at h2;exact fun e=>h2 e.symm
 ·have h1:=hg i hi;have h2:=hg j hj;have h8:=List.pairwise_iff_getElem.1 hd;obtain⟨_,h5⟩:=aC.1 h1;obtain⟨_,h6⟩:=aC.1 h2;rcases Nat.lt_trichotomy i j with h9|h9|h9
  ·exact absurd (by rw[h5,h6,e]) (h8 i j hi hj h9)
  ·exact h9
  ·exact absurd (by rw[h5,h6,e]) (h8 j i hj hi h9)
 ·have XH:b∈fR s N:=by unfold fR;rw[List.mem_filter,List.mem_range];exact⟨hb,by simp;exact fun e=>hne e.symm⟩
  obtain⟨i,hi⟩:=aJ XH;have hl:=(aC.1 hi).1;refine⟨i,hl,?_⟩;have:=hg i hl;rw[hi]at this;injection this with this
  exact this.symm
theorem GN(s:Nat->Nat)(N:Nat)(h0:s 0=0):(fR s N).length<=N-1:=by
 induction N with
 |zero=>exact aj _
 |succ N ih=>
  rw[kN];split
  ·rename_i h
   rw[List.length_append]
   cases N with
   |zero=>exact absurd h0.symm h
   |succ N=>simp;omega
  ·omega
theorem sk5{n:Nat}(hn:n<=5):sk 37 n<=289267:=ay (BR 37 hn) (by decide)
theorem abn{n:Nat}(hn:n<=5):n* (sk 37 n+1)+sk 37 n<=1735607:=by
 have h1:=sk5 hn;have h2:n* (sk 37 n+1)<=5*289268:=Nat.mul_le_mul hn (by omega);omega
theorem GP{K B B':Nat}(h:B<=B'):∀n,bs K B n<=bs K B' n
 |0=>h
 |n+1=>by
  have ih:=GP (K:=K) h n;have h2:n* (K+bs K B n+1)<=n* (K+bs K B' n+1):=aO _ (by omega)
  show bs K B n+n* (K+bs K B n+1)+K<=bs K B' n+n* (K+bs K B' n+1)+K
  omega
theorem bs5{n:Nat}(hn:n<=5):bs 1735607 (bs 1735607 1 n) n<=68259422311:=
 ay (ay (GP (sc 1735607 1 hn) n) (sc 1735607 _ hn)) (by decide)
end Go.Proofs.YtkmpoleajjgfaaaGreat
namespace Go.Proofs.YtkmpoleajjgfaaaGreat
open Go.RowKit Gm Go.Sort Go.Shelf
theorem lz{n i:Nat}:((List.replicate n (0:Rat))[i]?).getD 0=0:=by
 rw[List.getElem?_replicate];split<;>rfl
set_option maxRecDepth 100000 in
set_option maxHeartbeats 8000000 in
theorem IQ{w:World}{D Dx Dr:Option Addr}{N n m c cx cr:Nat}{l:List Bq}{s x:Nat->Nat}(hN:N<=6)(hn:n<=5)(hm:m<=9)(hl:BL w D l 1)(hlm:l.length=m)(hv:NV N l)(ho:CW N n s x)(hs:Gd.J2 N (pO l) s)(hx:IL w Dx n x)(hz:ZL w Dr n):
 Calls Tryz.prog 55 #[.agg #[.int .i64 (N:Int), .slice D m c], .slice Dx n cx, .slice Dr n cr] w (fun e w'=>∃g f,e= .returned (.tuple #[.slice (some ⟨g,0,none⟩) n n, .int .i64 0])/\dL w' g n f/\(∀i,i<n->(f i).ok w' (fun x=>x=g) 68259422311/\(f i).r=0)/\Below w.heap.size w w'):=by
 obtain⟨W,hW,bC,i0⟩:∃W,w.alloc (.cells #[.int .i64 (N:Int), .slice D m c] 25)=W/\Below w.heap.size w W/\W.cell? ⟨w.heap.size,0,none⟩=some (.int .i64 (N:Int)):=⟨_,rfl,bI _ _,aT _ _ 0 _ _ (0,0) (aS w _)⟩;have My:=su (c:=c) (M:=37) (by omega) hm (hl.below bC) hlm hv (aj 1) (by decide) (by decide);have HX:=ah (ai hx hz);have HV:=ah (ai hv (ai ho hs));have HB:=ah bC;have HW:=ah hW;clear hl hlm hv ho hs hx hz bC hW i0;go_enter Tryz.func55,Tryz.ntmps55
 go_wp2_with fail
 rw[HW.out];refine My.mono ?_;rintro e w1 ⟨g1,A1,rfl,NF,Ri,Yu⟩;clear My;have hb1:=HB.out.trans (Yu.mono HB.out.size);have b2:=bI w1 (.cells #[.int .i64 (N:Int), .int .i64 (N:Int), .slice (some ⟨g1,0,none⟩) N N] 34);have i2:=cK.jJ w1 34 (.int .i64 (N:Int)) (.int .i64 (N:Int)) (.slice (some ⟨g1,0,none⟩) N N);obtain⟨w2,hw2⟩:=xeq (w1.alloc (.cells #[.int .i64 (N:Int), .int .i64 (N:Int), .slice (some ⟨g1,0,none⟩) N N] 34));obtain⟨Nb,Sr⟩:=xeq w1.heap.size;rw[hw2]at b2 i2;rw[Sr]at i2;have hb2:=hb1.trans (b2.mono hb1.size);have hsel:=BH (w:=w2) (cD:=N) (cx:=cx) (cy:=cx) (ix:=oix n x) (by omega) (by omega) (NF.below b2) (fun i hi=>(Ri i hi).1) (by decide) (HX.out.1.below hb2) HV.out.2.1.lt HV.out.2.1.ix;have hNbw:w.heap.size<=Nb:=by rw[<-Sr];exact hb1.size
 have l2:=i2.lt;have x0:=i2.c0;have x1:=i2.c1;have x2:=i2.c2;have HW2:=ah (ai hw2 Sr);have HA1:=ah Ri;have wT:=ah hb2;clear NF Yu hb1 b2 hw2 Sr Ri hb2;go_upto_region 4 with fail
 rw[HW2.out.1];(try rw[HW2.out.2]);go_wp2_with fail
 refine hsel.mono ?_;rintro e w3 ⟨D2,c2,A2,rfl,hc2,RU,Kl,NG⟩;clear hsel x0 x1 x2;have i3:=i2.keep NG;obtain⟨y0,y1,y2,y3,y4,y5⟩:=id i3;have hcs:=bw.jc Nb 0 w3 (.int .i64 (n:Int)) (.int .i64 (n:Int)) (.slice D2 n c2);have fq:=wT.out.trans (NG.mono wT.out.size);have i4:=i3.put (.int .i64 (n:Int)) (.int .i64 (n:Int)) (.slice D2 n c2);obtain⟨w4,iG⟩:=xeq (((w3.setCell ⟨Nb,0,none⟩ (.int .i64 (n:Int))).setCell ⟨Nb,1,none⟩ (.int .i64 (n:Int))).setCell ⟨Nb,2,none⟩ (.slice D2 n c2));have lX:bw (·=Nb) w3 w4:=by rw[<-iG];exact hcs
 rw[iG]at i4;have CJ:=(RU.bJ lX (fun k hk=>by rw[hk];exact l2)).ml;have hb4:=fq.trans (lX.below fq.size (fun q hq e=>by omega));have Vz:∀i,i<n->∀j,j<n->gv (A2 i) j=Gd.vM (pO l) (x i) (x j):=fun i hi j hj=>((Kl i hi).2 j hj).trans ((HA1.out _ (HV.out.2.1.lt i hi)).2 (x j))
 have Mz:=B0 (c:=c2) (M:=37) (M2:=1735607) (by omega) CJ (fun i hi=>(Kl i hi).1) (by decide) (aj 37) (ay (sk5 hn) (by decide)) (abn hn) (by decide) (fun y hy=>HV.out.2.1.reg (zF HV.out.1) HV.out.2.2 y (fun i hi=>by
  rw[<-hy i hi];exact Gd.cT fun j hj=>by rw[Vz i hi j hj]))
 have Yt:=ah Vz;have HB4:=ah hb4;have pU:=ah iG;have WW:=ah i4;clear RU NG i3 i2 hcs lX fq CJ hb4 iG i4 Kl Vz hc2;go_upto_region 5 with fail
 rw[pU.out];clear y0 y1 y2 y3 y4 y5;have x0:=WW.out.c0;have x1:=WW.out.c1;have x2:=WW.out.c2;go_wp2_with fail
 refine Mz.mono ?_;rintro e w5 ⟨v,rs,cs,lo,up,rfl,vZ,hup,Km⟩;clear Mz x0 x1 x2;have gj:=HB4.out.trans (Km.mono HB4.out.size);obtain⟨gR,gC,DL,DU,cL,cU,ev,-⟩:=id vZ.ex;have b6:=bI w5 (.cells #[.slice (some ⟨gR,0,none⟩) n n, .slice (some ⟨gC,0,none⟩) n n, .int .i64 (n:Int), .int .i64 (n:Int), .slice DL n cL, .int .i64 (n:Int), .int .i64 (n:Int), .slice DU n cU] 96);have i6:=Fp.new w5 n gR gC cL cU DL DU;obtain⟨w6,iB⟩:=xeq (w5.alloc (.cells #[.slice (some ⟨gR,0,none⟩) n n, .slice (some ⟨gC,0,none⟩) n n, .int .i64 (n:Int), .int .i64 (n:Int), .slice DL n cL, .int .i64 (n:Int), .int .i64 (n:Int), .slice DU n cU] 96));obtain⟨N6,WX⟩:=xeq w5.heap.size;rw[iB]at b6 i6;rw[WX]at i6;have eC:=gj.trans (b6.mono gj.size);have EJ:=GI (D:=Dr) (c:=cr) (Kb:=1) (B:=1) (vZ.below b6) hup (by omega) (by decide) (by decide) (fun _=>False) (fun _ h=>h.elim) (HX.out.2.below eC).m (by simp) (aj 1) (aj 1) (ay (bs5 hn) (by decide));obtain⟨c0,c1,c2',c3,c4,c5,c6,c7⟩:=i6.c;rw[ev]at EJ;have HB6:=ah eC;have Fb:=ah (ai iB WX);have Si:=ah hup;subst ev;clear vZ hup Km gj b6 i6 iB WX eC;go_upto_region 8 with fail
 rw[Fb.out.1];(try rw[Fb.out.2]);go_wp2_with fail
 refine EJ.mono ?_;rintro e w7 ⟨g,f,rfl,hge,hrow,hok,uh,gb7⟩;have fW:=HB6.out.trans (gb7.mono HB6.out.size)
 have hzero:=HV.out.2.1.reg (zF HV.out.1) HV.out.2.2 (fun j=>(f j).r) (fun i hi=>by
  have h1:=uh i hi;rw[lz]at h1;rw[<-h1];exact Gd.cT fun j hj=>by rw[Yt.out i hi j hj])
 have HR:=ah (show dL w7 g n f/\(∀i,i<n->(f i).ok w7 (fun x=>x=g) 68259422311/\(f i).r=0)/\Below w.heap.size w w7 from⟨hrow,fun i hi=>⟨((hok i hi).wide (fun _ h=> .inl (.inl h))).mono (bs5 hn),hzero i hi⟩,fW⟩);clear EJ hge hrow hok uh gb7 fW hzero c0 c1 c2' c3 c4 c5 c6 c7;go_wp2_with fail
 go_ret2;exact⟨g,f,rfl,HR.out⟩
end Go.Proofs.YtkmpoleajjgfaaaGreat
