/- Parts of the proof, in order. -/
import Derived.Test.YtkmpoleajjgfaaaGreatQ7
import Derived.Test.YtkmpoleajjgfaaaGreatQ5
import Derived.Deep.LoopGhost
namespace Go.Proofs.YtkmpoleajjgfaaaGreat
open Go.RowKit Gm
set_option maxRecDepth 100000
set_option maxHeartbeats 16000000
/- Contracts of package natural: shifts. -/
def KO(w:World)(k n:Nat)(e:Ending)(w':World):Prop:=
 ∃zs,e= .returned (.slice (some ⟨w.heap.size,0,none⟩) k k)/\zs.length=k/\Lb zs/\val zs=n/\Row w' w.heap.size zs/\Below w.heap.size w w'
theorem TU(q x s:Nat)(hq:q<2 ^ s)(hx:x<4294967296)(hs:s<32):bits .or .u64 (q:Int) (IntKind.u64.wrap ((x:Int)*2 ^ s))=((q+x*2 ^ s:Nat):Int):=by
 have h1:2 ^ s<=2147483648:=Nat.pow_le_pow_right (by decide) (show s<=31 by omega);have h2:x*2 ^ s<=4294967295*2147483648:=Nat.mul_le_mul (by omega) h1;have e:(x:Int)*2 ^ s=((x*2 ^ s:Nat):Int):=by simp
 have e2:IntKind.u64.wrap ((x:Int)*2 ^ s)=((x*2 ^ s:Nat):Int):=by rw[e,IntKind.wrap_u64];omega
 rw[e2,u64_or_nat _ _ (by omega) (by omega),Nat.or_comm];have h3:=Nat.shiftLeft_add_eq_or_of_lt hq x;rw[Nat.shiftLeft_eq]at h3;rw[<-h3,Nat.add_comm]
theorem Hx(A:Option Addr)(us:List Nat)(c s:Nat)(w:World)(ha:bQ w A c us)(hs:us.length<70368744177664)(h32:s<32):
 Calls Tryz.prog 150 #[.slice A us.length c, .int .i64 (s:Int)] w (KO w (us.length+1) (val us*2 ^ s)):=by
 have hmk:=jg (↑us.length+1) (us.length+1) (by omega) (by omega);obtain⟨p,hp⟩:=xeq (2 ^ s);have hp1:p<=2147483648:=by rw[<-hp];exact Nat.pow_le_pow_right (by decide) (show s<=31 by omega)
 have V8:0<p:=by rw[<-hp];exact Nat.pow_pos (by decide)
 have HP:=ah hp;rw[hp];clear hp;go_enter Tryz.func150,Tryz.ntmps150
 go_wp2_with fail
 go_loopw [6,15] (fun t i wr=>∃(k q:Nat) (zs:List Nat),k<=us.length/\i= .int .i64 k/\t= .int .u64 q/\q<p/\zs.length=us.length+1/\Lb zs/\Row wr w.heap.size zs/\Below w.heap.size w wr/\(∀j,k<=j->zs[j]?.getD 0=0)/\val zs+Ba ^ k*q=val (us.take k)*p) (fun _ i _=>us.length- (intOf i).toNat)
 case atStart=>exact⟨0,0,zeros (us.length+1),aF _,rfl,rfl,by omega,cS _,gB _,Row.new _ _,(aq _ _).alloc (aj _) _,fun j _=>gK _ _,by simp[fV,val]⟩
 case round=>
  obtain⟨k,q,zs,hk,rfl,rfl,hq,hl,hz,hrow,bP,h0,hv⟩:=hrel;have HV:=ah hv;have H0:=ah h0;have HL:=ah hl;clear hv h0 hl hmk
  by_cases hlt:k<us.length
  ·obtain⟨b1,o1,rfl,hb1,hc1⟩:=ha.at_ (by omega);have hx:=(bP.cell (p:=⟨b1,o1+k,none⟩) hb1).trans (hc1 k hlt);have bx:us[k]?.getD 0<4294967296:=ha.lb.get k;obtain⟨x,ex⟩:=xeq (us[k]?.getD 0);rw[ex]at hx bx;have EX:=ah ex;have hs1:=hrow.cell (i:=k) (by rw[HL.out];omega);have oN:=hrow.frozen k;rw[H0.out k (aj _)]at hs1;clear ex hc1;have iX:=TU q x s (by rw[HP.out];exact hq) bx h32;rw[HP.out]at iX;have hstep:=KG (xs:=us) (zs:=zs) (i:=k) (c:=q) (s:=s) (by rw[HL.out];omega) H0.out (by rw[HP.out];exact HV.out);have hcar:=Hu (c:=q) (x:=x) (p:=p) hq bx;rw[EX.out,HP.out]at hstep;obtain⟨V,eV⟩:=xeq (q+x*p);rw[eV]at iX hstep hcar;have HST:=ah hstep;have hr:=hrow.put k (V % Ba) (z:=(V:Int) % 4294967296) (by simp only[bU];omega);clear eV hstep;go_wp2
   go_roundw
   case rel=>exact⟨k+1,V/Ba,zs.set k (V % Ba),by omega,by go_num,by simp only[bU];go_num,hcar,by rw[List.length_set];exact HL.out,hz.set _ _ (Nat.mod_lt _ cR),hr,bP.setCell (aj _) _,dN H0.out,HST.out⟩
   case measure=>simp[intOf];omega
  ·obtain rfl:k=us.length:=by omega
   have hs1:=hrow.cell (i:=us.length) (by rw[HL.out];omega);have oN:=hrow.frozen us.length;rw[H0.out us.length (aj _)]at hs1;have hr:=hrow.put us.length q (z:=(q:Int)) rfl
   have hval:val (zs.set us.length q)=val us*p:=by
    have e1:=fD (zs:=zs) (k:=us.length) q (by rw[HL.out];omega);rw[H0.out us.length (aj _)]at e1;have:=HV.out;rw[aI (aj _)]at this;omega
   have hlen:(zs.set us.length q).length=us.length+1:=by rw[List.length_set];exact HL.out
   have hzl:=hz.set us.length q (by have:=bU;omega);have hb2:=bP.setCell (p:=⟨w.heap.size,us.length,none⟩) (aj _) (.int .u32 (q:Int));have iR:=ah hval;have sx:=ah hlen;clear hval hlen;go_wp2
   go_ret;exact⟨_,rfl,sx.out,hzl,iR.out,hr,hb2⟩
theorem bQ.drop{w:World}{b o c:Nat}{xs:List Nat}(h:bQ w (some ⟨b,o,none⟩) c xs)(d:Nat)(hd:d<xs.length):bQ w (some ⟨b,o+d,none⟩) (c-d) (xs.drop d):=by
 obtain⟨b',o',e,hb,hc⟩:=h.at_ (by omega);injection e with e
 injection e with e1 e2
 subst e1 e2;refine⟨h.lb.drop d,by have:=h.cap;simp;omega,by have:=h.max;omega,fun _=>⟨b,o+d,rfl,hb,fun k hk=>?_⟩⟩;have hk':k<xs.length-d:=by simpa using hk
 have:=hc (d+k) (by omega);rw[List.getElem?_drop,Nat.add_assoc];exact this
theorem xw(n:Nat):2 ^ n=Ba ^ (n/32)*2 ^ (n % 32):=by
 have h:Ba ^ (n/32)=2 ^ (32* (n/32)):=by rw[Nat.pow_mul];rfl
 rw[h,<-Nat.pow_add]
 congr 1
 omega
theorem FN{us:List Nat}{n d s:Nat}(hl:Lb us)(hd:n/32=d)(hs:n % 32=s)(hle:d<=us.length):val us/2 ^ n=val (us.drop d)/2 ^ s:=by
 rw[xw n,hd,hs,<-Nat.div_div_eq_div_mul,yC us hl d hle]
theorem AB{us:List Nat}{n:Nat}(hl:Lb us)(hle:us.length<=n/32):val us/2 ^ n=0:=by
 rw[xw n,<-Nat.div_div_eq_div_mul];have h1:=fK hl;have h2:Ba ^ us.length<=Ba ^ (n/32):=Nat.pow_le_pow_right cR hle;have h3:val us/Ba ^ (n/32)=0:=Nat.div_eq_of_lt (by omega);rw[h3,Nat.zero_div]
theorem KP(V s p:Nat)(h:2 ^ s=p):(V:Int)/2 ^ s=((V/p:Nat):Int):=by
 subst h;simp
theorem sB(A:Option Addr)(xs:List Nat)(c n:Nat)(w:World)(ha:bQ w A c xs)(hn:n<=9223372036854775807)(hle:(limbs (val xs)).length<=n/32):
 Calls Tryz.prog 152 #[.slice A xs.length c, .int .i64 (n:Int)] w (kF w (val xs/2 ^ n)):=by
 have h0:val xs/2 ^ n=0:=by
  have:=AB (ig (val xs)) hle;rw[aV]at this;exact this
 rw[h0];clear h0;have hle':(((limbs (val xs)).length:Nat):Int)<=(n:Int)/32:=by omega
 go_enter Tryz.func152,Tryz.ntmps152
 go_wp2_with fail
 refine(eF _ _ _ _ ha).mono ?_;rintro e w' ⟨rfl,rfl⟩;generalize (limbs (val xs)).length=m at*;go_wp2_with fail
 go_ret2;exact⟨none,0,by rw[bM];rfl,by rw[bM];exact Own.nil _ _ _,aq _ _⟩
theorem ud(A:Option Addr)(xs:List Nat)(c n:Nat)(w:World)(ha:bQ w A c xs)(hs:xs.length<=70368744177664)(hn:n<=9223372036854775807)(hlt:n/32< (limbs (val xs)).length):
 Calls Tryz.prog 152 #[.slice A xs.length c, .int .i64 (n:Int)] w (kF w (val xs/2 ^ n)):=by
 have la:=bh ha.lb;have ha2:=ha.cut;have EA:=aV (val xs);obtain⟨b1,o1,rfl,hb1,_⟩:=ha2.at_ (by omega);obtain⟨us,NQ⟩:=xeq (limbs (val xs));obtain⟨d,hd⟩:=xeq (n/32);obtain⟨s,sy⟩:=xeq (n % 32);rw[NQ]at ha2 la EA hlt;rw[hd]at hlt;have hcap:=ha2.cap;have hmax:=ha2.max;have e1:(n:Int)/32=(d:Int):=by omega
 have e2:(n:Int) % 32=(s:Int):=by omega
 have h32:s<32:=by omega
 have hv:=FN ha2.lb hd sy (aR hlt);rw[EA]at hv;rw[hv];have hvs:=ha2.drop d hlt;have hvl:(us.drop d).length=us.length-d:=by simp
 obtain⟨vs,TV⟩:=xeq (us.drop d);obtain⟨m,em⟩:=xeq (us.length-d);rw[TV]at hvs hvl⊢;rw[em]at hvl;have hm1:m<=us.length:=by omega
 have hm0:0<m:=by omega
 have HL:=ah hvl;obtain⟨b2,o2,e3,hb2,hc2⟩:=hvs.at_ (by rw[hvl];exact hm0);injection e3 with e3
 injection e3 with e4 e5
 subst e4 e5;have hne:¬c=d:=by omega
 have hmk:=jg (↑m) m rfl (by omega);obtain⟨p,hp⟩:=xeq (2 ^ s);have V8:0<p:=by rw[<-hp];exact Nat.pow_pos (by decide)
 have HC:=ah hc2;have HP:=ah hp;have Xr:=ah (fun V:Nat=>KP V s p hp);have HUS:=ah (show(limbs (val xs)).length=us.length by rw[NQ]);have EM:=ah em;rw[hp];have i1:(d:Int)<=(us.length:Int):=by omega
 have i2:¬(us.length:Int)<=(d:Int):=by omega
 have e6:(n:Int).tmod 32=(s:Int):=by rw[Int.tmod_eq_emod_of_nonneg (by omega)];exact e2
 clear hv NQ hd sy EA TV hvl hc2 hp ha2 EM;go_enter Tryz.func152,Tryz.ntmps152
 go_wp2_with fail
 refine(eF _ _ _ _ ha).mono ?_;rintro e w' ⟨rfl,rfl⟩;rw[HUS.out];go_wp2_with fail
 go_loopw [31] (fun i wr=>∃(k:Nat) (zs:List Nat),k<=m/\i= .int .i64 k/\zs.length=m/\Lb zs/\Row wr w.heap.size zs/\Below w.heap.size w wr/\(∀j,k<=j->zs[j]?.getD 0=0)/\val zs=val vs/2 ^ s % Ba ^ k) (fun i _=>m- (intOf i).toNat)
 case atStart=>exact⟨0,zeros m,aF _,rfl,cS _,gB _,Row.new _ _,(aq _ _).alloc (aj _) _,fun j _=>gK _ _,by simp[fV,Nat.mod_one]⟩
 case round=>
  obtain⟨k,zs,hk,rfl,hl,hz,hrow,bP,h0,hv⟩:=hrel;have HV:=ah hv;have H0:=ah h0;have HZ:=ah hl;clear hv h0 hl hmk
  by_cases hkm:k<m
  ·have hx:=(bP.cell (p:=⟨b1,o1+d+k,none⟩) hb1).trans (HC.out k (by rw[HL.out];exact hkm));have bx:vs[k]?.getD 0<4294967296:=hvs.lb.get k;have bY:vs[k+1]?.getD 0<4294967296:=hvs.lb.get (k+1);have hstep:=KM (xs:=vs) (zs:=zs) (i:=k) (s:=s) hvs.lb (by rw[HZ.out];exact hkm) (by rw[HL.out];exact hkm) H0.out (by omega) HV.out;obtain⟨x,ex⟩:=xeq (vs[k]?.getD 0);obtain⟨y,ey⟩:=xeq (vs[k+1]?.getD 0);rw[ex]at hx bx hstep;rw[ey]at bY hstep;have EY:=ah ey;have hs1:=hrow.cell (i:=k) (by rw[HZ.out];exact hkm);have oN:=hrow.frozen k;rw[H0.out k (aj _)]at hs1;rw[HP.out]at hstep;clear ex ey
   by_cases hk1:k+1<m
   ·have hy:=(bP.cell (p:=⟨b1,o1+d+ (k+1),none⟩) hb1).trans (HC.out (k+1) (by rw[HL.out];exact hk1));rw[EY.out]at hy;have iX:=Rs x y bx bY;have hsh:=Xr.out (x+4294967296*y);obtain⟨V,eV⟩:=xeq (x+Ba*y);rw[show x+4294967296*y=V from eV]at iX hsh;rw[eV]at hstep;have HST:=ah hstep;have hr:=hrow.put k (V/p % Ba) (z:=(V:Int)/ (p:Int) % 4294967296) (by rw[bU];simp);clear eV hstep;go_wp2
    go_roundw
    case rel=>exact⟨k+1,zs.set k (V/p % Ba),by omega,by go_num,by rw[List.length_set];exact HZ.out,hz.set _ _ (Nat.mod_lt _ cR),hr,bP.setCell (aj _) _,dN H0.out,by rw[HP.out];exact HST.out⟩
    case measure=>simp[intOf];omega
   ·have hy0:y=0:=by rw[<-EY.out,aQ (by rw[HL.out];omega)];rfl
    rw[hy0,Nat.mul_zero,Nat.add_zero]at hstep;have hsh:=Xr.out x;have HST:=ah hstep;have hk2:¬(k:Int)+1< (m:Int):=by omega
    have hr:=hrow.put k (x/p % Ba) (z:=(x:Int)/ (p:Int) % 4294967296) (by rw[bU];simp);clear hy0 hstep EY bY;go_wp2
    go_roundw
    case rel=>exact⟨k+1,zs.set k (x/p % Ba),by omega,by go_num,by rw[List.length_set];exact HZ.out,hz.set _ _ (Nat.mod_lt _ cR),hr,bP.setCell (aj _) _,dN H0.out,by rw[HP.out];exact HST.out⟩
    case measure=>simp[intOf];omega
  ·obtain rfl:k=m:=by omega
   have hval:val zs=val vs/p:=by
    rw[HV.out,HP.out];apply Nat.mod_eq_of_lt;have h1:=fK hvs.lb;rw[HL.out]at h1;exact aP (Nat.div_le_self _ _) h1
   have iR:=ah hval;clear hval;go_wp2_with fail
   refine(mL hrow hz (aj _) HZ.out (by omega) iR.out bP).mono ?_;rintro e w' ⟨A',c',rfl,r3,r4⟩;go_wp2
   go_ret2;exact⟨A',c',rfl,r3,r4⟩
theorem yE(A:Option Addr)(xs:List Nat)(c n:Nat)(w:World)(ha:bQ w A c xs)(hs:xs.length<=70368744177664)(hn:n<=9223372036854775807):
 Calls Tryz.prog 152 #[.slice A xs.length c, .int .i64 (n:Int)] w (kF w (val xs/2 ^ n)):=by
 rcases aN (n/32) (limbs (val xs)).length with h|h
 ·exact ud A xs c n w ha hs hn h
 ·exact sB A xs c n w ha hn h
/- Contracts of package natural: the next digit of the long division. -/
structure Only(g:Nat)(w w':World):Prop where
 mH:Below g w w'
 same:∀b,b≠g->w'.heap[b]?=w.heap[b]?
 size:w'.heap.size=w.heap.size
theorem Only.refl(g:Nat)(w:World):Only g w w:=⟨aq _ _,fun _ _=>rfl,rfl⟩
theorem Only.drewN{g:Nat}{w w':World}(h:Only g w w')(n:Nat):Only g w (w'.drewN n):=⟨below_drewN h.mH n,h.same,h.size⟩
theorem Only.put{g:Nat}{w w':World}(h:Only g w w')(i:Nat)(v:Value):Only g w (w'.setCell ⟨g,i,none⟩ v):=
 ⟨h.mH.setCell (aj _) _,fun b hb=>(Below.heap_setCell w' ⟨g,i,none⟩ v b hb).trans (h.same b hb),by rw[<-h.size];simp[World.setCell]⟩
theorem Only.row{g b:Nat}{w w':World}{zs:List Nat}(h:Only g w w')(hb:b≠g)(hr:Row w b zs):Row w' b zs:=(h.same b hb).trans hr
def TX(zs vs:List Nat)(g j:Nat)(w:World)(e:Ending)(w':World):Prop:=
 ∃ys,e= .returned (.int .u32 ((val (zs.drop j)/val vs:Nat):Int))/\ys.length=zs.length/\Lb ys/\Row w' g ys/\val ys+Ba ^ j* (val (zs.drop j)/val vs*val vs)=val zs/\Only g w w'
theorem AF(B:Option Addr)(zs vs:List Nat)(g j m cu c:Nat)(w:World)(h:Kn zs vs j m)(hrow:Row w g zs)(hb:bQ w B c vs)(hB:∀b o,B=some ⟨b,o,none⟩->b<g)(Xt:m+3<=cu)(hlen:zs.length<=70368744177665)(hcm:cu<=9223372036854775807):
 Calls Tryz.prog 151 #[.slice (some ⟨g,j,none⟩) (m+3) cu, .slice B (m+2) c] w (TX zs vs g j w):=by
 have hf:=h.fit;have hl2:=h.len;obtain⟨b,o,rfl,hbl,hc⟩:=hb.at_ (by omega);have hbg:=hB b o rfl;have u2:=hrow.cell (i:=j+m+2) (by omega);have u1:=hrow.cell (i:=j+m+1) (by omega);have u0:=hrow.cell (i:=j+m) (by omega);have v1:=hc (m+1) (by omega);have v2:=hc m (by omega);have b2:zs[j+m+2]?.getD 0<4294967296:=h.KI.get _;have b1:zs[j+m+1]?.getD 0<4294967296:=h.KI.get _;have b0:zs[j+m]?.getD 0<4294967296:=h.KI.get _;have d1:=h.v1;have d2:vs[m]?.getD 0<4294967296:=h.RB.get _;obtain⟨U2,e2⟩:=xeq (zs[j+m+2]?.getD 0);obtain⟨U1,e1⟩:=xeq (zs[j+m+1]?.getD 0);obtain⟨U0,e0⟩:=xeq (zs[j+m]?.getD 0);obtain⟨V1,f1⟩:=xeq (vs[m+1]?.getD 0);obtain⟨V2,f2⟩:=xeq (vs[m]?.getD 0);rw[e2]at u2 b2;rw[e1]at u1 b1;rw[e0]at u0 b0;rw[f1]at v1 d1;rw[f2]at v2 d2;have iX:=tP U1 U2 b1 b2;have hst:=Dg.start h (t:=U2*Ba+U1) (by rw[e2,e1]);rw[f1]at hst;obtain⟨T,eT⟩:=xeq (U2*Ba+U1);rw[eT]at hst;rw[show U1+4294967296*U2=T by rw[<-eT,bU,Nat.mul_comm,Nat.add_comm]]at iX;have hTb:T<18446744073709551616:=by rw[<-eT,bU];omega
 have q1:(T:Int).tdiv (V1:Int)=((T/V1:Nat):Int):=by rw[Int.tdiv_eq_ediv_of_nonneg (by omega)];rfl
 have q2:(T:Int).tmod (V1:Int)=((T % V1:Nat):Int):=by rw[Int.tmod_eq_emod_of_nonneg (by omega)];rfl
 have hrl:=Nat.mod_lt T (show 0<V1 by omega);obtain⟨D0,eD⟩:=xeq (T/V1);obtain⟨R0,eR⟩:=xeq (T % V1);rw[eD]at q1 hst;rw[eR]at q2 hst hrl;have hne:((V1:Int)==0)=false:=by rw[beq_eq_false_iff_ne];omega
 have u2':w.cell? ⟨g,j+ (m+2),none⟩=some (.int .u32 (U2:Int)):=u2;have u1':w.cell? ⟨g,j+ (m+1),none⟩=some (.int .u32 (U1:Int)):=u1;have E2:=ah e2;have E1:=ah e1;have E0:=ah e0;have F1:=ah f1;have F2:=ah f2;have HC:=ah hc;have M8:=ah hl2;have HT:=ah eT;have hD0:D0<=4294967297:=by have:=hst.le;rw[bU]at this;exact this
 have RD:IntKind.u64.wrap (D0:Int)=(D0:Int):=by rw[IntKind.wrap_u64];omega
 obtain⟨Q,eQ⟩:=xeq (val (zs.drop j)/val vs);have EQ:=ah eQ;have HST:=ah hst;clear e2 e1 e0 f1 f2 eT eD eR hc hl2 u2 u1 eQ hst;go_enter Tryz.func151,Tryz.ntmps151
 go_wp2_with fail
 go_quiet (fail)
 go_wp2_with fail
 go_quiet (fail)
 clear iX u2' u1' q1 q2 hne hTb
 go_upto_block 0 with fail
 go_cut [7] (fun t wx=>∃(D n:Nat),t= .int .u64 D/\D<Ba/\(D=Q∨D=Q+1)/\wx=w.drewN n)
 case first=>
  go_wp2_with fail
  go_loopw [7,8] (fun t r wr=>∃(D R n:Nat),t= .int .u64 D/\r= .int .u64 R/\R<4294967296/\Hid (Dg zs vs j m D R)/\wr=w.drewN n) (fun t _ _=>(intOf t).toNat)
  case atStart=>exact⟨D0,R0,_,rfl,rfl,by omega,HST,World.drewN_drewN _ _ _⟩
  case round=>
   obtain⟨D,R,n,rfl,rfl,hR,hDg,rfl⟩:=hrel;have hDl:D<=4294967297:=by have:=hDg.out.le;rw[bU]at this;exact this
   by_cases vX:4294967296<=D
   ·obtain⟨Cp,hdn⟩:=Dg.down h hDg.out (.inl vX);rw[F1.out]at hdn;have RE:=ah hdn;have t1:((D:Int)/4294967296 !=0)=true:=by rw[bne_iff_ne];omega
    clear hdn;go_wp2_with fail
    go_quiet (fail)
    by_cases hbr:4294967296<=R+V1
    ·have pE:=Dg.found h RE.out (.inr hbr);rw[EQ.out]at pE;have RG:=ah pE;have t2:(((R:Int)+V1)/4294967296 !=0)=true:=by rw[bne_iff_ne];omega
     clear pE;go_wp2
     go_meet;exact⟨D-1,_,by congr 1;omega,RG.out.1,RG.out.2,rfl⟩
    ·have t2:(((R:Int)+V1)/4294967296 !=0)=false:=by rw[bne_eq_false_iff_eq];omega
     go_wp2
     go_roundw
     case rel=>exact⟨D-1,R+V1,_,by congr 1;omega,by go_num,by omega,RE,rfl⟩
     case measure=>simp[intOf];omega
   ·have t1:((D:Int)/4294967296 !=0)=false:=by rw[bne_eq_false_iff_eq];omega
    have hpe:(D:Int)* (V2:Int)=((D*V2:Nat):Int):=(Int.natCast_mul D V2).symm;have hpb:=Nat.mul_le_mul (Nat.le_pred_of_lt (show D<4294967296 by omega)) (Nat.le_pred_of_lt d2);have iX:=tP U0 R b0 hR;have AJ:= @Dg.down zs vs j m h D R hDg.out;have hfound:= @Dg.found zs vs j m h D R hDg.out;rw[F1.out,F2.out,E0.out]at AJ;rw[F2.out,E0.out,EQ.out]at hfound;obtain⟨M,eM⟩:=xeq (D*V2);obtain⟨N,eN⟩:=xeq (U0+4294967296*R);have eN':R*Ba+U0=N:=by rw[<-eN,bU,Nat.mul_comm,Nat.add_comm]
    rw[eM]at hpe hpb AJ hfound;rw[eN]at iX;rw[eN']at AJ hfound;have aja:M<=18446744065119617025:=hpb;have w1:IntKind.u64.wrap ((D:Int)* (V2:Int))=(M:Int):=by rw[hpe,IntKind.wrap_u64];omega
    have w2:IntKind.u64.wrap ((R:Int)*4294967296)=(R:Int)*4294967296:=by rw[IntKind.wrap_u64];omega
    have Y7:=ah AJ;have TY:=ah hfound;clear eM eN eN' hpb hpe AJ hfound
    by_cases Y8:N<M
    ·obtain⟨Cp,hdn⟩:=Y7.out (.inr Y8);have RE:=ah hdn;clear hdn;go_wp2_with fail
     go_quiet (fail)
     by_cases hbr:4294967296<=R+V1
     ·have pE:=Dg.found h RE.out (.inr hbr);rw[EQ.out]at pE;have RG:=ah pE;have t2:(((R:Int)+V1)/4294967296 !=0)=true:=by rw[bne_iff_ne];omega
      clear pE;go_wp2
      go_meet;exact⟨D-1,_,by congr 1;omega,RG.out.1,RG.out.2,rfl⟩
     ·have t2:(((R:Int)+V1)/4294967296 !=0)=false:=by rw[bne_eq_false_iff_eq];omega
      go_wp2
      go_roundw
      case rel=>exact⟨D-1,R+V1,_,by congr 1;omega,by go_num,by omega,RE,rfl⟩
      case measure=>simp[intOf];omega
    ·have pE:=TY.out (.inl ⟨by rw[bU];omega,by omega⟩);have RG:=ah pE;clear pE;go_wp2_with fail
     go_quiet (fail)
     go_wp2
     go_meet;exact⟨D,_,rfl,RG.out.1,RG.out.2,World.drewN_drewN _ _ _⟩
 case rest=>
  obtain⟨D,n,rfl,hD,hDQ,rfl⟩:=hcut;rw[bU]at hD;have HDQ:=ah hDQ;clear hDQ u0 v1 v2 b0 b1 hD0 RD hrl HST d2 d1;have HBG:=ah hbg;clear hB hbg;go_wp2_with fail
  go_loopw [9,86] (fun t i wr=>∃(k q:Nat) (ys:List Nat),k<=m+2/\i= .int .i64 k/\t= .int .u64 q/\q<4294967296/\ys.length=zs.length/\Lb ys/\Row wr g ys/\Only g w wr/\(∀l,j+k<=l->ys[l]?.getD 0=zs[l]?.getD 0)/\val ys+Ba ^ j* (D*val (vs.take k))=val zs+Ba ^ (j+k)*q) (fun _ i _=>m+2- (intOf i).toNat)
  case atStart=>exact⟨0,0,zs,aF _,rfl,rfl,by omega,rfl,h.KI,hrow,(Only.refl g w).drewN n,fun _ _=>rfl,by simp[val]⟩
  case round=>
   obtain⟨k,q,ys,hk,rfl,rfl,hq,hl,hz,jU,hon,hsame,hv⟩:=hrel;have HV:=ah hv;have HS:=ah hsame;have HL:=ah hl;clear hv hsame hl hrow
   by_cases hlt:k<m+2
   ·have hx:=(hon.mH.cell (p:=⟨b,o+k,none⟩) HBG.out).trans (HC.out k (by rw[M8.out];omega));have bx:vs[k]?.getD 0<4294967296:=h.RB.get k;have RH:=jU.cell (i:=j+k) (by rw[HL.out];omega);have hyf:=jU.frozen (j+k);have bY:ys[j+k]?.getD 0<4294967296:=hz.get (j+k);have hstep:=fun z c'=> @OG ys vs j k q D z c' (val zs) (by rw[HL.out];omega) HV.out;obtain⟨x,ex⟩:=xeq (vs[k]?.getD 0);obtain⟨y,ey⟩:=xeq (ys[j+k]?.getD 0);rw[ex]at hx bx;rw[ey]at RH bY;simp only[ex,ey]at hstep;obtain⟨c1,c2,c3⟩:=KH (d:=D) (x:=x) (c:=q) (y:=y) hD bx hq bY;have hpe:(D:Int)* (x:Int)=((D*x:Nat):Int):=(Int.natCast_mul D x).symm;obtain⟨M,eM⟩:=xeq (D*x);rw[eM]at hpe c1 c2 c3;simp only[eM]at hstep;have hpq:(M:Int)+ (q:Int)=((M+q:Nat):Int):=by omega
    obtain⟨P,eP⟩:=xeq (M+q);rw[eP]at hpq c1 c2 c3;simp only[eP]at hstep;have JS:Ba*Ba=18446744073709551616:=by decide
    rw[JS]at c1;rw[bU]at c2 c3;have hM:M<=18446744073709551615:=by omega
    have hP:P<=18446744073709551615:=by omega
    have hmd:P=P % 4294967296+4294967296* (P/4294967296):=(Nat.mod_add_div P 4294967296).symm;have g1:(P:Int) % 4294967296=((P % 4294967296:Nat):Int):=by omega
    have g2:(P:Int)/4294967296=((P/4294967296:Nat):Int):=by omega
    have hLo:P % 4294967296<4294967296:=Nat.mod_lt _ (by decide);obtain⟨L,eL⟩:=xeq (P % 4294967296);obtain⟨H,eH⟩:=xeq (P/4294967296);rw[eL]at g1 c3 hLo hmd;rw[eH]at g2 c2 c3 hmd;have HMD:=ah hmd;have HST:=ah hstep;have C3:=ah c3;clear ex ey eM eP eL eH hmd hstep JS c3 c1
    by_cases hyl:L<=y
    ·have hr:=jU.put (j+k) (y-L) (z:=(y:Int) -L) (by omega);have sI:=HST.out (y-L) H (by rw[bU];have:=HMD.out;omega);have vw:=ah sI;clear sI;go_wp2
     go_roundw
     case rel=>exact⟨k+1,H,ys.set (j+k) (y-L),by omega,by go_num,by congr 1;omega,c2,by rw[List.length_set];exact HL.out,hz.set _ _ (by rw[bU];omega),hr,hon.put _ _,fun l hl=>by rw[fL _ (by omega)];exact HS.out l (by omega),vw.out⟩
     case measure=>simp[intOf];omega
    ·have hH:H+1<4294967296:=C3.out (by omega);have hr:=jU.put (j+k) (y+4294967296-L) (z:=IntKind.u64.wrap ((y:Int) -L) % 4294967296) (by rw[nJ _ (by omega) (by omega)];omega);have sI:=HST.out (y+4294967296-L) (H+1) (by rw[bU];have:=HMD.out;omega);have vw:=ah sI;have Xq:=lZ ((y:Int) -L) (by omega) (by omega);clear sI;go_wp2
     go_roundw
     case rel=>exact⟨k+1,H+1,ys.set (j+k) (y+4294967296-L),by omega,by go_num,by go_num,hH,by rw[List.length_set];exact HL.out,hz.set _ _ (by rw[bU];omega),hr,hon.put _ _,fun l hl=>by rw[fL _ (by omega)];exact HS.out l (by omega),vw.out⟩
     case measure=>simp[intOf];omega
   ·obtain rfl:k=m+2:=by omega
    have hV:=HV.out;rw[aI (by rw[M8.out];exact aj _)]at hV;have RH:=jU.cell (i:=j+ (m+2)) (by rw[HL.out];omega);have hyf:=jU.frozen (j+ (m+2));have eU:ys[j+ (m+2)]?.getD 0=U2:=by rw[HS.out _ (aj _)];exact E2.out
    rw[eU]at RH;have EU:=ah eU;have Ya:=ah hV;clear hV eU
    by_cases hqu:q<=U2
    ·have hr:=jU.put (j+ (m+2)) (U2-q) (z:=(U2:Int) -q) (by omega);have gX:=TQ (k:=j+ (m+2)) (z:=U2-q) (by rw[HL.out];omega) EU.out Ya.out (by omega);have hdone:=h.done (by rw[EQ.out];exact HDQ.out) gX;have HT2:=ah gX;have RE:=ah hdone;clear gX hdone;go_wp2
     go_ret;refine⟨ys.set (j+ (m+2)) (U2-q),?_,by rw[List.length_set];exact HL.out,hz.set _ _ (by rw[bU];omega),hr,by rw[<-RE.out];exact HT2.out,hon.put _ _⟩;rw[<-RE.out]
     rfl
    ·have hr:=jU.put (j+ (m+2)) (U2+4294967296-q) (z:=IntKind.u64.wrap ((U2:Int) -q) % 4294967296) (by rw[nJ _ (by omega) (by omega)];omega);have Xq:=lZ ((U2:Int) -q) (by omega) (by omega);have gX:=OI (k:=j+ (m+2)) (z:=U2+4294967296-q) (by rw[HL.out];omega) EU.out Ya.out (by rw[bU];omega);have QJ:=hz.set (j+ (m+2)) (U2+4294967296-q) (by rw[bU];omega)
     have hzero:∀l,j+m+2+1<=l->(ys.set (j+ (m+2)) (U2+4294967296-q))[l]?.getD 0=0:=fun l hl=>by
      rw[fL _ (by omega),HS.out l (by omega)];exact h.zero l (by omega)
     have hvl:=kH QJ hzero;have Y9:=h.KJ (by rw[EQ.out];exact HDQ.out) hvl gX;have Na:(ys.set (j+ (m+2)) (U2+4294967296-q)).length=zs.length:=by rw[List.length_set];exact HL.out
     have hset:(ys.set (j+ (m+2)) (U2+4294967296-q))[j+ (m+2)]?.getD 0=U2+4294967296-q:=C6 _ (by rw[HL.out];omega);have V9:=hon.put (j+ (m+2)) (.int .u32 (IntKind.u64.wrap ((U2:Int) -q) % 4294967296));obtain⟨xs,zY⟩:=xeq (ys.set (j+ (m+2)) (U2+4294967296-q));obtain⟨Z,eZ⟩:=xeq (U2+4294967296-q);have hZ:Z<4294967296:=by omega
     rw[zY]at hr gX QJ hzero Na hset;rw[eZ]at hset;have KQ:=ah gX;have Za:=ah hzero;have sx:=ah Na;have ajs:=ah hset;have Zb:=ah Y9;clear gX hzero Na hset Y9 zY eZ hvl HV Ya HS EU;have hD1:1<=D:=by rw[Zb.out];exact Nat.le_add_left _ _
     obtain⟨wo,hwo⟩:=xeq (wr.setCell ⟨g,j+ (m+2),none⟩ (.int .u32 (IntKind.u64.wrap ((U2:Int) -q) % 4294967296)));rw[hwo]at hr V9;have HWO:=ah hwo;clear hwo;go_wp2_with fail
     rw[HWO.out];clear HWO RH hyf jU hon Xq
     go_loopw [9,136] (fun t i wi=>∃(k q:Nat) (ps:List Nat),k<=m+2/\i= .int .i64 k/\t= .int .u64 q/\q<=1/\ps.length=zs.length/\Lb ps/\Row wi g ps/\Only g w wi/\(∀l,j+k<=l->ps[l]?.getD 0=xs[l]?.getD 0)/\val ps+Ba ^ (j+k)*q=val xs+Ba ^ j*val (vs.take k)) (fun _ i _=>m+2- (intOf i).toNat)
     case atStart=>exact⟨0,0,xs,aF _,rfl,rfl,by omega,sx.out,QJ,hr,V9,fun _ _=>rfl,by simp[val]⟩
     case round=>
      clear hr V9;obtain⟨k,f,ps,hk2,rfl,rfl,hf2,hl3,Jr,ox,Wa,Nc,Ke⟩:=hrel;have HV3:=ah Ke;have QK:=ah Nc;have Yf:=ah hl3;clear Ke Nc hl3
      by_cases hlt3:k<m+2
      ·have hx:=(Wa.mH.cell (p:=⟨b,o+k,none⟩) HBG.out).trans (HC.out k (by rw[M8.out];omega));have bx:vs[k]?.getD 0<4294967296:=h.RB.get k;have RH:=ox.cell (i:=j+k) (by rw[Yf.out];omega);have hyf:=ox.frozen (j+k);have bY:ps[j+k]?.getD 0<4294967296:=Jr.get (j+k);have hstep:=OH (zs:=ps) (vs:=vs) (j:=j) (i:=k) (c:=f) (T:=val xs) (by rw[Yf.out];omega) HV3.out;obtain⟨x,ex⟩:=xeq (vs[k]?.getD 0);obtain⟨y,ey⟩:=xeq (ps[j+k]?.getD 0);rw[ex]at hx bx hstep;rw[ey]at RH bY hstep;have HST:=ah hstep;have hr:=ox.put (j+k) ((f+ (y+x)) % Ba) (z:=((f:Int)+ (y+x)) % 4294967296) (by simp only[bU];omega);clear ex ey hstep;go_wp2
       go_roundw
       case rel=>exact⟨k+1,(f+ (y+x))/Ba,ps.set (j+k) ((f+ (y+x)) % Ba),by omega,by go_num,by simp only[bU];go_num,by simp only[bU];omega,by rw[List.length_set];exact Yf.out,Jr.set _ _ (Nat.mod_lt _ cR),hr,Wa.put _ _,fun l hl=>by rw[fL _ (by omega)];exact QK.out l (by omega),HST.out⟩
       case measure=>simp[intOf];omega
      ·obtain rfl:k=m+2:=by omega
       have RH:=ox.cell (i:=j+ (m+2)) (by rw[Yf.out];omega);have hyf:=ox.frozen (j+ (m+2));have ep:ps[j+ (m+2)]?.getD 0=Z:=by rw[QK.out _ (aj _)];exact ajs.out
       rw[ep]at RH;have hV:=HV3.out;rw[aI (by rw[M8.out];exact aj _)]at hV;have gX:=TN (k:=j+ (m+2)) (by rw[Yf.out];omega) ep hV;have adh:=Jr.set (j+ (m+2)) ((Z+f) % Ba) (Nat.mod_lt _ cR);have adi:=kH (m:=j+m+2+1) adh (fun l hl=>by rw[fL _ (by omega),QK.out l (by omega)];exact Za.out l hl);have hQ:D=val (zs.drop j)/val vs+1:=Zb.out;have hback:=h.back (q:=val (zs.drop j)/val vs) (ys:=xs) (xs:=ps.set (j+ (m+2)) ((Z+f) % Ba)) (c:=(Z+f)/Ba) rfl (by rw[<-hQ];exact KQ.out) gX adi (kH h.KI h.zero);have HB:=ah hback;have hr:=ox.put (j+ (m+2)) ((Z+f) % Ba) (z:=((Z:Int)+f) % 4294967296) (by simp only[bU];omega);have HQ:=ah (show val (zs.drop j)/val vs=D-1 by omega);clear ep hV gX adi hback hQ;go_wp2
       go_ret;refine⟨ps.set (j+ (m+2)) ((Z+f) % Ba),?_,by rw[List.length_set];exact Yf.out,adh,hr,HB.out,Wa.put _ _⟩;rw[HQ.out];exact congrArg (fun z=>Ending.returned (.int .u32 z)) (by omega)
/- Contracts of package natural: the long division, the division in full. -/
theorem ug{x s:Nat}(hx:x<Ba)(h0:x≠0)(hs:s=32-nb x):s<32/\Ba<=2* (x*2 ^ s)/\x*2 ^ s<Ba:=by
 have h1:=AA x;have h2:=KN h0;have h3:nb x<=32:=xu hx
 have h4:1<=nb x:=by
  rcases aM (nb x)with h|h
  ·exact absurd (ua.1 h) h0
  ·exact h
 have e:Ba=2 ^ nb x*2 ^ s:=by rw[<-Nat.pow_add,hs,show nb x+ (32-nb x)=32 by omega];rfl
 have e2:2 ^ nb x=2*2 ^ (nb x-1):=by rw[Nat.mul_comm,<-Nat.pow_succ,show(nb x-1).succ=nb x by omega]
 refine⟨by omega,?_,?_⟩
 ·rw[e,e2,Nat.mul_assoc];exact aO _ (aH _ h2)
 ·rw[e];exact Nat.mul_lt_mul_of_pos_right h1 (Nat.pow_pos (by decide))
theorem KR{bs ws:List Nat}{m s:Nat}(hb:Lb bs)(hw:Lb ws)(hl:bs.length=m+2)(Xu:ws.length=m+3)(hv:val ws=val bs*2 ^ s)(h0:bs[m+1]?.getD 0≠0)(hs:s=32-nb (bs[m+1]?.getD 0)):
 val (ws.take (m+2))=val bs*2 ^ s/\Ba<=2* (ws.take (m+2))[m+1]?.getD 0:=by
 obtain⟨h32,hn1,hn2⟩:=ug (hb.get (m+1)) h0 hs;have hsp:=jf (xs:=bs) (i:=m+1) (by omega);rw[List.drop_of_length_le (show bs.length<=m+1+1 by omega)]at hsp;simp only[val,Nat.mul_zero,Nat.add_zero]at hsp;have hlow:=dG hb (m+1);have vW:=hb.get (m+1)
 have hlt:val ws<Ba ^ (m+2):=by
  rw[hv,hsp];generalize bs[m+1]?.getD 0=x at*
  have h1:(val (bs.take (m+1))+Ba ^ (m+1)*x)*2 ^ s<Ba ^ (m+1)* (x+1)*2 ^ s:=by
   apply Nat.mul_lt_mul_of_pos_right _ (Nat.pow_pos (by decide));rw[Nat.mul_add,Nat.mul_one];omega
  have h2:(x+1)*2 ^ s<=Ba:=by
   have h3:=AA x;have h4:nb x<=32:=xu vW;have e:Ba=2 ^ nb x*2 ^ s:=by rw[<-Nat.pow_add,hs,show nb x+ (32-nb x)=32 by omega];rfl
   rw[e];exact aH _ h3
  have h3:Ba ^ (m+1)* (x+1)*2 ^ s<=Ba ^ (m+1)*Ba:=by rw[Nat.mul_assoc];exact aO _ h2
  rw[Nat.pow_succ Ba (m+1)];omega
 have hz:=nM hlt;have T6:=eI hz;refine⟨by rw[T6,hv],?_⟩;rw[List.getElem?_take_of_lt (by omega)];have hsw:=jf (xs:=ws) (i:=m+1) (by omega)
 have hd:val (ws.drop (m+1+1))=0:=by
  have e:=eI (zs:=ws.drop (m+1+1)) (m:=0) (fun k _=>by rw[List.getElem?_drop];exact hz _ (by omega));rw[<-e];rfl
 rw[hd]at hsw;simp only[Nat.mul_zero,Nat.add_zero]at hsw;have ap3:=dG hw (m+1);generalize bs[m+1]?.getD 0=x at*;generalize ws[m+1]?.getD 0=y at*;rcases aN y (x*2 ^ s)with h|h
 ·exfalso;have h5:Ba ^ (m+1)* (y+1)<=Ba ^ (m+1)* (x*2 ^ s):=aO _ h;rw[Nat.mul_add,Nat.mul_one]at h5;have h6:Ba ^ (m+1)* (x*2 ^ s)<=val bs*2 ^ s:=by rw[hsp,Nat.add_mul,<-Nat.mul_assoc];omega
  omega
 ·omega
structure Lg(A V:Nat)(zs qs:List Nat)(j:Nat):Prop where
 eq:A=val zs+V*val qs
 lt:val zs<V*Ba ^ j
 low:∀k,k<j->qs[k]?.getD 0=0
theorem Lg.start{A V d:Nat}{zs qs:List Nat}(h:val zs=A)(h0:∀k:Nat,qs[k]?.getD 0=0)(hq:val qs=0)(hlt:A<V*Ba ^ d):Lg A V zs qs d:=
 ⟨by rw[h,hq];simp,by rw[h];exact hlt,fun k _=>h0 k⟩
theorem Lg.step{A V Q j:Nat}{zs ys qs:List Nat}(h:Lg A V zs qs (j+1))(hj:j<qs.length)(hy:val ys+Ba ^ j* (Q*V)=val zs)(hl:val ys<V*Ba ^ j):Lg A V ys (qs.set j Q) j:=by
 refine⟨?_,hl,fun k hk=>by rw[fL _ (by omega)];exact h.low k (by omega)⟩;have e:=fD Q hj;rw[h.low j (by omega),Nat.mul_zero,Nat.add_zero]at e;rw[h.eq,<-hy,e]
 grind
theorem Lg.finish{A V:Nat}{zs qs:List Nat}(h:Lg A V zs qs 0):val qs=A/V/\val zs=A % V:=by
 have h1:=h.lt;have h2:=h.eq;simp at h1
 have hV:0<V:=by
  rcases aM V with h3|h3
  ·subst h3;simp at h1
  ·exact h3
 have h2:=(Nat.div_mod_unique (a:=A) (c:=val zs) (d:=val qs) hV).2 ⟨by rw[h.eq],h1⟩;exact⟨h2.1.symm,h2.2.symm⟩
theorem OM{us:List Nat}{m s:Nat}(ha:Lb us)(hs:s<32)(hm:m+2<=us.length){V:Nat}(hV:Ba ^ (m+2)<=2*V):val us*2 ^ s<V*Ba ^ (us.length+1- (m+2)):=by
 have h1:=fK ha
 have h2:2 ^ s*2<=Ba:=by
  have:2 ^ (s+1)<=2 ^ 32:=Nat.pow_le_pow_right (by decide) (by omega);rw[Nat.pow_succ]at this;exact this
 have h3:val us*2 ^ s*2<Ba ^ (us.length+1):=by
  rw[Nat.mul_assoc,Nat.pow_succ];exact Nat.mul_lt_mul_of_lt_of_le h1 h2 cR
 have h4:Ba ^ (us.length+1)=Ba ^ (m+2)*Ba ^ (us.length+1- (m+2)):=by rw[<-Nat.pow_add];congr 1;omega
 have h5:Ba ^ (m+2)*Ba ^ (us.length+1- (m+2))<=2*V*Ba ^ (us.length+1- (m+2)):=aH _ hV;rw[Nat.mul_assoc]at h5;omega
theorem KS{vs:List Nat}{m:Nat}(hl:vs.length=m+2)(h:Ba<=2*vs[m+1]?.getD 0):Ba ^ (m+2)<=2*val vs:=by
 have hs:=jf (xs:=vs) (i:=m+1) (by omega);rw[Nat.pow_succ,hs];have h1:Ba ^ (m+1)*Ba<=Ba ^ (m+1)* (2*vs[m+1]?.getD 0):=aO _ h;have h2:Ba ^ (m+1)*vs[m+1]?.getD 0<=Ba ^ (m+1)* (vs[m+1]?.getD 0+Ba*val (vs.drop (m+1+1))):=aO _ (Nat.le_add_right _ _);have e:Ba ^ (m+1)* (2*vs[m+1]?.getD 0)=2* (Ba ^ (m+1)*vs[m+1]?.getD 0):=by grind
 omega
theorem xA(A:Option Addr)(us:List Nat)(c s n:Nat)(w:World)(ha:bQ w A c us)(hn:us.length=n)(hs:n<70368744177664)(h32:s<32):
 Calls Tryz.prog 150 #[.slice A n c, .int .i64 (s:Int)] w (KO w (n+1) (val us*2 ^ s)):=by
 subst hn;exact Hx A us c s w ha hs h32
theorem yF(A:Option Addr)(xs:List Nat)(c n l:Nat)(w:World)(ha:bQ w A c xs)(hl:xs.length=l)(hs:l<=70368744177664)(hn:n<=9223372036854775807):
 Calls Tryz.prog 152 #[.slice A l c, .int .i64 (n:Int)] w (kF w (val xs/2 ^ n)):=by
 subst hl;exact yE A xs c n w ha hs hn
theorem Zc(A:Option Addr)(xs:List Nat)(c k n:Nat)(w:World)(h:bQ w A c xs)(hk:xs.length=k)(hv:val xs=n):
 Calls Tryz.prog 95 #[.slice A k c] w fun e w'=>e= .returned (.slice A (limbs n).length c)/\w=w':=by
 subst hk hv;exact eF A xs c w h
theorem Row.lim{w:World}{g:Nat}{zs:List Nat}(h:Row w g zs)(hz:Lb zs)(hm:zs.length<=9223372036854775807):bQ w (some ⟨g,0,none⟩) zs.length zs:=(h.own hz (aF _) hm).lim
theorem yG(A B:Option Addr)(us bs:List Nat)(m c d:Nat)(w:World)(ha:bQ w A c us)(hb:bQ w B d bs)(hl:bs.length=m+2)(hle:m+2<=us.length)(hs:us.length<70368744177664)(h0:bs[m+1]?.getD 0≠0):
 Calls Tryz.prog 126 #[.slice A us.length c, .slice B (m+2) d] w (Kt w (val us/val bs) (val us % val bs)):=by
 obtain⟨b,o,rfl,hbl,hc⟩:=hb.at_ (by omega);have hx:=hc (m+1) (by omega);have bx:bs[m+1]?.getD 0<4294967296:=hb.lb.get (m+1);obtain⟨x,ex⟩:=xeq (bs[m+1]?.getD 0);obtain⟨s,es⟩:=xeq (32-nb x);rw[ex]at hx bx;have hnt:=ug (x:=x) (s:=s) bx (by rw[<-ex];exact h0) es.symm;have hnr:=fun ws h1 h2 h3=> @KR bs ws m s hb.lb h1 hl h2 h3 h0 (by rw[ex];exact es.symm);obtain⟨h32,_,_⟩:=hnt;obtain⟨dg,CR⟩:=xeq (us.length+1- (m+2));have hdg':(us.length:Int)+1- ((m:Int)+2)=(dg:Int):=by omega
 have uh:us.length=m+1+dg:=by omega
 have hmk:=jg (↑dg) dg rfl (by omega);have HNR:=ah hnr;have HL:=ah hl;have HS:=ah uh;have ES:=ah es;have HDG:=ah CR;have hdg1:1<=dg:=by omega
 clear hnr hl uh ex h0 hc es CR;go_enter Tryz.func126,Tryz.ntmps126
 go_wp2_with fail
 refine(mo x _ bx).mono ?_;rintro e w' ⟨rfl,rfl⟩;rw[ES.out];go_wp2_with fail
 refine(xA _ bs d s (m+2) w hb HL.out (by omega) h32).mono ?_;rintro e w1 ⟨ws,rfl,Xu,gh,hwv,hwr,b1⟩;go_wp2_with fail
 refine(xA _ us c s us.length w1 (ha.below b1) rfl hs h32).mono ?_;rintro e w2 ⟨zs,rfl,hzl,Hy,hzv,xB,b2⟩;obtain⟨hV,gX⟩:=HNR.out ws gh Xu hwv;have hvl:(ws.take (m+2)).length=m+2:=by rw[List.length_take,Xu];omega
 have RI:=KS hvl gX;have hsz:=OM ha.lb h32 hle RI;rw[HDG.out]at hsz;obtain⟨vs,TV⟩:=xeq (ws.take (m+2));rw[TV]at hV gX hvl hsz;have Zd:Lb vs:=by rw[<-TV];exact gh.take _
 have g12:w.heap.size<w1.heap.size:=hwr.lt;have g23:w1.heap.size<w2.heap.size:=xB.lt
 have Ze:∀W,Row W w.heap.size ws->bQ W (some ⟨w.heap.size,0,none⟩) (m+2+1) vs:=fun W hW=>by
  have:=(hW.lim gh (by rw[Xu];omega)).take (m+2);rw[TV,Xu]at this;exact this
 have hstart:Lg (val us*2 ^ s) (val vs) zs (zeros dg) dg:=Lg.start hzv (fun k=>gK _ _) (fV _) hsz;have cF:Below w.heap.size w w2:=b1.trans (b2.mono b1.size);have QM:Row w2 w.heap.size ws:=hwr.below b2 g12;have HV:=ah hV;have KQ:=ah gX;have AK:=ah hvl;have aju:=ah Ze;have HST:=ah hstart;have HZL:=ah hzl;clear hV gX hvl Ze hstart hzl hwv hzv Xu TV RI hsz HNR;go_wp2_with fail
 go_loopw [36] (fun i wr=>∃(k j:Nat) (ys qs:List Nat),k+j=dg/\i= .int .i64 k/\ys.length=us.length+1/\qs.length=dg/\Lb ys/\Lb qs/\Row wr w.heap.size ws/\Row wr w1.heap.size ys/\Row wr w2.heap.size qs/\Below w.heap.size w wr/\Hid (Lg (val us*2 ^ s) (val vs) ys qs j)) (fun i _=>dg- (intOf i).toNat)
 case atStart=>exact⟨0,dg,zs,zeros dg,by omega,rfl,HZL.out,cS _,Hy,gB _,QM.alloc _,xB.alloc _,Row.new _ _,cF.alloc (by omega) _,HST⟩
 case round=>
  obtain⟨k,jj,ys,qs,hkj,rfl,hyl,rO,hyb,OO,r1,r2,r3,bP,Xv⟩:=hrel;have Xw:=ah hyl;have Aa:=ah rO;have HKJ:=ah hkj;clear hyl rO hmk xB hwr QM b1 b2 cF HST
  by_cases hlt:k<dg
  ·obtain⟨j,rfl⟩:∃j,jj=j+1:=⟨jj-1,by omega⟩;have ej:(dg:Int) -1- (k:Int)=(j:Int):=by omega
   have hjn:j+m+2<=us.length:=by have:=HS.out;omega
   have hjd:j<dg:=by omega
   have hj2:j<=us.length:=by omega
   have hne:¬us.length+1=j:=by omega
   have hkn:Kn ys vs j m:=⟨AK.out,Zd,hyb,by rw[Xw.out];omega,KQ.out,Xv.out.lt⟩;have hq1:=r3.cell (i:=j) (by rw[Aa.out];exact hjd);have CY:=r3.frozen j;have JR:=ah hkn;clear hkj hkn;go_wp2_with fail
   rw[show j+ (m+2)+1-j=m+3 by omega];refine(AF _ ys vs w1.heap.size j m (us.length+1-j) (m+2+1) wr JR.out r2 (aju.out wr r1) (by intro b' o' e;injection e with e;injection e with e1 e2;omega) (by omega) (by rw[Xw.out];omega) (by omega)).mono ?_;rintro e w5 ⟨xs,rfl,hxl,vW,Hz,hxv,hon⟩;have hless:=JR.out.less hxv;have hQ:=JR.out.Y4;obtain⟨Q,eQ⟩:=xeq (val (ys.drop j)/val vs);rw[eQ]at hxv hQ⊢;have adk:=Xv.out.step (Q:=Q) (by rw[Aa.out];exact hjd) hxv hless;have Zg:=hon.row (by omega) r1;have Zh:=hon.row (by omega) r3;have adl:Below w.heap.size w w5:=bP.trans (hon.mH.mono (by omega));have hq3:=Zh.cell (i:=j) (by rw[Aa.out];exact hjd);have hq4:=Zh.frozen j;have hput:=Zh.put j Q (z:=(Q:Int)) rfl;have HJ:=ah hxl;have ans:=ah adk;clear eQ hxv hless adk hxl hq1 CY r1 r2 r3 Xv JR bP hne;rw[bU]at hQ;go_wp2
   go_roundw
   case rel=>exact⟨k+1,j,xs,qs.set j Q,by have:=HKJ.out;omega,by go_num,by rw[HJ.out];exact Xw.out,by rw[List.length_set];exact Aa.out,vW,OO.set _ _ hQ,Zg.far (by show w.heap.size≠w2.heap.size;omega) _,Hz.far (by show w1.heap.size≠w2.heap.size;omega) _,hput,adl.setCell (by show w.heap.size<=w2.heap.size;omega) _,ans⟩
   case measure=>simp[intOf];omega
  ·have ejj:jj=0:=by omega
   subst ejj;obtain rfl:k=dg:=by omega
   obtain⟨hq,hz⟩:=Xv.out.finish;have Zi:0<2 ^ s:=Nat.pow_pos (by decide);have hq':val qs=val us/val bs:=by rw[hq,HV.out,Nat.mul_div_mul_right _ _ Zi]
   have hz':val ys=val us % val bs*2 ^ s:=by rw[hz,HV.out,Nat.mul_mod_mul_right]
   have E9:val ys<Ba ^ (m+2):=by
    have h1:=Xv.out.lt;have h2:=fK Zd;rw[AK.out]at h2;simp at h1;omega
   have T6:=eI (nM E9);have Zj:=(r2.lim hyb (by rw[Xw.out];omega)).take (m+2);rw[Xw.out]at Zj;have htl:(ys.take (m+2)).length=m+2:=by rw[List.length_take,Xw.out];omega
   have hval:val (ys.take (m+2))/2 ^ s=val us % val bs:=by rw[T6,hz',Nat.mul_div_cancel _ Zi]
   have HQ:=ah hq';have iR:=ah hval;have HTL:=ah htl;have g3:w2.heap.size<wr.heap.size:=r3.lt;clear hq hz hq' hz' E9 T6 htl hval Xv hkj;go_wp2_with fail
   refine(yF _ (ys.take (m+2)) _ s (m+2) wr Zj HTL.out (by omega) (by omega)).mono ?_;rintro e w6 ⟨A6,c6,rfl,r6,b6⟩;rw[iR.out]at r6⊢;have Zh:=r3.below b6 g3;have adm:Below w.heap.size w w6:=bP.trans (b6.mono bP.size);go_wp2_with fail
   have hown:=Zh.own OO (lo:=w.heap.size) (by omega) (by rw[Aa.out];omega);rw[Aa.out]at hown;refine(Zc _ qs k k (val us/val bs) w6 hown.lim Aa.out HQ.out).mono ?_;rintro e w7 ⟨rfl,rfl⟩;have hcut:=hown.cut;rw[HQ.out]at hcut;go_wp2
   go_ret2;exact⟨_,_,A6,c6,rfl,hcut,r6.mono bP.size,adm⟩
theorem AL(A B:Option Addr)(xs ys:List Nat)(c d:Nat)(w:World)(ha:bQ w A c xs)(hb:bQ w B d ys)(hs:xs.length<70368744177664)(hge:val ys<=val xs)(vX:Ba*Ba<=val xs)(h1:2<=(limbs (val ys)).length):Calls Tryz.prog 99 #[.slice A xs.length c, .slice B ys.length d] w (mM w (val xs/val ys) (val xs % val ys)):=by
 have la:=bh ha.lb
 have l2:(2:Int)< ((limbs (val xs)).length:Int):=by
  have:¬(limbs (val xs)).length<=2:=fun h=>by have:=fA.1 h;omega
  omega
 have ec:0<=gq (val (limbs (val xs))) (val (limbs (val ys))):=by
  rw[aV,aV];rcases Nat.lt_or_eq_of_le hge with h|h
  ·rw[iE h];omega
  ·rw[jY h.symm];omega
 obtain⟨m,em⟩:∃m,(limbs (val ys)).length=m+2:=⟨(limbs (val ys)).length-2,by omega⟩;have hy0:val ys≠0:=fun h=>by rw[h,bM]at h1;simp at h1
 have gX:=mJ hy0;rw[em,show m+2-1=m+1 from rfl]at gX;have hmono:=bN hge;rw[em]at hmono;have Oq:(((limbs (val ys)).length:Int)==0)=false:=by rw[em,beq_eq_false_iff_ne];omega
 have EM:=ah em;have KQ:=ah gX;have em1:(((m:Int)+2)==1)=false:=by rw[beq_eq_false_iff_ne];omega
 clear em gX hge vX h1 hy0;go_enter Tryz.func99,Tryz.ntmps99
 go_wp2_with fail
 refine(eF _ _ _ _ ha).mono ?_;rintro e w' ⟨rfl,rfl⟩;go_wp2_with fail
 refine(eF _ _ _ _ hb).mono ?_;rintro e w' ⟨rfl,rfl⟩;go_wp2_with fail
 refine(dZ _ _ _ _ _ _ _ ha.cut hb.cut).mono ?_;rintro e w' ⟨rfl,n,rfl⟩;generalize gq (val (limbs (val xs))) (val (limbs (val ys)))=z at*;have YI:¬z<0:=by omega
 clear Oq;rw[EM.out];have l2':¬(((limbs (val xs)).length:Int)<=2):=by omega
 go_wp2_with fail
 refine(yG _ _ (limbs (val xs)) (limbs (val ys)) m c d _ (ha.cut.drewN n) (hb.cut.drewN n) EM.out hmono (by omega) KQ.out).mono ?_;rintro e w1 ⟨A1,c1,A2,c2,rfl,r1,r2,Ou⟩;rw[aV,aV]at r1 r2⊢;go_wp2
 go_ret3
 exact⟨A1,c1,A2,c2,rfl,r1,r2,(below_drewN (aq _ w) n).trans Ou⟩
theorem uj(A B:Option Addr)(xs ys:List Nat)(c d:Nat)(w:World)(ha:bQ w A c xs)(hb:bQ w B d ys)(hs:xs.length<70368744177664)(h0:val ys≠0):Calls Tryz.prog 99 #[.slice A xs.length c, .slice B ys.length d] w (mM w (val xs/val ys) (val xs % val ys)):=by
 rcases aN (val xs) (val ys)with hlt|hge
 ·exact Hf A B xs ys c d w ha hb (by omega) hlt
 ·rcases aN (val xs) (Ba*Ba)with sy|vX
  ·exact yq A B xs ys c d w ha hb h0 hge sy
  ·rcases aN (limbs (val ys)).length 2 with h1|h1
   ·have hp:0< (limbs (val ys)).length:=List.length_pos_iff.2 (fun e=>h0 (bV.1 e));exact Aq A B xs ys c d w ha hb (by omega) hge vX (by omega)
   ·exact AL A B xs ys c d w ha hb hs hge vX h1
/- Contracts with named results, for the walks of the statements: natural numbers. Literal lists of limbs. -/
theorem Ic(zs:List Nat)(h:(zs.all (fun x=>decide (x<4294967296)) && (zs.getLast?.getD 1 !=0))=true):limbs (val zs)=zs:=by
 rw[Bool.and_eq_true]at h;obtain⟨h1,h2⟩:=h;have hb:Lb zs:=fun x hx=>of_decide_eq_true (List.all_eq_true.1 h1 x hx);rcases List.eq_nil_or_concat zs with rfl|⟨l,x,rfl⟩
 ·exact bM
 ·have hx:x≠0:=by simpa using h2
  rw[List.concat_eq_append]at*;have hl:Lb l:=fun y hy=>hb y (List.mem_append_left _ hy);exact nG hl (hb x (by simp)) hx
theorem jl{n:Nat}(zs:List Nat)(h:(zs.all (fun x=>decide (x<4294967296)) && (zs.getLast?.getD 1 !=0))=true)(hn:val zs=n):limbs n=zs:=by
 rw[<-hn];exact Ic zs h
theorem qW(zs:List Nat)(h:zs.all (fun x=>decide (x<4294967296))=true):Lb zs:=fun x hx=>of_decide_eq_true (List.all_eq_true.1 h x hx)
theorem Wh(w:World)(zs:List Nat)(hz:Lb zs)(hl:zs.length<=9223372036854775807):bQ (w.alloc (.cells (cellsOf zs) 75)) (some ⟨w.heap.size,0,none⟩) zs.length zs:=
 ((Row.new w zs).own hz (aF _) hl).lim
theorem bI(w:World)(o:Obj):Below w.heap.size w (w.alloc o):=(aq _ _).alloc (aj _) _
theorem sK(w:World)(o q:Obj):Below w.heap.size w ((w.alloc o).alloc q):=(bI w o).alloc (by simp) _
section
variable (A B:Option Addr)(xs ys:List Nat)(c d:Nat)(w:World)(m n s t:Nat)(K L:Nat)
theorem RK(ha:bQ w A c xs)(hb:bQ w B d ys)(hs:xs.length<=K)(ht:ys.length<=L)(hm:val xs=m)(hn:val ys=n)(h:m*n=s)(hK:K+L<=70368744177664):
 Calls Tryz.prog 64 #[.slice A xs.length c, .slice B ys.length d] w (dW w s):=by
 subst hm hn h;exact FB A B xs ys c d w ha hb (by omega)
theorem Ug(ha:bQ w A c xs)(hb:bQ w B d ys)(hs:xs.length<=K)(hm:val xs=m)(hn:val ys=n)(h:n<=m)(hr:m-n=s)(hK:K<=70368744177664):
 Calls Tryz.prog 102 #[.slice A xs.length c, .slice B ys.length d] w (kF w s):=by
 subst hm hn hr;exact C8 A B xs ys c d w ha hb (by omega) h
theorem qh(ha:bQ w A c xs)(hb:bQ w B d ys)(hs:xs.length<=K)(hm:val xs=m)(hn:val ys=n)(h0:n≠0)(hq:m/n=s)(hr:m % n=t)(hK:K<70368744177664):
 Calls Tryz.prog 99 #[.slice A xs.length c, .slice B ys.length d] w (mM w s t):=by
 subst hm hn hq hr;exact uj A B xs ys c d w ha hb (by omega) h0
theorem Uh(ha:bQ w A c xs)(hs:xs.length<=K)(hm:val xs=s)(hK:K<=70368744177664):
 Calls Tryz.prog 97 #[.slice A xs.length c] w (dW w s):=by
 subst hm;exact qU A xs c w ha (by omega)
theorem qX(x:Int)(ha:bQ w A c xs)(hb:bQ w B d ys)(hm:val xs=m)(hn:val ys=n)(h:gq m n=x):
 Calls Tryz.prog 60 #[.slice A xs.length c, .slice B ys.length d] w (pF w x):=by
 subst hm hn h;refine(dZ A B xs ys c d w ha hb).mono ?_;rintro e w' ⟨rfl,k,rfl⟩;exact⟨rfl,below_drewN (aq _ _) k⟩
end
theorem iI{n:Nat}(h:n<Ba*Ba):(limbs n).length<=2:=fA.2 h
/- Contracts with named results: the references' differences and comparison; sizes. -/
theorem AQ{m n:Nat}(h:n<=m):0<=gq m n:=by
 rcases Nat.lt_or_eq_of_le h with h|h
 ·rw[iE h];omega
 ·rw[jY h.symm];omega
theorem oH{m n s k l j:Nat}(hm:(limbs m).length<=k)(hn:(limbs n).length<=l)(h:m*n=s)(hk:k+l<=j):(limbs s).length<=j:=by
 subst h;have:=mQ m n;omega
section
variable (A B:Option Addr)(xs ys:List Nat)(c d:Nat)(w:World)(m n s t:Nat)(K L:Nat)
end
end Go.Proofs.YtkmpoleajjgfaaaGreat
namespace Gm
theorem uz(k:Nat):Ba ^ k=2 ^ (32*k):=by rw[Nat.pow_mul];rfl
theorem Ui{us:List Nat}{m:Nat}(h:Lb us)(hl:us.length=m+1)(h0:us[m]?.getD 0≠0):nb (val us)=32*m+nb (us[m]?.getD 0):=by
 have hs:=jf (xs:=us) (i:=m) (by omega);rw[List.drop_of_length_le (show us.length<=m+1 by omega)]at hs;simp only[val,Nat.mul_zero,Nat.add_zero]at hs;have hlow:=dG h m;generalize us[m]?.getD 0=x at*;have h1:=AA x;have h2:=KN h0
 have h4:1<=nb x:=by
  rcases aM (nb x)with h|h
  ·exact absurd (ua.1 h) h0
  ·exact h
 obtain⟨k,hk⟩:∃k,nb x=k+1:=⟨nb x-1,by omega⟩;rw[hk]at h1 h2⊢;rw[Nat.add_sub_cancel]at h2;rw[<-Nat.add_assoc];apply Y6
 ·rw[Nat.pow_add,<-uz,hs];have:=aO (Ba ^ m) h2;omega
 ·rw[Nat.add_assoc,Nat.pow_add,<-uz,hs];have:=aO (Ba ^ m) (show x+1<=2 ^ (k+1)from h1);rw[Nat.mul_add,Nat.mul_one]at this;omega
end Gm
namespace Go.Proofs.YtkmpoleajjgfaaaGreat
open Go.RowKit Gm
section
variable (A:Option Addr)(xs:List Nat)(c:Nat)(w:World)(m:Nat)(K:Nat)
def Ie(w:World)(v:Int)(b:Bool)(e:Ending)(w':World):Prop:=e= .returned (.tuple #[.int .u64 v, .bool b])/\Below w.heap.size w w'
theorem jO(ha:bQ w A c xs)(hm:val xs=m)(h:m<Ba*Ba):Calls Tryz.prog 93 #[.slice A xs.length c] w (Ie w (m:Int) true):=by
 subst hm;refine(C9 A xs c w ha h).mono ?_;rintro e w' ⟨rfl,rfl⟩;exact⟨rfl,aq _ _⟩
theorem yK(ha:bQ w A c xs)(hm:val xs=m)(h:Ba*Ba<=m):Calls Tryz.prog 93 #[.slice A xs.length c] w (Ie w 0 false):=by
 subst hm;refine(G9 A xs c w ha h).mono ?_;rintro e w' ⟨rfl,rfl⟩;exact⟨rfl,aq _ _⟩
theorem FW(K:Nat)(ha:bQ w A c xs)(hs:xs.length<=K)(hm:val xs=m)(h:m<Ba*Ba)(hK:K<=70368744177664):Calls Tryz.prog 153 #[.slice A xs.length c] w (Ie w (m:Int) true):=by
 subst hm;exact nP A xs c w ha (by omega) h
theorem sU(K:Nat)(ha:bQ w A c xs)(hs:xs.length<=K)(hm:val xs=m)(h:Ba*Ba<=m)(hK:K<=70368744177664):Calls Tryz.prog 153 #[.slice A xs.length c] w (Ie w 0 false):=by
 subst hm;exact DG A xs c w ha (by omega) h
end
end Go.Proofs.YtkmpoleajjgfaaaGreat
namespace Gm
theorem AR{A k:Nat}:A/2 ^ k=2* (A/2 ^ (k+1))+A/2 ^ k % 2:=by
 rw[Nat.pow_succ,<-Nat.div_div_eq_div_mul];omega
theorem Uj{X B t:Nat}(hB:0<B)(h:2* (X % B)+t<B):(2*X+t) % B=2* (X % B)+t/\(2*X+t)/B=2* (X/B):=by
 have h1:=Nat.mod_add_div X B
 have h2:=(Nat.div_mod_unique (a:=2*X+t) (c:=2* (X % B)+t) (d:=2* (X/B)) hB).2 ⟨by
  generalize X % B=r at*;generalize X/B=q at*;rw[<-h1];grind,h⟩
 exact⟨h2.2,h2.1⟩
theorem Pb{X B t:Nat}(hB:0<B)(ht:t<=1)(h:B<=2* (X % B)+t):(2*X+t) % B=2* (X % B)+t-B/\(2*X+t)/B=2* (X/B)+1:=by
 have h1:=Nat.mod_add_div X B;have h3:=Nat.mod_lt X hB
 have h2:=(Nat.div_mod_unique (a:=2*X+t) (c:=2* (X % B)+t-B) (d:=2* (X/B)+1) hB).2 ⟨by
  generalize X % B=r at*;generalize X/B=q at*;have e:B* (2*q+1)=B*q+B*q+B:=by grind
  rw[e];omega,by omega⟩
 exact⟨h2.2,h2.1⟩
theorem Uk{x t s:Nat}(hx:x=2 ^ (s+1)*t):x|||2 ^ s=x+2 ^ s:=by
 have h3:=Nat.shiftLeft_add_eq_or_of_lt (show 2 ^ s<2 ^ (s+1)from Nat.pow_lt_pow_right (by decide) (by omega)) t;rw[Nat.shiftLeft_eq,Nat.mul_comm]at h3;rw[hx,h3]
theorem Pc{qs:List Nat}{d s Y:Nat}(hq:Lb qs)(hd:d<qs.length)(hs:s<32)(hv:val qs=Y*2 ^ (32*d+s+1)):
 (∃t,qs[d]?.getD 0=2 ^ (s+1)*t)/\qs[d]?.getD 0+2 ^ s<Ba/\val (qs.set d (qs[d]?.getD 0+2 ^ s))=val qs+2 ^ (32*d+s):=by
 have h1:=yC qs hq d (by omega);rw[fC hd]at h1;have hx:=hq.get d;have e1:val qs=Ba ^ d* (2 ^ (s+1)*Y):=by rw[hv,uz,Nat.add_assoc,Nat.pow_add];grind
 have e2:val qs/Ba ^ d=2 ^ (s+1)*Y:=by rw[e1,Nat.mul_div_cancel_left _ (Nat.pow_pos cR)]
 have hp:2 ^ (s+1)*2 ^ (31-s)=Ba:=by rw[<-Nat.pow_add,show s+1+ (31-s)=32 by omega];rfl
 rw[e2]at h1;have e:=fD (qs[d]?.getD 0+2 ^ s) hd;generalize qs[d]?.getD 0=x at*
 have hdv:2 ^ (s+1)∣x:=by
  have h2:2 ^ (s+1)∣x+Ba*val (qs.drop (d+1)):=⟨Y,h1.symm⟩;have h3:2 ^ (s+1)∣Ba*val (qs.drop (d+1)):=⟨2 ^ (31-s)*val (qs.drop (d+1)),by rw[<-Nat.mul_assoc,hp]⟩;exact(Nat.dvd_add_left h3).1 h2
 obtain⟨t,ht⟩:=hdv;refine⟨⟨t,ht⟩,?_,?_⟩
 ·have h4:2 ^ (s+1)*t<2 ^ (s+1)*2 ^ (31-s):=by rw[hp,<-ht];exact hx
  have h5:t<2 ^ (31-s):=Nat.lt_of_mul_lt_mul_left h4;have h6:2 ^ (s+1)* (t+1)<=Ba:=by rw[<-hp];exact aO _ h5
  rw[Nat.mul_add,Nat.mul_one,<-ht,Nat.pow_succ]at h6;have:0<2 ^ s:=Nat.pow_pos (by decide);omega
 ·rw[Nat.mul_add]at e;rw[Nat.pow_add 2 (32*d) s,<-uz];omega
end Gm
namespace Go.Proofs.YtkmpoleajjgfaaaGreat
open Go.RowKit Gm
set_option maxHeartbeats 1000000 in
theorem Pf(A:Option Addr)(xs:List Nat)(c:Nat)(w:World)(h:bQ w A c xs)(hs:xs.length<=70368744177664):
 Calls Tryz.prog 154 #[.slice A xs.length c] w (pF w ((nb (val xs):Nat):Int)):=by
 have la:=bh h.lb
 by_cases h0:val xs=0
 ·have hl:(limbs (val xs)).length=0:=by rw[h0,bM];rfl
  have HN:=ah (show nb (val xs)=0 by rw[h0,lI]);have HL:=ah hl;clear hl h0;go_enter Tryz.func154,Tryz.ntmps154
  go_wp2_with fail
  refine(fe _ _ _ _ h hs).mono ?_;rintro e w1 ⟨A1,c1,rfl,r1,b1⟩;rw[HL.out];go_wp2_with fail
  go_ret;exact⟨by rw[HN.out];rfl,b1⟩
 ·have gX:=mJ h0;have hp:0< (limbs (val xs)).length:=List.length_pos_iff.2 (fun e=>h0 (bV.1 e));have EV:=aV (val xs);have hb:=ig (val xs);go_enter Tryz.func154,Tryz.ntmps154
  go_wp2_with fail
  refine(fe _ _ _ _ h hs).mono ?_;rintro e w1 ⟨A1,c1,rfl,r1,b1⟩;obtain⟨us,eus⟩:=xeq (limbs (val xs));rw[eus]at gX hp EV hb la r1⊢;obtain⟨m,em⟩:∃m,us.length=m+1:=⟨us.length-1,by omega⟩;rw[em,Nat.add_sub_cancel]at gX;have hn:=Ui hb em gX;rw[EV]at hn;obtain⟨b,o,rfl,hbl,hcell⟩:=r1.lim.at_ (by omega);have hx:=hcell m (by omega);have bx:us[m]?.getD 0<4294967296:=hb.get m;obtain⟨x,ex⟩:=xeq (us[m]?.getD 0);rw[ex]at hx bx hn;have JT:nb x<=32:=xu bx;have hm:m<=70368744177664:=by omega
  have HN:=ah hn;have hne:(((m:Int)+1)==0)=false:=by rw[beq_eq_false_iff_ne];omega
  rw[em];clear eus em gX hn ex hcell EV hp la;go_wp2_with fail
  go_loop [3,4] (fun t v=>∃k y:Nat,t= .int .i64 k/\v= .int .u32 y/\y<4294967296/\k<=32*m+32/\Hid (k+nb y=nb (val xs))) (fun _ v=>(intOf v).toNat)
  case atStart=>exact⟨32*m,x,by go_num,rfl,bx,by omega,ah HN.out.symm⟩
  case round=>
   obtain⟨k,y,rfl,rfl,hy,hk,hH⟩:=hrel
   by_cases hy0:y=0
   ·subst hy0;have HE:=ah (show nb (val xs)=k by have:=hH.out;rw[lI]at this;omega);go_wp2
    go_ret;exact⟨by rw[HE.out];rfl,b1⟩
   ·have hpos:(0:Int)< (y:Int):=by omega
    have hnb:=qV hy0;have hb2:nb (val xs)<=32*m+32:=by rw[HN.out];omega
    have HE:Hid ((k+1)+nb (y/2)=nb (val xs)):=ah (by have:=hH.out;omega);have hk2:k+1<=32*m+32:=by have:=HE.out;omega
    clear hnb hb2;go_wp2
    go_round
    case rel=>exact⟨k+1,y/2,by go_num,by go_num,by omega,hk2,HE⟩
    case measure=>simp[intOf];omega
set_option maxHeartbeats 1000000 in
theorem Zp(A:Option Addr)(xs:List Nat)(c i:Nat)(w:World)(h:bQ w A c xs)(hi:i<=9223372036854775807):
 Calls Tryz.prog 156 #[.slice A xs.length c, .int .i64 (i:Int)] w fun e w'=>e= .returned (.int .u32 ((val xs/2 ^ i % 2:Nat):Int))/\w=w':=by
 obtain⟨d,hd⟩:=xeq (i/32);obtain⟨s,hs⟩:=xeq (i % 32);have e1:(i:Int)/32=(d:Int):=by omega
 have e2:(i:Int) % 32=(s:Int):=by omega
 have e3:(i:Int).tmod 32=(s:Int):=by rw[Int.tmod_eq_emod_of_nonneg (by omega)];exact e2
 have h32:s<32:=by omega
 rcases aN d xs.length with hlt|hge
 ·have hv:=FN h.lb hd hs (aR hlt);rw[hv,fC hlt];obtain⟨b,o,rfl,hbl,hcell⟩:=h.at_ (by omega);have hx:=hcell d hlt;have bx:xs[d]?.getD 0<4294967296:=h.lb.get d;obtain⟨x,ex⟩:=xeq (xs[d]?.getD 0);rw[ex]at hx bx⊢
  have hmod:(x+Ba*val (xs.drop (d+1)))/2 ^ s % 2=x/2 ^ s % 2:=by
   have hp:2 ^ s*2 ^ (31-s)*2=Ba:=by rw[<-Nat.pow_add,<-Nat.pow_succ,show(s+ (31-s)).succ=32 by omega];rfl
   rw[show x+Ba*val (xs.drop (d+1))=x+2 ^ s* (2 ^ (31-s)*val (xs.drop (d+1))*2) by rw[<-hp];grind,Nat.add_mul_div_left _ _ (Nat.pow_pos (by decide)),Nat.add_mul_mod_self_right]
  rw[hmod];have hge':¬(xs.length:Int)<=(d:Int):=by omega
  have hand:bits .and .u32 ((x:Int)/2 ^ s) 1=((x/2 ^ s % 2:Nat):Int):=by
   have h1:(x:Int)/2 ^ s=((x/2 ^ s:Nat):Int):=by simp
   have h2:=u32_and_nat (x/2 ^ s) 1 (aP (Nat.div_le_self _ _) bx) (by decide);rw[Nat.and_one_is_mod]at h2;rw[h1];exact h2
  obtain⟨y,ey⟩:=xeq (x/2 ^ s % 2);rw[ey]at hand⊢;clear hd hs hv ex hcell hmod h ey;go_enter Tryz.func156,Tryz.ntmps156
  go_wp2_with fail
  go_ret;exact⟨rfl,rfl⟩
 ·have hz:val xs/2 ^ i=0:=AB h.lb (by omega);rw[hz];clear hz hd hs;have hge':(xs.length:Int)<=(d:Int):=by omega
  go_enter Tryz.func156,Tryz.ntmps156
  go_wp2_with fail
  go_ret;exact⟨rfl,rfl⟩
theorem K6(x s t:Nat)(hx:x=2 ^ (s+1)*t)(hb:x+2 ^ s<Ba):bits .or .u32 (x:Int) (2 ^ s % 4294967296)=((x+2 ^ s:Nat):Int):=by
 have h1:(2:Int)^ s % 4294967296=((2 ^ s:Nat):Int):=by
  have h2:(2:Int)^ s=((2 ^ s:Nat):Int):=by simp
  have h3:2 ^ s<4294967296:=aP (Nat.le_add_left _ _) hb;rw[h2];generalize 2 ^ s=P at h3⊢;omega
 rw[bU]at hb;rw[h1,u32_or_nat x (2 ^ s) (aP (Nat.le_add_right _ _) hb) (aP (Nat.le_add_left _ _) hb),Uk hx]
set_option maxHeartbeats 1000000 in
theorem wg(A B:Option Addr)(xs ys:List Nat)(c d:Nat)(w:World)(ha:bQ w A c xs)(hb:bQ w B d ys)(hs:xs.length<=70368744177664)(ht:ys.length<=70368744177664)(h0:val ys≠0)(h1:val xs<Ba*Ba)(h2:val ys<Ba*Ba):
 Calls Tryz.prog 129 #[.slice A xs.length c, .slice B ys.length d] w (mM w (val xs/val ys) (val xs % val ys)):=by
 have Oq:(((limbs (val ys)).length:Int)==0)=false:=by
  rw[beq_eq_false_iff_ne];intro e;exact h0 (bV.1 (List.eq_nil_of_length_eq_zero (by omega)))
 have lb:=bh hb.lb;go_enter Tryz.func129,Tryz.ntmps129
 go_wp2_with fail
 refine(fe _ _ _ _ hb ht).mono ?_;rintro e w1 ⟨A1,c1,rfl,r1,b1⟩;go_wp2_with fail
 refine(nP _ _ _ _ (ha.below b1) hs h1).mono ?_;rintro e w2 ⟨rfl,b2⟩;go_wp2_with fail
 refine(nP _ _ _ _ (r1.lim.below b2) (by omega) (by rw[aV];exact h2)).mono ?_;rintro e w3 ⟨rfl,b3⟩;rw[aV];have hB:Ba*Ba=18446744073709551616:=by decide
 rw[hB]at h1 h2;have hq:val xs/val ys<Ba*Ba:=aP (Nat.div_le_self _ _) (by rw[hB];exact h1);have hr:val xs % val ys<Ba*Ba:=aP (Nat.mod_le _ _) (by rw[hB];exact h1);have bP:Below w.heap.size w w3:=(b1.trans (b2.mono b1.size)).trans (b3.mono (ay b1.size b2.size));clear hB b1 b2 b3 r1;have hne:((val ys:Int)==0)=false:=by rw[beq_eq_false_iff_ne];omega
 have e3:((val xs:Nat):Int).tmod (val ys:Nat)=((val xs % val ys:Nat):Int):=by rw[Int.tmod_eq_emod_of_nonneg (by omega)];rfl
 have e4:((val xs:Nat):Int).tdiv (val ys:Nat)=((val xs/val ys:Nat):Int):=by rw[Int.tdiv_eq_ediv_of_nonneg (by omega)];rfl
 obtain⟨X,eX⟩:=xeq (val xs);obtain⟨Y,eY⟩:=xeq (val ys);rw[eX,eY]at e3 e4 hq hr;rw[eX]at h1;rw[eY]at h2 hne h0;rw[eX,eY];obtain⟨Q,eQ⟩:=xeq (X/Y);obtain⟨T,eT⟩:=xeq (X % Y);rw[eQ]at e4 hq⊢;rw[eT]at e3 hr⊢
 have w1':IntKind.u64.wrap (Q:Int)=(Q:Int):=by
  have hB:Ba*Ba=18446744073709551616:=by decide
  rw[IntKind.wrap_u64];omega
 have HQ:=ah (show val xs/val ys=Q by rw[eX,eY,eQ]);have HT:=ah (show val xs % val ys=T by rw[eX,eY,eT]);clear eQ eT Oq eX eY;go_wp2_with fail
 go_region_held3 (fun _=>True) (first|trivial|go_keep)
  (first
    |(go_at_call_of 108 (Value.int .u64 (Q:Int));refine(jC Q _ hq).mono ?_;rintro e w4 ⟨A4,c4,rfl,r4,b4⟩)
    |(go_at_call_of 108 (Value.int .u64 (T:Int));refine(jC T _ hr).mono ?_;rintro e w5 ⟨A5,c5,rfl,r5,b5⟩))
 have M9:w.heap.size<=w4.heap.size:=ay bP.size b4.size;have h4:=(r4.below b5).mono (lo':=w.heap.size) bP.size;have h5:=r5.mono (lo':=w.heap.size) M9;have h6:Below w.heap.size w w5:=(bP.drew.trans (b4.mono bP.size)).trans (b5.mono M9);clear r4 r5 b4 b5;go_wp2
 go_ret3
 rw[HQ.out,HT.out];exact⟨A4,c4,A5,c5,rfl,h4,h5,h6⟩
theorem FX(A:Option Addr)(xs:List Nat)(c k n:Nat)(w:World)(h:bQ w A c xs)(hk:xs.length=k)(hs:k<=70368744177664)(hv:val xs=n):
 Calls Tryz.prog 127 #[.slice A k c] w (dW w n):=by
 subst hk hv;exact fe A xs c w h hs
theorem Own.Fe{lo N i:Nat}{w:World}{A:Option Addr}{c:Nat}{xs:List Nat}(h:Own lo w A c xs)(hN:N<lo)(u:Value):Own lo (w.setCell ⟨N,i,none⟩ u) A c xs:=
 ⟨h.lb,h.cap,h.max,fun h0=>by
   obtain⟨b,off,e,hl,hlt,hc⟩:=h.cells h0;have hne:b≠N:=by omega
   have hh:=Below.heap_setCell w ⟨N,i,none⟩ u b hne;refine⟨b,off,e,hl,by simpa [World.setCell] using hlt,fun k hk=>?_⟩;obtain⟨h1,h2⟩:=hc k hk;exact⟨by rw[<-h1];simp only[World.cell?,hh],by rw[<-h2];simp only[World.frozen?,hh]⟩⟩
theorem Ul(A:Option Addr)(xs:List Nat)(c:Nat)(w:World)(m:Nat)(ha:bQ (w.alloc (.cells (cellsOf [1]) 75)) A c xs)(hs:xs.length<=70368744177661)(hm:val xs=m):
 Calls Tryz.prog 155 #[.slice A xs.length c, .slice (some ⟨w.heap.size,0,none⟩) 1 1] (w.alloc (.cells (cellsOf [1]) 75)) (dW (w.alloc (.cells (cellsOf [1]) 75)) (m+1)):=by
 subst hm;exact DC A _ xs [1] c 1 _ ha (Wh w [1] (qW _ (by decide)) (by decide)) (by omega) (by decide)
structure Bn(A B k r:Nat)(qs:List Nat):Prop where
 rem:r=A/2 ^ k % B
 quo:val qs=A/2 ^ k/B*2 ^ k
theorem Bn.ajx{A B k r:Nat}{qs:List Nat}(h:Bn A B k r qs)(hB:0<B):r<B:=by rw[h.rem];exact Nat.mod_lt _ hB
theorem Bn.no{A B k r t:Nat}{qs:List Nat}(h:Bn A B (k+1) r qs)(hB:0<B)(ht:A/2 ^ k % 2=t)(hlt:2*r+t<B):Bn A B k (2*r+t) qs:=by
 have hs:=AR (A:=A) (k:=k);rw[ht]at hs;rw[h.rem]at hlt⊢;obtain⟨h1,h2⟩:=Uj hB hlt;rw[<-hs]at h1 h2;refine⟨h1.symm,?_⟩;rw[h.quo,h2,Nat.pow_succ];grind
theorem Bn.yes{A B k r t:Nat}{qs ps:List Nat}(h:Bn A B (k+1) r qs)(hB:0<B)(ht:A/2 ^ k % 2=t)(hge:B<=2*r+t)(hp:val ps=val qs+2 ^ k):Bn A B k (2*r+t-B) ps:=by
 have hs:=AR (A:=A) (k:=k);rw[ht]at hs;have ht1:t<=1:=by omega
 rw[h.rem]at hge⊢;obtain⟨h1,h2⟩:=Pb hB ht1 hge;rw[<-hs]at h1 h2;refine⟨h1.symm,?_⟩;rw[hp,h.quo,h2,Nat.pow_succ];grind
theorem Bn.start{A B:Nat}{qs:List Nat}(h:val qs=0):Bn A B (nb A) 0 qs:=by
 have:A/2 ^ nb A=0:=Nat.div_eq_of_lt (AA A);exact⟨by rw[this];simp,by rw[this,h];simp⟩
theorem Bn.finish{A B r:Nat}{qs:List Nat}(h:Bn A B 0 r qs):val qs=A/B/\r=A % B:=by
 have h1:=h.quo;have h2:=h.rem;simp at h1 h2;exact⟨h1,h2⟩
theorem Um{xs:List Nat}(h:Lb xs):nb (val xs)<=32*xs.length:=xu (by rw[<-uz];exact fK h)
set_option maxHeartbeats 4000000 in
set_option maxRecDepth 100000 in
theorem nR(A B:Option Addr)(xs ys:List Nat)(c d:Nat)(w:World)(ha:bQ w A c xs)(hb:bQ w B d ys)(hs:xs.length<=70368744177660)(ht:ys.length<=70368744177660)(h0:val ys≠0)(u v:Int)(p q:Bool)(hpq:(p && q)=false)
 (hU:∀W,bQ W A c xs->Calls Tryz.prog 153 #[.slice A xs.length c] W (Ie W u p))
 (hV:∀W A1 c1,bQ W A1 c1 (limbs (val ys))->Calls Tryz.prog 153 #[.slice A1 (limbs (val ys)).length c1] W (Ie W v q)):
 Calls Tryz.prog 129 #[.slice A xs.length c, .slice B ys.length d] w (mM w (val xs/val ys) (val xs % val ys)):=by
 have Oq:(((limbs (val ys)).length:Int)==0)=false:=by
  rw[beq_eq_false_iff_ne];intro e;exact h0 (bV.1 (List.eq_nil_of_length_eq_zero (by omega)))
 have lb:=bh hb.lb;have CQ:=Um ha.lb;have hmk:=jg (↑xs.length) xs.length rfl (by omega);have HU:=ah hU;have HV:=ah hV;clear hU hV;go_enter Tryz.func129,Tryz.ntmps129
 go_wp2_with fail
 refine(fe _ _ _ _ hb (by omega)).mono ?_;rintro e w1 ⟨A1,c1,rfl,r1,b1⟩;go_wp2_with fail
 refine(HU.out w1 (ha.below b1)).mono ?_;rintro e w2 ⟨rfl,b2⟩;have Zg:=r1.lim.below b2;go_wp2_with fail
 refine(HV.out w2 _ _ Zg).mono ?_;rintro e w3 ⟨rfl,b3⟩;have bP:Below w.heap.size w w3:=(b1.trans (b2.mono b1.size)).trans (b3.mono (ay b1.size b2.size));have ha3:=ha.below bP;have hy3:=Zg.below b3;clear b1 b2 b3 r1 Zg HU HV ha hb;have ha4:=ha3.below (bI w3 (.cells (cellsOf (zeros xs.length)) 75));have hcase:p=false∨(p=true/\q=false):=by cases p<;>cases q<;>simp_all
 rcases hcase with rfl|⟨rfl,rfl⟩
 all_goals
  clear hpq;go_wp2_with fail
  refine(Pf A xs c _ ha4 (by omega)).mono ?_;rintro e w4 ⟨rfl,b4⟩;have hrow:Row w4 w3.heap.size (zeros xs.length):=(Row.new w3 (zeros xs.length)).below b4 (by simp);have zK:Below w3.heap.size w3 w4:=(bI w3 _).trans (b4.mono (bI w3 _).size);clear ha4 b4 hmk Oq;have hst:=Bn.start (A:=val xs) (B:=val ys) (fV xs.length);have HST:=ah hst;clear hst;obtain⟨N,eN⟩:=xeq (nb (val xs));rw[eN]at CQ HST⊢;clear eN;have hg:w.heap.size<=w3.heap.size:=bP.size;go_wp2_with fail
  go_loopw [5,11] (fun r i wr=>∃(k rv cr:Nat) (Ar:Option Addr) (qs:List Nat),k<=N/\i= .int .i64 ((k:Int) -1)/\r= .slice Ar (limbs rv).length cr/\Own (w3.heap.size+1) wr Ar cr (limbs rv)/\qs.length=xs.length/\Lb qs/\Row wr w3.heap.size qs/\Below w3.heap.size w3 wr/\Hid (Bn (val xs) (val ys) k rv qs)) (fun _ i _=>(intOf i+1).toNat)
  case atStart=>exact⟨N,0,0,none,zeros xs.length,aj _,rfl,by rw[bM];rfl,by rw[bM];exact Own.nil _ _ _,cS _,gB _,hrow,zK,HST⟩
  case round=>
   obtain⟨k,rv,cr,Ar,qs,hk,ei,rfl,hr,rO,OO,hq,hbr,Zq⟩:=hrel;have Aa:=ah rO;clear rO hrow HST zK;have hpos:0<val ys:=by omega
   have Un:=hq.lt;rcases aM k with rfl|hp
   ·subst ei;obtain⟨f1,f2⟩:=Zq.out.finish;have HF1:=ah f1;have QN:=ah f2;have K7:=(hq.lim OO (by rw[Aa.out];omega))
    have xB:(limbs rv).length<=70368744177664:=by
     rw[f2];exact ay (bN (aR (Nat.mod_lt _ hpos))) (by omega)
    rw[Aa.out]at K7;clear f1 f2;go_wp2_with fail
    refine(FX _ qs xs.length xs.length (val xs/val ys) wr K7 Aa.out (by omega) HF1.out).mono ?_;rintro e w6 ⟨A6,c6,rfl,r6,b6⟩;go_wp2_with fail
    refine(FX Ar (limbs rv) cr (limbs rv).length (val xs % val ys) w6 (hr.lim.below b6) rfl xB (by rw[aV];exact QN.out)).mono ?_;rintro e w7 ⟨A7,c7,rfl,r7,b7⟩;have mr:Below w.heap.size w wr:=bP.trans (hbr.mono hg);have h6:=(r6.below b7).mono (lo':=w.heap.size) mr.size;have h7:=r7.mono (lo':=w.heap.size) (ay mr.size b6.size);have h8:Below w.heap.size w w7:=(mr.trans (b6.mono mr.size)).trans (b7.mono (ay mr.size b6.size));clear r6 r7 b6 b7;go_wp2
    go_ret3
    exact⟨A6,c6,A7,c7,rfl,h6,h7,h8⟩
   ·obtain⟨i,rfl⟩:∃i,k=i+1:=⟨k-1,by omega⟩;obtain rfl:=ei.trans (show Value.int .i64 (((i+1:Nat):Int) -1)= .int .i64 (i:Int) by congr 1;omega);clear ei;have K8:=Zq.out.ajx hpos;have hrl:(limbs rv).length<=70368744177660:=ay (bN (aR K8)) (by omega);have h2l:(limbs (rv+rv)).length<=70368744177661:=jZ hrl hrl;have h3l:(limbs (rv+rv+1)).length<=70368744177662:=jZ h2l (ay (iI (by decide)) (by omega));have hyl:(limbs (val ys)).length<=70368744177660:=by omega
    clear hp;go_wp2_with fail
    refine(DC Ar Ar (limbs rv) (limbs rv) cr cr wr hr.lim hr.lim (by omega) (by omega)).mono ?_;rintro e w6 ⟨A6,c6,rfl,r6,b6⟩;rw[aV]at r6⊢;have zL:Below w3.heap.size w3 w6:=hbr.trans (b6.mono hbr.size);go_wp2_with fail
    refine(Zp A xs c i w6 (ha3.below zL) (by omega)).mono ?_;rintro e w' ⟨rfl,rfl⟩;have hno:=Zq.out.no hpos rfl;have Uo:=fun ps=>Zq.out.yes (ps:=ps) hpos rfl;have htl:val xs/2 ^ i % 2<2:=Nat.mod_lt _ (by decide);obtain⟨t,et⟩:=xeq (val xs/2 ^ i % 2);rw[et]at htl hno⊢;simp only[et]at Uo;have HNO:=ah hno;have Pg:=ah Uo;clear et hno Uo;have anu:(i:Int)/32=((i/32:Nat):Int):=by omega
    have adp:(i:Int) % 32=((i % 32:Nat):Int):=by omega
    have Zr:(i:Int).tmod 32=((i % 32:Nat):Int):=by rw[Int.tmod_eq_emod_of_nonneg (by omega)];exact adp
    have hdl:i/32<xs.length:=by omega
    have hsl:i % 32<32:=Nat.mod_lt _ (by decide);obtain⟨⟨tt,htt⟩,hb1,hb2⟩:=Pc (qs:=qs) (d:=i/32) (s:=i % 32) (Y:=val xs/2 ^ (i+1)/val ys) OO (by rw[Aa.out];exact hdl) hsl (by rw[Zq.out.quo];congr 2;omega);have iX:=K6 _ _ tt htt hb1;rw[show 32* (i/32)+i % 32=i by omega]at hb2;obtain⟨D,eD⟩:=xeq (i/32);obtain⟨S,eS⟩:=xeq (i % 32);rw[eD]at anu hdl hb1 hb2 iX;rw[eS]at adp Zr hsl hb1 hb2 iX;obtain⟨x,ex⟩:=xeq (qs[D]?.getD 0);rw[ex]at hb1 hb2 iX;obtain⟨y,ey⟩:=xeq (x+2 ^ S);rw[ey]at hb1 hb2 iX;have EX:=ah ex;have wT:=ah hb2;have Co:=ah hb1;rw[bU]at hb1;clear eD eS ex ey htt hb2;have Wi:=hq.below b6 Un;have hy6:=hy3.below zL;have hl6:=r6.mono (lo':=w3.heap.size+1) Un;have Wj:w3.heap.size+1<=w6.heap.size:=ay Un b6.size;have anv:t=0∨t=1:=by omega
    clear hq hbr hr b6 r6 htl;rcases anv with rfl|rfl
    ·have e0:2*rv+0=rv+rv:=by omega
     have H0:=HNO.out;have H1:=Pg.out;rw[e0]at H0;simp only[e0]at H1;have Wk:=ah H0;have Nd:=ah H1;clear H0 H1 HNO Pg e0
     by_cases hfit:val ys<=rv+rv
     ·go_wp2_with fail
      refine(sS A6 A1 (limbs (rv+rv)) (limbs (val ys)) c6 c1 w6 hl6.lim hy6 (by omega) (by omega) (by rw[aV,aV];exact hfit)).mono ?_;rintro e w8 ⟨A8,c8,rfl,r8,b8⟩;rw[aV,aV]at r8⊢;have GX:=Wi.below b8 Wi.lt;have nD:=GX.cell (i:=D) (by rw[Aa.out];exact hdl);have hf8:=GX.frozen D;rw[EX.out]at nD;have hput:=GX.put D y (z:=(y:Int)) rfl;have vz:=Nd.out (qs.set D y) hfit wT.out;have Ff:=ah vz;clear vz;go_wp2_with fail
      go_roundw
      case rel=>exact⟨i,_,_,_,qs.set D y,by omega,rfl,rfl,(r8.mono Wj).Fe (Nat.lt_succ_self _) _,by rw[List.length_set];exact Aa.out,OO.set _ _ Co.out,hput,(zL.trans (b8.mono zL.size)).setCell (aj _) _,Ff⟩
      case measure=>simp[intOf]
     ·have vz:=Wk.out (by omega);have Ff:=ah vz;clear vz;go_wp2_with fail
      refine(yJ A6 A1 (limbs (rv+rv)) (limbs (val ys)) c6 c1 w6 hl6.lim hy6 (by omega) (by omega) (by rw[aV,aV];omega)).mono ?_;rintro e w8 ⟨rfl,b8⟩;go_wp2_with fail
      go_roundw
      case rel=>exact⟨i,_,_,_,qs,by omega,rfl,rfl,hl6.below b8,Aa.out,OO,Wi.below b8 Wi.lt,zL.trans (b8.mono zL.size),Ff⟩
      case measure=>simp[intOf]
    ·have e0:2*rv+1=rv+rv+1:=by omega
     have H0:=HNO.out;have H1:=Pg.out;rw[e0]at H0;simp only[e0]at H1;have Wk:=ah H0;have Nd:=ah H1;clear H0 H1 HNO Pg e0;have b0:=bI w6 (.cells (cellsOf [1]) 75);go_wp2_with fail
     refine(Ul A6 (limbs (rv+rv)) c6 w6 (rv+rv) (hl6.lim.below b0) h2l (aV _)).mono ?_;rintro e w7 ⟨A7,c7,rfl,r7,b7⟩;have b67:Below w6.heap.size w6 w7:=b0.trans (b7.mono b0.size);have QR:=zL.trans (b67.mono zL.size);have hq7:=Wi.below b67 Wi.lt;have hy7:=hy6.below b67;have Od:w3.heap.size+1<=w7.heap.size:=ay Wj b67.size;have hl7:=r7.mono (lo':=w3.heap.size+1) (ay Wj b0.size);clear Wi hy6 hl6 zL b0 b7 r7 b67
     by_cases hfit:val ys<=rv+rv+1
     ·go_wp2_with fail
      refine(sS A7 A1 (limbs (rv+rv+1)) (limbs (val ys)) c7 c1 w7 hl7.lim hy7 (by omega) (by omega) (by rw[aV,aV];exact hfit)).mono ?_;rintro e w8 ⟨A8,c8,rfl,r8,b8⟩;rw[aV,aV]at r8⊢;have GX:=hq7.below b8 hq7.lt;have nD:=GX.cell (i:=D) (by rw[Aa.out];exact hdl);have hf8:=GX.frozen D;rw[EX.out]at nD;have hput:=GX.put D y (z:=(y:Int)) rfl;have vz:=Nd.out (qs.set D y) hfit wT.out;have Ff:=ah vz;clear vz;go_wp2_with fail
      go_roundw
      case rel=>exact⟨i,_,_,_,qs.set D y,by omega,rfl,rfl,(r8.mono Od).Fe (Nat.lt_succ_self _) _,by rw[List.length_set];exact Aa.out,OO.set _ _ Co.out,hput,(QR.trans (b8.mono QR.size)).setCell (aj _) _,Ff⟩
      case measure=>simp[intOf]
     ·have vz:=Wk.out (by omega);have Ff:=ah vz;clear vz;go_wp2_with fail
      refine(yJ A7 A1 (limbs (rv+rv+1)) (limbs (val ys)) c7 c1 w7 hl7.lim hy7 (by omega) (by omega) (by rw[aV,aV];omega)).mono ?_;rintro e w8 ⟨rfl,b8⟩;go_wp2_with fail
      go_roundw
      case rel=>exact⟨i,_,_,_,qs,by omega,rfl,rfl,hl7.below b8,Aa.out,OO,hq7.below b8 hq7.lt,QR.trans (b8.mono QR.size),Ff⟩
      case measure=>simp[intOf]
theorem qY(A B:Option Addr)(xs ys:List Nat)(c d:Nat)(w:World)(ha:bQ w A c xs)(hb:bQ w B d ys)(hs:xs.length<=70368744177660)(ht:ys.length<=70368744177660)(h0:val ys≠0):
 Calls Tryz.prog 129 #[.slice A xs.length c, .slice B ys.length d] w (mM w (val xs/val ys) (val xs % val ys)):=by
 have lb:=bh hb.lb;rcases aN (val xs) (Ba*Ba)with h1|h1
 ·rcases aN (val ys) (Ba*Ba)with h2|h2
  ·exact wg A B xs ys c d w ha hb (by omega) (by omega) h0 h1 h2
  ·exact nR A B xs ys c d w ha hb hs ht h0 (val xs:Nat) 0 true false rfl (fun W hW=>FW A xs c W (val xs) 70368744177660 hW hs rfl h1 (by omega)) (fun W A1 c1 hW=>sU A1 _ c1 W (val ys) 70368744177660 hW (by omega) (aV _) h2 (by omega))
 ·rcases aN (val ys) (Ba*Ba)with h2|h2
  ·exact nR A B xs ys c d w ha hb hs ht h0 0 (val ys:Nat) false true rfl (fun W hW=>sU A xs c W (val xs) 70368744177660 hW hs rfl h1 (by omega)) (fun W A1 c1 hW=>FW A1 _ c1 W (val ys) 70368744177660 hW (by omega) (aV _) h2 (by omega))
  ·exact nR A B xs ys c d w ha hb hs ht h0 0 0 false false rfl (fun W hW=>sU A xs c W (val xs) 70368744177660 hW hs rfl h1 (by omega)) (fun W A1 c1 hW=>sU A1 _ c1 W (val ys) 70368744177660 hW (by omega) (aV _) h2 (by omega))
section
variable (A B:Option Addr)(xs ys:List Nat)(c d:Nat)(w:World)(m n s t:Nat)(K L:Nat)
end
end Go.Proofs.YtkmpoleajjgfaaaGreat
namespace Gm
theorem Ph{xs:List Nat}{m s:Nat}(h:Lb xs)(hl:xs.length<=m+3)(hs:s<=32):
 val xs/ (Ba ^ m*2 ^ (32-s))=(xs[m+2]?.getD 0*Ba+xs[m+1]?.getD 0)*2 ^ s+xs[m]?.getD 0/2 ^ (32-s):=by
 have hz:∀k,m+3<=k->xs[k]?.getD 0=0:=fun k hk=>by rw[aQ (by omega)];rfl
 have h3:val (xs.take (m+3))=val xs:=eI hz;rw[cM,cM,cM]at h3;have hlow:=dG h m;rw[<-h3,<-Nat.div_div_eq_div_mul];generalize xs[m+2]?.getD 0=a;generalize xs[m+1]?.getD 0=b;generalize xs[m]?.getD 0=c
 have e1:val (xs.take m)+Ba ^ m*c+Ba ^ (m+1)*b+Ba ^ (m+2)*a=val (xs.take m)+Ba ^ m* (c+Ba* (a*Ba+b)):=by
  rw[Nat.pow_succ,Nat.pow_succ];grind
 rw[e1,Nat.add_mul_div_left _ _ (Nat.pow_pos cR),Nat.div_eq_of_lt hlow,Nat.zero_add];have hp:2 ^ (32-s)*2 ^ s=Ba:=by rw[<-Nat.pow_add,show 32-s+s=32 by omega];rfl
 have e2:c+Ba* (a*Ba+b)=c+2 ^ (32-s)* ((a*Ba+b)*2 ^ s):=by rw[<-hp];grind
 rw[e2,Nat.add_mul_div_left _ _ (Nat.pow_pos (by decide)),Nat.add_comm]
end Gm
namespace Go.Proofs.YtkmpoleajjgfaaaGreat
open Go.RowKit Gm
set_option maxHeartbeats 1000000 in
theorem DH(A:Option Addr)(xs:List Nat)(c i g:Nat)(w:World)(z:Int)(hz:z=(i:Int))(h:bQ w A c xs)(hg:w.cell? ⟨g,0,none⟩=some (.slice A xs.length c)):
 Calls Tryz.prog 166 #[.int .i64 z, .pointer (some ⟨g,0,none⟩)] w fun e w'=>e= .returned (.int .u64 ((xs[i]?.getD 0:Nat):Int))/\w'=w:=by
 subst hz
 by_cases hi:i<xs.length
 ·obtain⟨b,o,rfl,hb,hc⟩:=h.at_ (by omega);have hx:=hc i hi;have bx:xs[i]?.getD 0<4294967296:=h.lb.get i;obtain⟨x,ex⟩:=xeq (xs[i]?.getD 0);rw[ex]at hx bx⊢;clear ex hc h;have hi2:(i:Int)< (xs.length:Int):=by omega
  go_enter Tryz.func166,Tryz.ntmps166
  go_wp2
  go_ret;exact⟨rfl,rfl⟩
 ·have ex:xs[i]?.getD 0=0:=by rw[aQ (by omega)];rfl
  rw[ex];clear ex;have hi2:¬(i:Int)< (xs.length:Int):=by omega
  go_enter Tryz.func166,Tryz.ntmps166
  go_wp2
  go_ret;exact⟨rfl,rfl⟩
set_option maxHeartbeats 1000000 in
theorem K9(A:Option Addr)(xs:List Nat)(c m s:Nat)(w:World)(h:bQ w A c xs)(hl:xs.length<=m+3)(hm:m<=70368744177664)(h32:s<32)(hfit:xs[m+2]?.getD 0*2 ^ s<Ba):
 Calls Tryz.prog 149 #[.slice A xs.length c, .int .i64 ((m:Int)+3), .int .i64 (s:Int)] w fun e w'=>e= .returned (.int .u64 ((val xs/ (Ba ^ m*2 ^ (32-s)):Nat):Int))/\Below w.heap.size w w':=by
 have hb:=bI w (.cells #[.slice A xs.length c] 41);have hcell:(w.alloc (.cells #[.slice A xs.length c] 41)).cell? ⟨w.heap.size,0,none⟩=some (.slice A xs.length c):=by go_simp
 have h2:=h.below hb;have b2:xs[m+2]?.getD 0<4294967296:=h.lb.get _;have b1:xs[m+1]?.getD 0<4294967296:=h.lb.get _;have b0:xs[m]?.getD 0<4294967296:=h.lb.get _;have Zt:=Ph h.lb hl (aR h32);rw[Zt];have HC:=ah hcell;have c2:=fun n=>DH A xs c (m+2) w.heap.size ((w.alloc (.cells #[.slice A xs.length c] 41)).drewN n) ((m:Int)+2) (by omega) (h2.drewN n) hcell;have c1:=fun n=>DH A xs c (m+1) w.heap.size ((w.alloc (.cells #[.slice A xs.length c] 41)).drewN n) ((m:Int)+1) (by omega) (h2.drewN n) hcell;have c0:=fun n=>DH A xs c m w.heap.size ((w.alloc (.cells #[.slice A xs.length c] 41)).drewN n) (m:Int) rfl (h2.drewN n) hcell;obtain⟨x2,e2⟩:=xeq (xs[m+2]?.getD 0);obtain⟨x1,e1⟩:=xeq (xs[m+1]?.getD 0);obtain⟨x0,e0⟩:=xeq (xs[m]?.getD 0);simp only[e2]at c2 b2 hfit⊢;simp only[e1]at c1 b1⊢;simp only[e0]at c0 b0⊢;have C2:=ah c2;have C1:=ah c1;have C0:=ah c0;clear Zt e2 e1 e0 c2 c1 c0 hcell HC;have i1:IntKind.i64.wrap ((m:Int)+3-1)=(m:Int)+2:=by rw[IntWalk.i64_in _ (by omega)];omega
 have i2:IntKind.i64.wrap ((m:Int)+3-2)=(m:Int)+1:=by rw[IntWalk.i64_in _ (by omega)];omega
 have i3:IntKind.i64.wrap ((m:Int)+3-3)=(m:Int):=by rw[IntWalk.i64_in _ (by omega)];omega
 have i4:IntKind.u64.wrap ((x2:Int)*4294967296)=(x2:Int)*4294967296:=by rw[IntKind.wrap_u64];omega
 have iX:=tP x1 x2 b1 b2;obtain⟨t,et⟩:=xeq (32-s);have i5:IntKind.i64.wrap (32- (s:Int))=(t:Int):=by rw[IntWalk.i64_in _ (by omega)];omega
 have hp:2 ^ t*2 ^ s=Ba:=by rw[<-Nat.pow_add,show t+s=32 by omega];rfl
 have hlow:x0/2 ^ t<2 ^ s:=Nat.div_lt_of_lt_mul (by rw[hp];exact b0)
 have hPb:(x1+4294967296*x2)*2 ^ s<18446744073709551616:=by
  have h1:x1+4294967296*x2<4294967296* (x2+1):=by omega
  have h2:x2*2 ^ s+2 ^ s<=Ba:=by
   have h3:x2*2 ^ s<2 ^ t*2 ^ s:=by rw[hp];exact hfit
   have h4:x2<2 ^ t:=Nat.lt_of_mul_lt_mul_right h3;have h5:(x2+1)*2 ^ s<=2 ^ t*2 ^ s:=aH _ h4;rw[hp,Nat.add_mul]at h5;omega
  have h6:(x1+4294967296*x2)*2 ^ s<4294967296* (x2+1)*2 ^ s:=Nat.mul_lt_mul_of_pos_right h1 (Nat.pow_pos (by decide))
  have h7:4294967296* (x2+1)*2 ^ s<=4294967296*4294967296:=by
   rw[Nat.mul_assoc];exact aO _ (by rw[Nat.add_mul,Nat.one_mul];exact h2)
  exact ak h6 h7
 have i6:IntKind.u64.wrap (((x1+4294967296*x2:Nat):Int)*2 ^ s)=(((x1+4294967296*x2)*2 ^ s:Nat):Int):=by
  have e:((x1+4294967296*x2:Nat):Int)*2 ^ s=(((x1+4294967296*x2)*2 ^ s:Nat):Int):=by simp
  rw[e,IntKind.wrap_u64];generalize (x1+4294967296*x2)*2 ^ s=P at*;omega
 have i7:(x0:Int)/2 ^ t=((x0/2 ^ t:Nat):Int):=by simp
 have QS:bits .or .u64 (((x1+4294967296*x2)*2 ^ s:Nat):Int) ((x0/2 ^ t:Nat):Int)=(((x2*Ba+x1)*2 ^ s+x0/2 ^ t:Nat):Int):=by
  rw[u64_or_nat _ _ hPb (aP (Nat.div_le_self _ _) (by omega))];have h3:=Nat.shiftLeft_add_eq_or_of_lt hlow (x1+4294967296*x2);rw[Nat.shiftLeft_eq]at h3;rw[<-h3,bU,Nat.mul_comm x2,Nat.add_comm (4294967296*x2)]
 rw[et];obtain⟨V,eV⟩:=xeq (x1+4294967296*x2);rw[eV]at iX QS i6 hPb;obtain⟨P,eP⟩:=xeq (V*2 ^ s);rw[eP]at QS i6 hPb;obtain⟨L,eL⟩:=xeq (x0/2 ^ t);rw[eL]at QS i7⊢;obtain⟨Z,eZ⟩:=xeq ((x2*Ba+x1)*2 ^ s+L);rw[eZ]at QS⊢;have i8:min t 64=t:=Nat.min_eq_left (by omega);clear et eV eP eL eZ hp hlow hPb hfit;go_enter Tryz.func149,Tryz.ntmps149
 go_wp2_with fail
 go_quiet (first
  |(go_at_call 166;with_reducible exact Calls.quiet_of_same (C2.out _))
  |(go_at_call 166;with_reducible exact Calls.quiet_of_same (C1.out _))
  |(go_at_call 166;with_reducible exact Calls.quiet_of_same (C0.out _)))
 go_wp2
 go_ret;exact⟨rfl,below_drewN hb _⟩
theorem AU(A:Option Addr)(xs:List Nat)(c m s:Nat)(w:World)(D Y k:Nat)(z:Int)(hk:xs.length=k)(hz:z=(m:Int)+3)(hD:Ba ^ m*2 ^ (32-s)=D)(hY:val xs/D=Y)(h:bQ w A c xs)(hl:xs.length<=m+3)(hm:m<=70368744177664)(h32:s<32)(hfit:xs[m+2]?.getD 0*2 ^ s<Ba):
 Calls Tryz.prog 149 #[.slice A k c, .int .i64 z, .int .i64 (s:Int)] w fun e w'=>e= .returned (.int .u64 (Y:Int))/\Below w.heap.size w w':=by
 subst hk hz hD hY;exact K9 A xs c m s w h hl hm h32 hfit
theorem Ig{X Y x y u0 u1 u2 v0 v1 v2:Nat}{even:Bool}(h:LI X Y x y u0 u1 u2 v0 v1 v2 even)(hy:v2<=y):u1+x/y*u2<=Y:=by
 have ypos:0<y:=by have:=h.wY;omega
 have hu:=h.hu;have hm:=Nat.mod_add_div x y;generalize x/y=q at*;generalize x % y=r at*;have e2:y* (u1+q*u2)+r*u2=Y:=by rw[<-hm]at hu;grind
 have h5:1* (u1+q*u2)<=y* (u1+q*u2):=aH _ ypos;omega
theorem DJ{B N:Nat}{a w:World}(h:Below B a w)(hN:B<=N)(v0 v1 v2 v3 v4:Value):Below B a (((((w.setCell ⟨N,0,none⟩ v0).setCell ⟨N,1,none⟩ v1).setCell ⟨N,2,none⟩ v2).setCell ⟨N,3,none⟩ v3).setCell ⟨N,4,none⟩ v4):=
 ((((h.setCell hN _).setCell hN _).setCell hN _).setCell hN _).setCell hN _
def La(X Y:Nat)(w:World)(e:Ending)(w':World):Prop:=
 ∃(x y u0 u1 u2 v0 v1 v2:Nat) (ev:Bool),LI X Y x y u0 u1 u2 v0 v1 v2 ev/\u0<Ba*Ba/\u1<Ba*Ba/\v0<Ba*Ba/\v1<Ba*Ba/\
  e= .returned (.agg #[.int .u64 (u0:Int), .int .u64 (u1:Int), .int .u64 (v0:Int), .int .u64 (v1:Int), .bool ev])/\Below w.heap.size w w'
set_option maxHeartbeats 4000000 in
set_option maxRecDepth 100000 in
theorem xC(A B:Option Addr)(us vs:List Nat)(c d m s D:Nat)(w:World)(ha:bQ w A c us)(hb:bQ w B d vs)(hl:us.length=m+3)(hm:m<=70368744177660)(h0:us[m+2]?.getD 0≠0)(hle:val vs<=val us)(hvl:vs.length<=m+3)(hs:32-nb (us[m+2]?.getD 0)=s)(hD:Ba ^ m*2 ^ (32-s)=D):
 Calls Tryz.prog 123 #[.slice A (m+3) c, .slice B vs.length d] w (La (val us/D) (val vs/D) w):=by
 obtain⟨b,o,rfl,hbl,hc⟩:=ha.at_ (by omega);have hx:=hc (m+2) (by omega);have bx:us[m+2]?.getD 0<4294967296:=ha.lb.get (m+2);obtain⟨h32,_,hfit⟩:=ug (x:=us[m+2]?.getD 0) (s:=s) bx h0 hs.symm
 have SF:vs[m+2]?.getD 0*2 ^ s<Ba:=by
  have h1:vs[m+2]?.getD 0<=us[m+2]?.getD 0:=by
   rcases aN (us[m+2]?.getD 0) (vs[m+2]?.getD 0)with hh|hh
   ·exfalso
    have anx:m+2<vs.length:=by
     rcases aN (m+2) vs.length with h|h
     ·exact h
     ·rw[aQ h]at hh;simp at hh
    have:=tM (xs:=us) (ys:=vs) (i:=m+2) ha.lb (by omega) anx (by rw[List.drop_of_length_le (by omega),List.drop_of_length_le (by omega)]) hh;omega
   ·exact hh
  exact aP (aH _ h1) hfit
 obtain⟨x,ex⟩:=xeq (us[m+2]?.getD 0);rw[ex]at hx bx hs;have hdl:val vs/D<=val us/D:=Nat.div_le_div_right hle;obtain⟨X,eX⟩:=xeq (val us/D);obtain⟨Y,eY⟩:=xeq (val vs/D)
 have hXb:X<Ba*Ba:=by
  rw[<-eX];apply Nat.div_lt_of_lt_mul;have h1:=fK ha.lb;rw[hl]at h1;have hsp:=jf (xs:=us) (i:=m+2) (by omega);rw[List.drop_of_length_le (show us.length<=m+2+1 by omega)]at hsp;simp only[val,Nat.mul_zero,Nat.add_zero]at hsp;have hlow:=dG ha.lb (m+2);have hp:2 ^ (32-s)*2 ^ s=Ba:=by rw[<-Nat.pow_add,show 32-s+s=32 by omega];rfl
  have h4:us[m+2]?.getD 0<2 ^ (32-s):=by
   have h3:us[m+2]?.getD 0*2 ^ s<2 ^ (32-s)*2 ^ s:=by rw[hp];exact hfit
   exact Nat.lt_of_mul_lt_mul_right h3
  rw[hsp,<-hD];have h5:Ba ^ (m+2)* (us[m+2]?.getD 0+1)<=Ba ^ (m+2)*2 ^ (32-s):=aO _ h4;have h6:Ba ^ (m+2)*2 ^ (32-s)=Ba ^ m*2 ^ (32-s)* (Ba*Ba):=by rw[Nat.pow_succ,Nat.pow_succ];grind
  rw[Nat.mul_add,Nat.mul_one]at h5;omega
 rw[eX,eY]at hdl⊢;have hst:=LI.start hdl;have HST:=ah hst;have EX:=ah eX;have EY:=ah eY;have HF:=ah hfit;have QN:=ah SF;have HS:=ah hs;have HD:=ah hD;have HL:=ah hl;have JS:Ba*Ba=18446744073709551616:=by decide
 rw[JS]at hXb;clear eX eY hfit SF hs hD hl h0 hle hc ex hst JS;go_enter Tryz.func123,Tryz.ntmps123
 go_wp2_with fail
 refine(mo x _ bx).mono ?_;rintro e w' ⟨rfl,rfl⟩;rw[HS.out];have b0:=bI w (.cells #[.int .u64 0, .int .u64 0, .int .u64 0, .int .u64 0, .bool false] 165)
 have hcell:∀w9,Below (w.heap.size+1) (w.alloc (.cells #[.int .u64 0, .int .u64 0, .int .u64 0, .int .u64 0, .bool false] 165)) w9->
  (w9.cell? ⟨w.heap.size,0,none⟩=some (.int .u64 0)/\w9.cell? ⟨w.heap.size,1,none⟩=some (.int .u64 0)/\w9.cell? ⟨w.heap.size,2,none⟩=some (.int .u64 0)/\w9.cell? ⟨w.heap.size,3,none⟩=some (.int .u64 0)/\w9.cell? ⟨w.heap.size,4,none⟩=some (.bool false))/\
  w9.frozen? ⟨w.heap.size,0,none⟩=false/\w9.frozen? ⟨w.heap.size,1,none⟩=false/\w9.frozen? ⟨w.heap.size,2,none⟩=false/\w9.frozen? ⟨w.heap.size,3,none⟩=false/\w9.frozen? ⟨w.heap.size,4,none⟩=false:=fun w9 kS=>by
  refine⟨⟨?_,?_,?_,?_,?_⟩,?_,?_,?_,?_,?_⟩
  all_goals first
   |(rw[kS.cell (by show w.heap.size<w.heap.size+1;omega)];go_simp)
   |(rw[kS.frozen (by show w.heap.size<w.heap.size+1;omega)];go_simp)
 have RM:=ah hcell;clear hcell;go_wp2_with fail
 refine(AU _ us c m s _ D X (m+3) _ HL.out rfl HD.out EX.out (ha.below b0) (by rw[HL.out];exact aj _) (by omega) h32 HF.out).mono ?_;rintro e w1 ⟨rfl,b1⟩;have hs1:w.heap.size+1<=w1.heap.size:=by have:=b1.size;simpa using this
 have b01:Below (w.heap.size+1) (w.alloc (.cells #[.int .u64 0, .int .u64 0, .int .u64 0, .int .u64 0, .bool false] 165)) w1:=b1.mono (by simp);go_wp2_with fail
 refine(AU _ vs d m s _ D Y vs.length _ rfl rfl HD.out EY.out ((hb.below b0).below b1) hvl (by omega) h32 QN.out).mono ?_;rintro e w2 ⟨rfl,b2⟩;obtain⟨⟨p0,p1,p2,p3,p4⟩,f0,f1,f2,f3,f4⟩:=RM.out w2 (b01.trans (b2.mono hs1));have bP:Below w.heap.size w w2:=(b0.trans (b1.mono (by simp))).trans (b2.mono (by omega));clear b0 b1 b2 b01 hs1 RM ha hb hx;go_wp2_with fail
 go_loopw [7,8,9,10,11,12,13,14,15] (fun a b c0 c1 c2 d0 d1 d2 ev wr=>∃(x y u0 u1 u2 v0 v1 v2 n:Nat) (even:Bool),a= .int .u64 x/\b= .int .u64 y/\c0= .int .u64 u0/\c1= .int .u64 u1/\c2= .int .u64 u2/\d0= .int .u64 v0/\d1= .int .u64 v1/\d2= .int .u64 v2/\ev= .bool even/\
  (x<=18446744073709551615/\y<=x)/\(u0<=18446744073709551615/\u1<=18446744073709551615/\u2<=18446744073709551615/\v0<=18446744073709551615/\v1<=18446744073709551615/\v2<=18446744073709551615)/\Hid (LI X Y x y u0 u1 u2 v0 v1 v2 even)/\wr=w2.drewN n) (fun _ b _ _ _ _ _ _ _ _=>(intOf b).toNat)
 case atStart=>exact⟨X,Y,0,1,0,0,0,1,0,false,rfl,rfl,rfl,rfl,rfl,rfl,rfl,rfl,rfl,⟨by omega,hdl⟩,by omega,HST,rfl⟩
 case round=>
  obtain⟨x,y,u0,u1,u2,v0,v1,v2,n,even,rfl,rfl,rfl,rfl,rfl,rfl,rfl,rfl,rfl,⟨hx1,hyx⟩,⟨k1,k2,k3,k4,k5,k6⟩,NT,rfl⟩:=hrel
  have hfin:La X Y w (.returned (.agg #[.int .u64 (u0:Int), .int .u64 (u1:Int), .int .u64 (v0:Int), .int .u64 (v1:Int), .bool even])) ((((((w2.drewN n).setCell ⟨w.heap.size,0,none⟩ (.int .u64 (u0:Int))).setCell ⟨w.heap.size,1,none⟩ (.int .u64 (u1:Int))).setCell ⟨w.heap.size,2,none⟩ (.int .u64 (v0:Int))).setCell ⟨w.heap.size,3,none⟩ (.int .u64 (v1:Int))).setCell ⟨w.heap.size,4,none⟩ (.bool even)):=by
   have JS:Ba*Ba=18446744073709551616:=by decide
   exact⟨x,y,u0,u1,u2,v0,v1,v2,even,NT.out,by omega,by omega,by omega,by omega,rfl,DJ (below_drewN bP n) (aj _) _ _ _ _ _⟩
  have Lc:=ah hfin;clear hfin
  by_cases hy:v2<=y
  ·obtain⟨g1,g2,g3,g4,_⟩:=NT.out.bounds hy;have g5:=Ig NT.out hy
   by_cases hxy:v1+v2<=x-y
   ·have hstep:=NT.out.step hy hxy;have AV:=ah hstep;have q1:(x:Int).tdiv (y:Int)=((x/y:Nat):Int):=by rw[Int.tdiv_eq_ediv_of_nonneg (by omega)];rfl
    have q2:(x:Int).tmod (y:Int)=((x % y:Nat):Int):=by rw[Int.tmod_eq_emod_of_nonneg (by omega)];rfl
    have q1':(x:Int)/ (y:Int)=((x/y:Nat):Int):=rfl;have hmod:=Nat.mod_lt x g1;have hdiv:=Nat.div_le_self x y;obtain⟨q,eq⟩:=xeq (x/y);obtain⟨r,er⟩:=xeq (x % y);rw[eq]at q1 q1' AV g4 g5 hdiv;rw[er]at q2 AV hmod;have anz:(q:Int)* (u2:Int)=((q*u2:Nat):Int):=(Int.natCast_mul q u2).symm;have an0:(q:Int)* (v2:Int)=((q*v2:Nat):Int):=(Int.natCast_mul q v2).symm;obtain⟨M1,eM1⟩:=xeq (q*u2);obtain⟨M2,eM2⟩:=xeq (q*v2);rw[eM1]at anz g5 AV;rw[eM2]at an0 g4 AV;have hne:((y:Int)==0)=false:=by rw[beq_eq_false_iff_ne];omega
    have t1:(v1:Int)+v2<=(x:Int) -y:=by omega
    have m1:M1<=18446744073709551615:=by omega
    have m2:M2<=18446744073709551615:=by omega
    have m3:u1+M1<=18446744073709551615:=by omega
    have m4:v1+M2<=18446744073709551615:=by omega
    have m5:v1+v2<=18446744073709551615:=by omega
    clear eq er eM1 eM2 hstep Lc;go_wp2
    go_quiet (fail)
    go_wp2
    go_roundw
    case rel=>exact⟨y,r,u1,u2,u1+M1,v1,v2,v1+M2,_,!even,rfl,rfl,rfl,rfl,by go_num,rfl,rfl,by go_num,rfl,⟨by omega,by omega⟩,by omega,AV,rfl⟩
    case measure=>simp[intOf];omega
   ·have t1:decide ((v1:Int)+v2<=(x:Int) -y)=false:=by rw[decide_eq_false_iff_not];omega
    have m5:v1+v2<=18446744073709551615:=by omega
    clear g1 g2 g4 g5;go_wp2
    exact bodyPost_ret (v:= .agg #[.int .u64 (u0:Int), .int .u64 (u1:Int), .int .u64 (v0:Int), .int .u64 (v1:Int), .bool even]) (by simp[results,Tryz.results123,go_sem,p0,p1,p2,p3,p4]) rfl Lc.out
  ·have t1:decide ((v2:Int)<=(y:Int))=false:=by rw[decide_eq_false_iff_not];omega
   go_wp2
   exact bodyPost_ret (v:= .agg #[.int .u64 (u0:Int), .int .u64 (u1:Int), .int .u64 (v0:Int), .int .u64 (v1:Int), .bool even]) (by simp[results,Tryz.results123,go_sem,p0,p1,p2,p3,p4]) rfl Lc.out
end Go.Proofs.YtkmpoleajjgfaaaGreat
namespace Go.Proofs.YtkmpoleajjgfaaaGreat
open Go.RowKit Gm
set_option maxRecDepth 100000
set_option maxHeartbeats 16000000
theorem iN(A B:Option Addr)(xs ys:List Nat)(c d:Nat)(x y n:Nat)(w:World)(ha:bQ w A c xs)(hb:bQ w B d ys)(hs:xs.length<=70368744177660)(ht:ys.length<=70368744177660)(hx:x<Ba*Ba)(hy:y<Ba*Ba)(hle:val ys*y<=val xs*x)(hn:val xs*x-val ys*y=n):
 Calls Tryz.prog 124 #[.slice A xs.length c, .int .u64 (x:Int), .slice B ys.length d, .int .u64 (y:Int)] w (dW w n):=by
 have lx:=iI hx;have ly:=iI hy
 have lp:(limbs (val xs*x)).length<=70368744177664:=by
  have h1:=mQ (val xs) x;have h2:=bh ha.lb;omega
 have HN:=ah hn;have HLE:=ah hle;clear hn hle;go_enter Tryz.func124,Tryz.ntmps124
 go_wp2_with fail
 refine(cW x w hx).mono ?_;rintro e w1 ⟨A1,c1,rfl,r1,b1⟩;go_wp2_with fail
 refine(FB A A1 xs (limbs x) c c1 w1 (ha.below b1) r1.lim (by omega)).mono ?_;rintro e w2 ⟨A2,c2,rfl,r2,b2⟩;rw[aV]at r2⊢;have b02:Below w.heap.size w w2:=b1.trans (b2.mono b1.size);go_wp2_with fail
 refine(cW y w2 hy).mono ?_;rintro e w3 ⟨A3,c3,rfl,r3,b3⟩;have b03:Below w.heap.size w w3:=b02.trans (b3.mono b02.size);go_wp2_with fail
 refine(FB B A3 ys (limbs y) d c3 w3 (hb.below b03) r3.lim (by omega)).mono ?_;rintro e w4 ⟨A4,c4,rfl,r4,b4⟩;rw[aV]at r4⊢;have b04:Below w.heap.size w w4:=b03.trans (b4.mono b03.size);go_wp2_with fail
 refine(Ug A2 A4 (limbs (val xs*x)) (limbs (val ys*y)) c2 c4 w4 (val xs*x) (val ys*y) n 70368744177664 ((r2.lim.below b3).below b4) r4.lim lp (aV _) (aV _) HLE.out HN.out (aj _)).mono ?_;rintro e w5 ⟨A5,c5,rfl,r5,b5⟩;have h5:=r5.mono (lo':=w.heap.size) b04.size;have b05:Below w.heap.size w w5:=b04.trans (b5.mono b04.size);clear r1 r2 r3 r4 r5 b1 b2 b3 b4 b5;go_wp2
 go_ret;exact⟨A5,c5,rfl,h5,b05⟩
def GR(K G:Nat)(w:World)(k:Nat)(a b:Value)(wr:World):Prop:=
 ∃(A B:Option Addr) (c d x y:Nat),k=x+y/\a= .slice A (limbs x).length c/\b= .slice B (limbs y).length d/\bQ wr A c (limbs x)/\bQ wr B d (limbs y)/\y<=x/\(limbs x).length<=K/\Hid (Nat.gcd x y=G)/\Below w.heap.size w wr
theorem sV(w:World)(u0 u1 v0 v1:Nat)(b:Bool):∃W,w.alloc (.cells #[.int .u64 (u0:Int), .int .u64 (u1:Int), .int .u64 (v0:Int), .int .u64 (v1:Int), .bool b] 165)=W/\Below w.heap.size w W/\
 W.cell? ⟨w.heap.size,0,none⟩=some (.int .u64 (u0:Int))/\W.cell? ⟨w.heap.size,1,none⟩=some (.int .u64 (u1:Int))/\W.cell? ⟨w.heap.size,2,none⟩=some (.int .u64 (v0:Int))/\W.cell? ⟨w.heap.size,3,none⟩=some (.int .u64 (v1:Int)):=by
 refine⟨_,rfl,bI _ _,?_,?_,?_,?_⟩<;>go_simp
theorem mR{x y:Nat}:Nat.gcd y (x % y)=Nat.gcd x y:=by rw[Nat.gcd_comm x y,Nat.gcd_rec y x,Nat.gcd_comm]
theorem Uq(A B:Option Addr)(xs ys:List Nat)(c d K:Nat)(w:World)(ha:bQ w A c xs)(hb:bQ w B d ys)(hK:(limbs (val xs)).length<=K)(hs:K<=70368744177660)(hge:val ys<=val xs):
 Calls Tryz.prog 98 #[.slice A xs.length c, .slice B ys.length d] w (dW w (Nat.gcd (val xs) (val ys))):=by
 have ec:0<=gq (val (limbs (val xs))) (val (limbs (val ys))):=by
  rw[aV,aV];exact AQ hge
 obtain⟨G,eG⟩:=xeq (Nat.gcd (val xs) (val ys));rw[eG];have EG:=ah eG;clear eG;go_enter Tryz.func98,Tryz.ntmps98
 go_wp2_with fail
 refine(eF _ _ _ _ ha).mono ?_;rintro e w' ⟨rfl,rfl⟩;go_wp2_with fail
 refine(eF _ _ _ _ hb).mono ?_;rintro e w' ⟨rfl,rfl⟩;go_wp2_with fail
 refine(dZ _ _ _ _ _ _ _ ha.cut hb.cut).mono ?_;rintro e w' ⟨rfl,n,rfl⟩;generalize gq (val (limbs (val xs))) (val (limbs (val ys)))=z at*;have YI:¬z<0:=by omega
 have hst:GR K G w (val xs+val ys) (.slice A (limbs (val xs)).length c) (.slice B (limbs (val ys)).length d) (w.drewN n):=⟨A,B,c,d,val xs,val ys,rfl,rfl,rfl,ha.cut.drewN n,hb.cut.drewN n,hge,hK,EG,below_drewN (aq _ _) n⟩;clear ha hb ec;go_wp2_with fail
 go_loopg [0,1] (val xs+val ys) (fun k a b wr=>GR K G w k a b wr)
 case atStart=>exact hst
 case round=>
  clear hst;obtain⟨A,B,c,d,x,y,rfl,rfl,rfl,hx,hy,hyx,hxK,hG,bP⟩:=hrel;have lyx:=bN hyx;rcases aM y with rfl|hy0
  ·have HE:=ah (show x=G by rw[<-hG.out,Nat.gcd_zero_right]);rw[bM];go_wp2_with fail
   refine(qU A (limbs x) c _ hx (by omega)).mono ?_;rintro e w1 ⟨A1,c1,rfl,r1,b1⟩;rw[aV]at r1⊢;have h1:=r1.mono (lo':=w.heap.size) bP.size;have b01:=bP.trans (b1.mono bP.size);clear r1 b1;go_wp2
   go_ret;rw[<-HE.out];exact⟨A1,c1,rfl,h1,b01⟩
  ·have lp:0< (limbs y).length:=List.length_pos_iff.2 (fun e=>by rw[bV]at e;omega);rcases aN x (Ba*Ba)with sy|vX
   ·have l2:=iI sy;have l2':((limbs x).length:Int)<=2:=by omega
    go_wp2_with fail
    refine(py A (limbs x) c _ hx l2).mono ?_;rintro e w' ⟨rfl,rfl⟩;go_wp2_with fail
    refine(py B (limbs y) d _ hy (by omega)).mono ?_;rintro e w' ⟨rfl,rfl⟩;rw[aV,aV];have JS:Ba*Ba=18446744073709551616:=by decide
    rw[JS]at sy;clear JS;obtain⟨wo,rfl⟩:∃wo:World,wo=wr:=⟨_,rfl⟩;go_wp2_with fail
    go_loopw [5,6] (fun s t wi=>∃(x' y' k:Nat),s= .int .u64 x'/\t= .int .u64 y'/\x'<=18446744073709551615/\y'<=18446744073709551615/\Hid (Nat.gcd x' y'=G)/\wi=wo.drewN k) (fun _ t _=>(intOf t).toNat)
    case atStart=>exact⟨x,y,0,rfl,rfl,by omega,by omega,hG,rfl⟩
    case round=>
     obtain⟨x',y',k,rfl,rfl,hx',hy',hg',rfl⟩:=hrel;rcases aM y' with rfl|hp
     ·have HG2:=ah (show x'=G by rw[<-hg'.out,Nat.gcd_zero_right]);go_wp2_with fail
      refine(cW x' _ (by have hB:Ba*Ba=18446744073709551616:=by decide
                         omega)).mono ?_
      rintro e w1 ⟨A1,c1,rfl,r1,b1⟩;have hbk:=below_drewN bP k;have h1:=r1.mono (lo':=w.heap.size) hbk.size;have b01:=hbk.trans (b1.mono hbk.size);clear r1 b1 hbk;go_wp2
      go_ret;rw[<-HG2.out];exact⟨A1,c1,rfl,h1,b01⟩
     ·have hne:((y':Int) !=0)=true:=by rw[bne_iff_ne];omega
      have iw:((y':Int)==0)=false:=by rw[beq_eq_false_iff_ne];omega
      have e3:(x':Int).tmod (y':Int)=((x' % y':Nat):Int):=by rw[Int.tmod_eq_emod_of_nonneg (by omega)];rfl
      have hm:=Nat.mod_lt x' hp;have Ih:Hid (Nat.gcd y' (x' % y')=G):=ah (by rw[mR];exact hg'.out);obtain⟨T,eT⟩:=xeq (x' % y');rw[eT]at e3 hm Ih;clear eT;go_wp2
      go_quiet (fail)
      go_wp2
      go_roundw
      case rel=>exact⟨y',T,_,rfl,rfl,hy',by omega,Ih,World.drewN_drewN _ _ _⟩
      case measure=>simp[intOf];try omega
   ·have l3:3<=(limbs x).length:=by
     have:¬(limbs x).length<=2:=fun h=>by have:=fA.1 h;omega
     omega
    obtain⟨m,em⟩:∃m,(limbs x).length=m+3:=⟨(limbs x).length-3,by omega⟩;have gX:=mJ (show x≠0 by omega);rw[em,show m+3-1=m+2 from rfl]at gX;obtain⟨s,es⟩:=xeq (32-nb ((limbs x)[m+2]?.getD 0));obtain⟨D,eD⟩:=xeq (Ba ^ m*2 ^ (32-s));have Zu:0<D:=by rw[<-eD];exact Nat.mul_pos (Nat.pow_pos cR) (Nat.pow_pos (by decide))
    have hc:=xC A B (limbs x) (limbs y) c d m s D wr hx hy em (by omega) gX (by rw[aV,aV];exact hyx) (by omega) es eD;rw[aV,aV]at hc;have HC:=ah hc;have EM:=ah em;have hm:m+3<=K:=by omega
    have l3':¬((m:Int)+3<=2):=by omega
    rw[em]at lyx⊢;clear gX es eD hc em l3 hxK;go_wp2_with fail
    refine HC.out.mono ?_;rintro e w1 ⟨xx,yy,u0,u1,u2,v0,v1,v2,ev,NT,q0,q1,q2,q3,rfl,b1⟩;have Pj:=ah NT;clear NT HC
    by_cases Ac:v0=0
    ·subst Ac;go_wp2_with fail
     rw[<-EM.out];have b0:=bI w1 (.cells #[.int .u64 (u0:Int), .int .u64 (u1:Int), .int .u64 0, .int .u64 (v1:Int), .bool ev] 165);refine(uj A B (limbs x) (limbs y) c d _ ((hx.below b1).below b0) ((hy.below b1).below b0) (by rw[EM.out];omega) (by rw[aV];omega)).mono ?_;rintro e w2 ⟨A1,c1,A2,c2,rfl,r1,r2,b2⟩;rw[aV,aV]at r1 r2⊢;have b13:Below wr.heap.size wr w2:=(b1.trans (b0.mono b1.size)).trans (b2.mono (ay b1.size b0.size));have hy2:=hy.below b13;have h2:=r2.lim;have hend:=bP.trans (b13.mono bP.size);have hmod:=Nat.mod_lt x hy0;have lyK:(limbs y).length<=K:=by omega
     clear r1 r2 b0 b1 b2 b13;go_wp2_with fail
     go_roundg (y+x % y)
     case measure=>exact ak (Nat.add_lt_add_left hmod y) (Nat.add_le_add_right hyx y)
     case rel=>exact⟨B,A2,d,c2,y,x % y,rfl,rfl,rfl,hy2,h2,aR hmod,lyK,ah (by rw[mR];exact hG.out),hend⟩
    ·have hne:((v0:Int)==0)=false:=by rw[beq_eq_false_iff_ne];omega
     cases ev
     ·obtain⟨a',DK⟩:=xeq (y*v0-x*u0);obtain⟨b',DM⟩:=xeq (x*u1-y*v1);have hfin:=Pj.out.finish (a:=a') (b:=b') Zu Ac (by simp only[Bool.false_eq_true,if_false];exact DK.symm) (by simp only[Bool.false_eq_true,if_false];exact DM.symm);simp only[Bool.false_eq_true,if_false]at hfin;obtain⟨f1,f2,f3,f4,f5⟩:=hfin;have Ur:(limbs a').length<=K:=ay (bN (show a'<=x by omega)) (by rw[EM.out];exact hm);have Us:=ah DK;have Ut:=ah DM;have F1:=ah f1;have F2:=ah f2;have F5:=ah f5;clear DK DM f1 f2 f5;have kQ:True:=trivial;have pT:True:=trivial;have hzK:(limbs x).length<=70368744177660:=by rw[EM.out];omega
      have Xx:(limbs y).length<=70368744177660:=by omega
      go_wp2_with fail
      rw[<-EM.out];obtain⟨W,hW,bC,s0,s1,s2,s3⟩:=sV w1 u0 u1 v0 v1 false;rw[hW];clear hW;have jW:w1.heap.size<W.heap.size:=by have:=s0;exact aG W _ this
      replace hx:=(hx.below b1).below bC;replace hy:=(hy.below b1).below bC;have nS:Below w.heap.size w W:=(bP.trans (b1.mono bP.size)).trans (bC.mono (ay bP.size b1.size));have bB:Below W.heap.size W W.drew:=(aq _ _).drew;clear bP b1 bC
      go_region_held3 (fun w'=>w'.cell? ⟨w1.heap.size,0,none⟩=some (.int .u64 (u0:Int))/\w'.cell? ⟨w1.heap.size,1,none⟩=some (.int .u64 (u1:Int))/\w'.cell? ⟨w1.heap.size,2,none⟩=some (.int .u64 (v0:Int))/\w'.cell? ⟨w1.heap.size,3,none⟩=some (.int .u64 (v1:Int)))
       (first|exact⟨bn bB jW s0,bn bB jW s1,bn bB jW s2,bn bB jW s3⟩|go_keep)
       (first
         |(go_at_call 124;have _t:=kQ;clear kQ;refine(iN B A (limbs y) (limbs x) d c v0 u0 a' _ ?_ ?_ ?_ ?_ q2 q0 ?_ ?_).mono ?_;exact hy.below bB;exact hx.below bB;omega;omega;(rw[aV,aV];exact F1.out);(rw[aV,aV];exact Us.out);rintro e w6 ⟨A6,c6,rfl,r6,b6⟩;replace bB:=bB.trans (b6.mono bB.size))
         |(go_at_call 124;have _t:=pT;clear pT;refine(iN A B (limbs x) (limbs y) c d u1 v1 b' _ ?_ ?_ ?_ ?_ q1 q3 ?_ ?_).mono ?_;exact hx.below bB;exact hy.below bB;omega;omega;(rw[aV,aV];exact F2.out);(rw[aV,aV];exact Ut.out);rintro e w7 ⟨A7,c7,rfl,r7,b7⟩;replace bB:=bB.trans (b7.mono bB.size)))
      rename_i aU
      clear aU;have h6:=r6.lim.below b7;have h7:=r7.lim;have hend:Below w.heap.size w w7:=nS.trans (bB.mono nS.size);clear r6 r7 b6 b7 bB;go_wp2_with fail
      go_roundg (a'+b')
      case measure=>omega
      case rel=>exact⟨A6,A7,c6,c7,a',b',rfl,rfl,rfl,h6,h7,f3,Ur,ah (by rw[F5.out];exact hG.out),hend⟩
     ·obtain⟨a',DK⟩:=xeq (x*u0-y*v0);obtain⟨b',DM⟩:=xeq (y*v1-x*u1);have hfin:=Pj.out.finish (a:=a') (b:=b') Zu Ac (by simp only[if_true];exact DK.symm) (by simp only[if_true];exact DM.symm);simp only[if_true]at hfin;obtain⟨f1,f2,f3,f4,f5⟩:=hfin;have Ur:(limbs a').length<=K:=ay (bN (show a'<=x by omega)) (by rw[EM.out];exact hm);have Us:=ah DK;have Ut:=ah DM;have F1:=ah f1;have F2:=ah f2;have F5:=ah f5;clear DK DM f1 f2 f5;have kQ:True:=trivial;have pT:True:=trivial;have hzK:(limbs x).length<=70368744177660:=by rw[EM.out];omega
      have Xx:(limbs y).length<=70368744177660:=by omega
      go_wp2_with fail
      rw[<-EM.out];obtain⟨W,hW,bC,s0,s1,s2,s3⟩:=sV w1 u0 u1 v0 v1 true;rw[hW];clear hW;have jW:w1.heap.size<W.heap.size:=by have:=s0;exact aG W _ this
      replace hx:=(hx.below b1).below bC;replace hy:=(hy.below b1).below bC;have nS:Below w.heap.size w W:=(bP.trans (b1.mono bP.size)).trans (bC.mono (ay bP.size b1.size));have bB:Below W.heap.size W W.drew:=(aq _ _).drew;clear bP b1 bC
      go_region_held3 (fun w'=>w'.cell? ⟨w1.heap.size,0,none⟩=some (.int .u64 (u0:Int))/\w'.cell? ⟨w1.heap.size,1,none⟩=some (.int .u64 (u1:Int))/\w'.cell? ⟨w1.heap.size,2,none⟩=some (.int .u64 (v0:Int))/\w'.cell? ⟨w1.heap.size,3,none⟩=some (.int .u64 (v1:Int)))
       (first|exact⟨bn bB jW s0,bn bB jW s1,bn bB jW s2,bn bB jW s3⟩|go_keep)
       (first
         |(go_at_call 124;have _t:=kQ;clear kQ;refine(iN A B (limbs x) (limbs y) c d u0 v0 a' _ ?_ ?_ ?_ ?_ q0 q2 ?_ ?_).mono ?_;exact hx.below bB;exact hy.below bB;omega;omega;(rw[aV,aV];exact F1.out);(rw[aV,aV];exact Us.out);rintro e w6 ⟨A6,c6,rfl,r6,b6⟩;replace bB:=bB.trans (b6.mono bB.size))
         |(go_at_call 124;have _t:=pT;clear pT;refine(iN B A (limbs y) (limbs x) d c v1 u1 b' _ ?_ ?_ ?_ ?_ q3 q1 ?_ ?_).mono ?_;exact hy.below bB;exact hx.below bB;omega;omega;(rw[aV,aV];exact F2.out);(rw[aV,aV];exact Ut.out);rintro e w7 ⟨A7,c7,rfl,r7,b7⟩;replace bB:=bB.trans (b7.mono bB.size)))
      rename_i aU
      clear aU;have h6:=r6.lim.below b7;have h7:=r7.lim;have hend:Below w.heap.size w w7:=nS.trans (bB.mono nS.size);clear r6 r7 b6 b7 bB;go_wp2_with fail
      go_roundg (a'+b')
      case measure=>omega
      case rel=>exact⟨A6,A7,c6,c7,a',b',rfl,rfl,rfl,h6,h7,f3,Ur,ah (by rw[F5.out];exact hG.out),hend⟩
theorem Uu(A B:Option Addr)(xs ys:List Nat)(c d K:Nat)(w:World)(ha:bQ w A c xs)(hb:bQ w B d ys)(hK:(limbs (val ys)).length<=K)(hs:K<=70368744177660)(hge:val xs<val ys):
 Calls Tryz.prog 98 #[.slice A xs.length c, .slice B ys.length d] w (dW w (Nat.gcd (val xs) (val ys))):=by
 have EC:=ah (show gq (val (limbs (val xs))) (val (limbs (val ys)))= -1 by rw[aV,aV];exact lG hge);obtain⟨G,eG⟩:=xeq (Nat.gcd (val xs) (val ys));rw[eG];have EG:=ah eG;clear eG;go_enter Tryz.func98,Tryz.ntmps98
 go_wp2_with fail
 refine(eF _ _ _ _ ha).mono ?_;rintro e w' ⟨rfl,rfl⟩;go_wp2_with fail
 refine(eF _ _ _ _ hb).mono ?_;rintro e w' ⟨rfl,rfl⟩;go_wp2_with fail
 refine(dZ _ _ _ _ _ _ _ ha.cut hb.cut).mono ?_;rintro e w' ⟨rfl,n,rfl⟩;rw[EC.out];have hst:GR K G w (val ys+val xs) (.slice B (limbs (val ys)).length d) (.slice A (limbs (val xs)).length c) (w.drewN n):=⟨B,A,d,c,val ys,val xs,rfl,rfl,rfl,hb.cut.drewN n,ha.cut.drewN n,aR hge,hK,ah (by rw[Nat.gcd_comm];exact EG.out),below_drewN (aq _ _) n⟩;clear ha hb EC;go_wp2_with fail
 go_loopg [0,1] (val ys+val xs) (fun k a b wr=>GR K G w k a b wr)
 case atStart=>exact hst
 case round=>
  clear hst;obtain⟨A,B,c,d,x,y,rfl,rfl,rfl,hx,hy,hyx,hxK,hG,bP⟩:=hrel;have lyx:=bN hyx;rcases aM y with rfl|hy0
  ·have HE:=ah (show x=G by rw[<-hG.out,Nat.gcd_zero_right]);rw[bM];go_wp2_with fail
   refine(qU A (limbs x) c _ hx (by omega)).mono ?_;rintro e w1 ⟨A1,c1,rfl,r1,b1⟩;rw[aV]at r1⊢;have h1:=r1.mono (lo':=w.heap.size) bP.size;have b01:=bP.trans (b1.mono bP.size);clear r1 b1;go_wp2
   go_ret;rw[<-HE.out];exact⟨A1,c1,rfl,h1,b01⟩
  ·have lp:0< (limbs y).length:=List.length_pos_iff.2 (fun e=>by rw[bV]at e;omega);rcases aN x (Ba*Ba)with sy|vX
   ·have l2:=iI sy;have l2':((limbs x).length:Int)<=2:=by omega
    go_wp2_with fail
    refine(py A (limbs x) c _ hx l2).mono ?_;rintro e w' ⟨rfl,rfl⟩;go_wp2_with fail
    refine(py B (limbs y) d _ hy (by omega)).mono ?_;rintro e w' ⟨rfl,rfl⟩;rw[aV,aV];have JS:Ba*Ba=18446744073709551616:=by decide
    rw[JS]at sy;clear JS;obtain⟨wo,rfl⟩:∃wo:World,wo=wr:=⟨_,rfl⟩;go_wp2_with fail
    go_loopw [5,6] (fun s t wi=>∃(x' y' k:Nat),s= .int .u64 x'/\t= .int .u64 y'/\x'<=18446744073709551615/\y'<=18446744073709551615/\Hid (Nat.gcd x' y'=G)/\wi=wo.drewN k) (fun _ t _=>(intOf t).toNat)
    case atStart=>exact⟨x,y,0,rfl,rfl,by omega,by omega,hG,rfl⟩
    case round=>
     obtain⟨x',y',k,rfl,rfl,hx',hy',hg',rfl⟩:=hrel;rcases aM y' with rfl|hp
     ·have HG2:=ah (show x'=G by rw[<-hg'.out,Nat.gcd_zero_right]);go_wp2_with fail
      refine(cW x' _ (by have hB:Ba*Ba=18446744073709551616:=by decide
                         omega)).mono ?_
      rintro e w1 ⟨A1,c1,rfl,r1,b1⟩;have hbk:=below_drewN bP k;have h1:=r1.mono (lo':=w.heap.size) hbk.size;have b01:=hbk.trans (b1.mono hbk.size);clear r1 b1 hbk;go_wp2
      go_ret;rw[<-HG2.out];exact⟨A1,c1,rfl,h1,b01⟩
     ·have hne:((y':Int) !=0)=true:=by rw[bne_iff_ne];omega
      have iw:((y':Int)==0)=false:=by rw[beq_eq_false_iff_ne];omega
      have e3:(x':Int).tmod (y':Int)=((x' % y':Nat):Int):=by rw[Int.tmod_eq_emod_of_nonneg (by omega)];rfl
      have hm:=Nat.mod_lt x' hp;have Ih:Hid (Nat.gcd y' (x' % y')=G):=ah (by rw[mR];exact hg'.out);obtain⟨T,eT⟩:=xeq (x' % y');rw[eT]at e3 hm Ih;clear eT;go_wp2
      go_quiet (fail)
      go_wp2
      go_roundw
      case rel=>exact⟨y',T,_,rfl,rfl,hy',by omega,Ih,World.drewN_drewN _ _ _⟩
      case measure=>simp[intOf];try omega
   ·have l3:3<=(limbs x).length:=by
     have:¬(limbs x).length<=2:=fun h=>by have:=fA.1 h;omega
     omega
    obtain⟨m,em⟩:∃m,(limbs x).length=m+3:=⟨(limbs x).length-3,by omega⟩;have gX:=mJ (show x≠0 by omega);rw[em,show m+3-1=m+2 from rfl]at gX;obtain⟨s,es⟩:=xeq (32-nb ((limbs x)[m+2]?.getD 0));obtain⟨D,eD⟩:=xeq (Ba ^ m*2 ^ (32-s));have Zu:0<D:=by rw[<-eD];exact Nat.mul_pos (Nat.pow_pos cR) (Nat.pow_pos (by decide))
    have hc:=xC A B (limbs x) (limbs y) c d m s D wr hx hy em (by omega) gX (by rw[aV,aV];exact hyx) (by omega) es eD;rw[aV,aV]at hc;have HC:=ah hc;have EM:=ah em;have hm:m+3<=K:=by omega
    have l3':¬((m:Int)+3<=2):=by omega
    rw[em]at lyx⊢;clear gX es eD hc em l3 hxK;go_wp2_with fail
    refine HC.out.mono ?_;rintro e w1 ⟨xx,yy,u0,u1,u2,v0,v1,v2,ev,NT,q0,q1,q2,q3,rfl,b1⟩;have Pj:=ah NT;clear NT HC
    by_cases Ac:v0=0
    ·subst Ac;go_wp2_with fail
     rw[<-EM.out];have b0:=bI w1 (.cells #[.int .u64 (u0:Int), .int .u64 (u1:Int), .int .u64 0, .int .u64 (v1:Int), .bool ev] 165);refine(uj A B (limbs x) (limbs y) c d _ ((hx.below b1).below b0) ((hy.below b1).below b0) (by rw[EM.out];omega) (by rw[aV];omega)).mono ?_;rintro e w2 ⟨A1,c1,A2,c2,rfl,r1,r2,b2⟩;rw[aV,aV]at r1 r2⊢;have b13:Below wr.heap.size wr w2:=(b1.trans (b0.mono b1.size)).trans (b2.mono (ay b1.size b0.size));have hy2:=hy.below b13;have h2:=r2.lim;have hend:=bP.trans (b13.mono bP.size);have hmod:=Nat.mod_lt x hy0;have lyK:(limbs y).length<=K:=by omega
     clear r1 r2 b0 b1 b2 b13;go_wp2_with fail
     go_roundg (y+x % y)
     case measure=>exact ak (Nat.add_lt_add_left hmod y) (Nat.add_le_add_right hyx y)
     case rel=>exact⟨B,A2,d,c2,y,x % y,rfl,rfl,rfl,hy2,h2,aR hmod,lyK,ah (by rw[mR];exact hG.out),hend⟩
    ·have hne:((v0:Int)==0)=false:=by rw[beq_eq_false_iff_ne];omega
     cases ev
     ·obtain⟨a',DK⟩:=xeq (y*v0-x*u0);obtain⟨b',DM⟩:=xeq (x*u1-y*v1);have hfin:=Pj.out.finish (a:=a') (b:=b') Zu Ac (by simp only[Bool.false_eq_true,if_false];exact DK.symm) (by simp only[Bool.false_eq_true,if_false];exact DM.symm);simp only[Bool.false_eq_true,if_false]at hfin;obtain⟨f1,f2,f3,f4,f5⟩:=hfin;have Ur:(limbs a').length<=K:=ay (bN (show a'<=x by omega)) (by rw[EM.out];exact hm);have Us:=ah DK;have Ut:=ah DM;have F1:=ah f1;have F2:=ah f2;have F5:=ah f5;clear DK DM f1 f2 f5;have kQ:True:=trivial;have pT:True:=trivial;have hzK:(limbs x).length<=70368744177660:=by rw[EM.out];omega
      have Xx:(limbs y).length<=70368744177660:=by omega
      go_wp2_with fail
      rw[<-EM.out];obtain⟨W,hW,bC,s0,s1,s2,s3⟩:=sV w1 u0 u1 v0 v1 false;rw[hW];clear hW;have jW:w1.heap.size<W.heap.size:=by have:=s0;exact aG W _ this
      replace hx:=(hx.below b1).below bC;replace hy:=(hy.below b1).below bC;have nS:Below w.heap.size w W:=(bP.trans (b1.mono bP.size)).trans (bC.mono (ay bP.size b1.size));have bB:Below W.heap.size W W.drew:=(aq _ _).drew;clear bP b1 bC
      go_region_held3 (fun w'=>w'.cell? ⟨w1.heap.size,0,none⟩=some (.int .u64 (u0:Int))/\w'.cell? ⟨w1.heap.size,1,none⟩=some (.int .u64 (u1:Int))/\w'.cell? ⟨w1.heap.size,2,none⟩=some (.int .u64 (v0:Int))/\w'.cell? ⟨w1.heap.size,3,none⟩=some (.int .u64 (v1:Int)))
       (first|exact⟨bn bB jW s0,bn bB jW s1,bn bB jW s2,bn bB jW s3⟩|go_keep)
       (first
         |(go_at_call 124;have _t:=kQ;clear kQ;refine(iN B A (limbs y) (limbs x) d c v0 u0 a' _ ?_ ?_ ?_ ?_ q2 q0 ?_ ?_).mono ?_;exact hy.below bB;exact hx.below bB;omega;omega;(rw[aV,aV];exact F1.out);(rw[aV,aV];exact Us.out);rintro e w6 ⟨A6,c6,rfl,r6,b6⟩;replace bB:=bB.trans (b6.mono bB.size))
         |(go_at_call 124;have _t:=pT;clear pT;refine(iN A B (limbs x) (limbs y) c d u1 v1 b' _ ?_ ?_ ?_ ?_ q1 q3 ?_ ?_).mono ?_;exact hx.below bB;exact hy.below bB;omega;omega;(rw[aV,aV];exact F2.out);(rw[aV,aV];exact Ut.out);rintro e w7 ⟨A7,c7,rfl,r7,b7⟩;replace bB:=bB.trans (b7.mono bB.size)))
      rename_i aU
      clear aU;have h6:=r6.lim.below b7;have h7:=r7.lim;have hend:Below w.heap.size w w7:=nS.trans (bB.mono nS.size);clear r6 r7 b6 b7 bB;go_wp2_with fail
      go_roundg (a'+b')
      case measure=>omega
      case rel=>exact⟨A6,A7,c6,c7,a',b',rfl,rfl,rfl,h6,h7,f3,Ur,ah (by rw[F5.out];exact hG.out),hend⟩
     ·obtain⟨a',DK⟩:=xeq (x*u0-y*v0);obtain⟨b',DM⟩:=xeq (y*v1-x*u1);have hfin:=Pj.out.finish (a:=a') (b:=b') Zu Ac (by simp only[if_true];exact DK.symm) (by simp only[if_true];exact DM.symm);simp only[if_true]at hfin;obtain⟨f1,f2,f3,f4,f5⟩:=hfin;have Ur:(limbs a').length<=K:=ay (bN (show a'<=x by omega)) (by rw[EM.out];exact hm);have Us:=ah DK;have Ut:=ah DM;have F1:=ah f1;have F2:=ah f2;have F5:=ah f5;clear DK DM f1 f2 f5;have kQ:True:=trivial;have pT:True:=trivial;have hzK:(limbs x).length<=70368744177660:=by rw[EM.out];omega
      have Xx:(limbs y).length<=70368744177660:=by omega
      go_wp2_with fail
      rw[<-EM.out];obtain⟨W,hW,bC,s0,s1,s2,s3⟩:=sV w1 u0 u1 v0 v1 true;rw[hW];clear hW;have jW:w1.heap.size<W.heap.size:=by have:=s0;exact aG W _ this
      replace hx:=(hx.below b1).below bC;replace hy:=(hy.below b1).below bC;have nS:Below w.heap.size w W:=(bP.trans (b1.mono bP.size)).trans (bC.mono (ay bP.size b1.size));have bB:Below W.heap.size W W.drew:=(aq _ _).drew;clear bP b1 bC
      go_region_held3 (fun w'=>w'.cell? ⟨w1.heap.size,0,none⟩=some (.int .u64 (u0:Int))/\w'.cell? ⟨w1.heap.size,1,none⟩=some (.int .u64 (u1:Int))/\w'.cell? ⟨w1.heap.size,2,none⟩=some (.int .u64 (v0:Int))/\w'.cell? ⟨w1.heap.size,3,none⟩=some (.int .u64 (v1:Int)))
       (first|exact⟨bn bB jW s0,bn bB jW s1,bn bB jW s2,bn bB jW s3⟩|go_keep)
       (first
         |(go_at_call 124;have _t:=kQ;clear kQ;refine(iN A B (limbs x) (limbs y) c d u0 v0 a' _ ?_ ?_ ?_ ?_ q0 q2 ?_ ?_).mono ?_;exact hx.below bB;exact hy.below bB;omega;omega;(rw[aV,aV];exact F1.out);(rw[aV,aV];exact Us.out);rintro e w6 ⟨A6,c6,rfl,r6,b6⟩;replace bB:=bB.trans (b6.mono bB.size))
         |(go_at_call 124;have _t:=pT;clear pT;refine(iN B A (limbs y) (limbs x) d c v1 u1 b' _ ?_ ?_ ?_ ?_ q3 q1 ?_ ?_).mono ?_;exact hy.below bB;exact hx.below bB;omega;omega;(rw[aV,aV];exact F2.out);(rw[aV,aV];exact Ut.out);rintro e w7 ⟨A7,c7,rfl,r7,b7⟩;replace bB:=bB.trans (b7.mono bB.size)))
      rename_i aU
      clear aU;have h6:=r6.lim.below b7;have h7:=r7.lim;have hend:Below w.heap.size w w7:=nS.trans (bB.mono nS.size);clear r6 r7 b6 b7 bB;go_wp2_with fail
      go_roundg (a'+b')
      case measure=>omega
      case rel=>exact⟨A6,A7,c6,c7,a',b',rfl,rfl,rfl,h6,h7,f3,Ur,ah (by rw[F5.out];exact hG.out),hend⟩
theorem Zv(A B:Option Addr)(xs ys:List Nat)(c d:Nat)(w:World)(ha:bQ w A c xs)(hb:bQ w B d ys)(hs:xs.length<=70368744177660)(ht:ys.length<=70368744177660):
 Calls Tryz.prog 98 #[.slice A xs.length c, .slice B ys.length d] w (dW w (Nat.gcd (val xs) (val ys))):=by
 rcases aN (val xs) (val ys)with h|h
 ·exact Uu A B xs ys c d ys.length w ha hb (bh hb.lb) ht h
 ·exact Uq A B xs ys c d xs.length w ha hb (bh ha.lb) hs h
theorem Zw(A B:Option Addr)(xs ys:List Nat)(c d:Nat)(w:World)(m n s K L:Nat)(ha:bQ w A c xs)(hb:bQ w B d ys)(hs:xs.length<=K)(ht:ys.length<=L)(hm:val xs=m)(hn:val ys=n)(h:Nat.gcd m n=s)(hK:K<=70368744177660)(hL:L<=70368744177660):
 Calls Tryz.prog 98 #[.slice A xs.length c, .slice B ys.length d] w (dW w s):=by
 subst hm hn h;exact Zv A B xs ys c d w ha hb (by omega) (by omega)
end Go.Proofs.YtkmpoleajjgfaaaGreat
