/- Parts of the proof, in order. -/
import Derived.Test.YtkmpoleajjgfaaaGreatQ1
import Derived.Test.YtkmpoleajjgfaaaGreatProg
import Derived.WalkKit
import Derived.WalkSpells
import Derived.WalkLawsBesides
import Derived.Deep.QuietTactic
import Derived.BigQuiet
import Derived.Laws.CopyOwn
import Derived.Laws.CopyRow
import Derived.Deep.RegionHeld3
import Derived.Deep.RegionWith
namespace Go.Proofs.YtkmpoleajjgfaaaGreat
open Go.RowKit Gm
set_option maxRecDepth 100000
set_option maxHeartbeats 16000000
/- Words for memory: a slice of 32-bit limbs that reads as a list of numbers; one that lies in new memory. -/
structure bQ(w:World)(A:Option Addr)(c:Nat)(xs:List Nat):Prop where
 lb:Lb xs
 cap:xs.length<=c
 max:c<=9223372036854775807
 cells:0<xs.length->∃b off,A=some ⟨b,off,none⟩/\b<w.heap.size/\∀k,k<xs.length->w.cell? ⟨b,off+k,none⟩=some (.int .u32 ((xs[k]?.getD 0:Nat):Int))
structure Own(lo:Nat)(w:World)(A:Option Addr)(c:Nat)(xs:List Nat):Prop where
 lb:Lb xs
 cap:xs.length<=c
 max:c<=9223372036854775807
 cells:0<xs.length->∃b off,A=some ⟨b,off,none⟩/\lo<=b/\b<w.heap.size/\∀k,k<xs.length->w.cell? ⟨b,off+k,none⟩=some (.int .u32 ((xs[k]?.getD 0:Nat):Int))/\w.frozen? ⟨b,off+k,none⟩=false
section
variable {lo lo':Nat}{w w':World}{A:Option Addr}{c:Nat}{xs:List Nat}
theorem Own.lim(h:Own lo w A c xs):bQ w A c xs:=
 ⟨h.lb,h.cap,h.max,fun h0=>by obtain⟨b,off,e,_,hb,hc⟩:=h.cells h0;exact⟨b,off,e,hb,fun k hk=>(hc k hk).1⟩⟩
theorem bQ.nil(w:World)(A:Option Addr):bQ w A 0 []:=⟨tK,aj _,by omega,fun h=>absurd h (by simp)⟩
theorem Own.nil(lo:Nat)(w:World)(A:Option Addr):Own lo w A 0 []:=⟨tK,aj _,by omega,fun h=>absurd h (by simp)⟩
theorem bQ.at_(h:bQ w A c xs)(h0:0<xs.length):
 ∃b off,A=some ⟨b,off,none⟩/\b<w.heap.size/\∀k,k<xs.length->w.cell? ⟨b,off+k,none⟩=some (.int .u32 ((xs[k]?.getD 0:Nat):Int)):=h.cells h0
theorem bQ.below(h:bQ w A c xs)(hb:Below w.heap.size w w'):bQ w' A c xs:=
 ⟨h.lb,h.cap,h.max,fun h0=>by
   obtain⟨b,off,e,hlt,hc⟩:=h.cells h0;exact⟨b,off,e,ak hlt hb.size,fun k hk=>(hb.cell (p:=⟨b,off+k,none⟩) hlt).trans (hc k hk)⟩⟩
theorem Own.below(h:Own lo w A c xs)(hb:Below w.heap.size w w'):Own lo w' A c xs:=
 ⟨h.lb,h.cap,h.max,fun h0=>by
   obtain⟨b,off,e,hl,hlt,hc⟩:=h.cells h0;exact⟨b,off,e,hl,ak hlt hb.size,fun k hk=>⟨(hb.cell (p:=⟨b,off+k,none⟩) hlt).trans (hc k hk).1,(hb.frozen (p:=⟨b,off+k,none⟩) hlt).trans (hc k hk).2⟩⟩⟩
theorem bQ.drewN(h:bQ w A c xs)(n:Nat):bQ (w.drewN n) A c xs:=⟨h.lb,h.cap,h.max,h.cells⟩
theorem Own.drewN(h:Own lo w A c xs)(n:Nat):Own lo (w.drewN n) A c xs:=⟨h.lb,h.cap,h.max,h.cells⟩
theorem Own.mono(h:Own lo w A c xs)(hl:lo'<=lo):Own lo' w A c xs:=
 ⟨h.lb,h.cap,h.max,fun h0=>by
   obtain⟨b,off,e,h1,hlt,hc⟩:=h.cells h0;exact⟨b,off,e,ay hl h1,hlt,hc⟩⟩
theorem bQ.take(h:bQ w A c xs)(n:Nat):bQ w A c (xs.take n):=by
 have hl:(xs.take n).length<=xs.length:=by simp;omega
 refine⟨h.lb.take n,ay hl h.cap,h.max,fun h0=>?_⟩;obtain⟨b,off,e,hlt,hc⟩:=h.cells (by omega);refine⟨b,off,e,hlt,fun k hk=>?_⟩;have hk':k<n:=by simp at hk;omega
 rw[hc k (by omega),List.getElem?_take_of_lt hk']
theorem Own.take(h:Own lo w A c xs)(n:Nat):Own lo w A c (xs.take n):=by
 have hl:(xs.take n).length<=xs.length:=by simp;omega
 refine⟨h.lb.take n,ay hl h.cap,h.max,fun h0=>?_⟩;obtain⟨b,off,e,hlo,hlt,hc⟩:=h.cells (by omega);refine⟨b,off,e,hlo,hlt,fun k hk=>?_⟩;have hk':k<n:=by simp at hk;omega
 rw[List.getElem?_take_of_lt hk'];exact hc k (by omega)
theorem bQ.cut(h:bQ w A c xs):bQ w A c (limbs (val xs)):=by
 rw[<-tL h.lb];exact h.take _
theorem Own.cut(h:Own lo w A c xs):Own lo w A c (limbs (val xs)):=by
 rw[<-tL h.lb];exact h.take _
end
def dW(w:World)(n:Nat)(e:Ending)(w':World):Prop:=
 ∃A c,e= .returned (.slice A (limbs n).length c)/\Own w.heap.size w' A c (limbs n)/\Below w.heap.size w w'
def cellsOf(zs:List Nat):Array Value:=(zs.map fun x=>Value.int .u32 ((x:Nat):Int)).toArray
def zeros(n:Nat):List Nat:=List.replicate n 0
theorem cS(n:Nat):(zeros n).length=n:=by simp[zeros]
theorem gK(n k:Nat):(zeros n)[k]?.getD 0=0:=by
 unfold zeros;rcases aN k n with h|h
 ·rw[List.getElem?_replicate_of_lt h];rfl
 ·rw[aQ (by simpa using h)];rfl
theorem gB(n:Nat):Lb (zeros n):=yo n
theorem fV(n:Nat):val (zeros n)=0:=vU n
theorem Aj(zs:List Nat)(i v:Nat):(cellsOf zs).setIfInBounds i (.int .u32 ((v:Nat):Int))=cellsOf (zs.set i v):=by
 simp[cellsOf,List.map_set]
theorem Ak{zs:List Nat}{i:Nat}(h:i<zs.length):(cellsOf zs)[i]?=some (.int .u32 ((zs[i]?.getD 0:Nat):Int)):=by
 simp[cellsOf,aB h]
def Row(w:World)(g:Nat)(zs:List Nat):Prop:=w.heap[g]?=some (.cells (cellsOf zs) 75 (0,0))
section
variable {w w':World}{g:Nat}{zs:List Nat}
theorem Row.lt(h:Row w g zs):g<w.heap.size:=by
 rcases aN g w.heap.size with hlt|hge
 ·exact hlt
 ·unfold Row at h;rw[Array.getElem?_eq_none hge]at h;cases h
theorem Row.cell(h:Row w g zs){i:Nat}(hi:i<zs.length):w.cell? ⟨g,i,none⟩=some (.int .u32 ((zs[i]?.getD 0:Nat):Int)):=by
 rw[aT w g i _ _ (0,0) h];exact Ak hi
theorem Row.frozen(h:Row w g zs)(i:Nat):w.frozen? ⟨g,i,none⟩=false:=by
 unfold Row at h;simp[World.frozen?,h]
theorem Row.new(w:World)(zs:List Nat):Row (w.alloc (.cells (cellsOf zs) 75)) w.heap.size zs:=aS w _
theorem Row.drewN(h:Row w g zs)(n:Nat):Row (w.drewN n) g zs:=h
theorem Row.alloc(h:Row w g zs)(o:Obj):Row (w.alloc o) g zs:=(Below.heap_alloc w o g h.lt).trans h
theorem Row.set(h:Row w g zs)(i v:Nat):Row (w.setCell ⟨g,i,none⟩ (.int .u32 ((v:Nat):Int))) g (zs.set i v):=by
 unfold Row at h⊢;rw[<-Aj];simp[World.setCell,Array.getElem?_modify,h]
theorem Row.put(h:Row w g zs)(i:Nat){z:Int}(v:Nat)(hz:z=(v:Int)):Row (w.setCell ⟨g,i,none⟩ (.int .u32 z)) g (zs.set i v):=by
 subst hz;exact h.set i v
theorem Row.far(h:Row w g zs){p:Addr}(hp:g≠p.block)(u:Value):Row (w.setCell p u) g zs:=(Below.heap_setCell w p u g hp).trans h
theorem Row.below{B:Nat}(h:Row w g zs)(hb:Below B w w')(hg:g<B):Row w' g zs:=(hb.block g hg).trans h
theorem Row.own(h:Row w g zs)(hz:Lb zs){lo:Nat}(hl:lo<=g)(hm:zs.length<=9223372036854775807):Own lo w (some ⟨g,0,none⟩) zs.length zs:=
 ⟨hz,aj _,hm,fun _=>⟨g,0,rfl,hl,h.lt,fun k hk=>by rw[Nat.zero_add];exact⟨h.cell hk,h.frozen k⟩⟩⟩
end
theorem Al:(Tryz.prog.info? 75).map (fun i=>(i.zero,i.size,i.bytes))=some (some (.int .u32 0),1,4):=by kernel_rfl
theorem jg(z:Int)(n:Nat)(hz:z=(n:Int))(hn:n<=70368744177664)(u:World):
 (Instr.makeSlice 41 (.int .i64 z) (.int .i64 z)).run Tryz.prog u= .ok (.slice (some ⟨u.heap.size,0,none⟩) n n) (u.alloc (.cells (cellsOf (zeros n)) 75)):=by
 obtain⟨i0,hi,hz0,hz1,hz2⟩:=info_parts Al;subst hz;have h:=run_make (P:=Tryz.prog) u 41 75 i0 (.int .u32 0) Tryz.underlying41 hi hz0 .i64 .i64 (n:Int) (n:Int) (by omega) (Int.le_refl _) (by rw[hz2];omega) (by omega);simp only[Int.toNat_natCast]at h
 have e:madeCells (Value.int IntKind.u32 0).cells (n*i0.size)=cellsOf (zeros n):=by
  rw[hz1];simp only[madeCells,cellsOf,zeros,Value.cells];apply Array.ext
  ·simp
  ·intro i h1 h2;simp[Nat.mod_one]
 rw[e]at h;exact h
theorem nJ(z:Int)(h1: -4294967296<=z)(h2:z<0):IntKind.u64.wrap z % 4294967296=z+4294967296:=by
 rw[IntKind.wrap_u64];omega
theorem lZ(z:Int)(h1: -4294967296<=z)(h2:z<0):IntKind.u64.wrap z/9223372036854775808=1:=by
 rw[IntKind.wrap_u64];omega
theorem Am(a y:Int):IntKind.u64.wrap (IntKind.u64.wrap a-y)=IntKind.u64.wrap (a-y):=by
 rw[IntKind.wrap_u64,IntKind.wrap_u64,IntKind.wrap_u64];omega
theorem Rs(v x:Nat)(hv:v<4294967296)(hx:x<4294967296):bits .or .u64 (v:Int) ((x:Int)*4294967296)=((v+4294967296*x:Nat):Int):=by
 have e:(x:Int)*4294967296=((x*4294967296:Nat):Int):=by omega
 rw[e,u64_or_nat _ _ (by omega) (by omega),Nat.or_comm,nat_join32 _ _ (by omega) hv];omega
theorem tP(v x:Nat)(hv:v<4294967296)(hx:x<4294967296):bits .or .u64 ((x:Int)*4294967296) (v:Int)=((v+4294967296*x:Nat):Int):=by
 have e:(x:Int)*4294967296=((x*4294967296:Nat):Int):=by omega
 rw[e,u64_or_nat _ _ (by omega) (by omega),nat_join32 _ _ (by omega) hv];omega
theorem or_zero(x:Nat)(hx:x<4294967296):bits .or .u64 0 (x:Int)=(x:Int):=by
 have:=u64_or_nat 0 x (by omega) (by omega)
 simpa using this
theorem Ao:(Tryz.prog.info? 75).map (·.size)=some 1:=by kernel_rfl
theorem pX{w:World}{A:Option Addr}{c:Nat}{xs:List Nat}(h:bQ w A c xs)(h0:0<xs.length):
 ∃ad,A=some ad/\∀j v,(xs.map fun x=>Value.int .u32 ((x:Nat):Int))[j]?=some v->w.cell? (ad.add j)=some v:=by
 obtain⟨b,off,rfl,_,hc⟩:=h.at_ h0;refine⟨_,rfl,fun j v hj=>?_⟩
 have hl:j<xs.length:=by
  have:=(aC.1 hj).1
  simpa using this
 have hv:v= .int .u32 ((xs[j]?.getD 0:Nat):Int):=by
  rw[List.getElem?_map,aB hl]at hj;simp at hj;rw[<-hj,aB hl];rfl
 have he:(Addr.mk b off none).add j=⟨b,off+j,none⟩:=by
  unfold Addr.add;split
  ·next h0=>rw[h0];rfl
  ·rfl
 rw[he,hv];exact hc j hl
theorem Ks{w1:World}{B g off dLen dCap c:Nat}{A:Option Addr}{zs xs:List Nat}{w0:World}(hr:Row w1 g zs)(hx:bQ w1 A c xs)(hd:xs.length<=dLen)(hfit:off+xs.length<=zs.length)(hb:Below B w0 w1)(hg:B<=g):
 ∃w2,(Builtin.copy_ #[41,41] 3 #[.slice (some ⟨g,off,none⟩) dLen dCap, .slice A xs.length c]).run Tryz.prog w1= .ok (goInt xs.length) w2/\Row w2 g (zs.take off++ (xs++zs.drop (off+xs.length)))/\Below B w0 w2:=by
 have hmin:Nat.min xs.length dLen=xs.length:=Nat.min_eq_left hd;rcases aM xs.length with h0|h0
 ·obtain rfl:xs=[]:=List.eq_nil_of_length_eq_zero h0;have h:=run_copy_none (P:=Tryz.prog) w1 41 41 3 75 (some ⟨g,off,none⟩) A dLen dCap 0 c Tryz.underlying41 Ao (by simp);refine⟨w1,h,?_,hb⟩
  simpa using hr
 ·obtain⟨ad,rfl,hsrc⟩:=pX hx h0
  have h:=run_copy_row (P:=Tryz.prog) w1 41 41 3 75 g off dLen dCap ad xs.length c (cellsOf zs) 75 (xs.map fun x=>Value.int .u32 ((x:Nat):Int)) Tryz.underlying41 Ao hr
   (by simp[hmin]) hsrc (by simp[cellsOf];omega) (by intro v hv;obtain⟨x,_,rfl⟩:=List.mem_map.1 hv;rfl)
  rw[List.length_map]at h;refine⟨_,h,?_,below_setRow hb hg _⟩
  have e:(cellsOf zs).toList.take off++ (xs.map (fun x=>Value.int .u32 ((x:Nat):Int))++ (cellsOf zs).toList.drop (off+xs.length))=(zs.take off++ (xs++zs.drop (off+xs.length))).map fun x=>Value.int .u32 ((x:Nat):Int):=by
   simp[cellsOf,List.map_take,List.map_drop]
  rw[List.append_assoc,e];exact setRow_heap w1 g _ _ 75 _ hr
/- Contracts of package natural: cutting of zero limbs, comparison. -/
theorem eF(A:Option Addr)(xs:List Nat)(c:Nat)(w:World)(h:bQ w A c xs):
 Calls Tryz.prog 95 #[.slice A xs.length c] w fun e w'=>e= .returned (.slice A (limbs (val xs)).length c)/\w=w':=by
 have hc:=h.cap;have hm:=h.max;go_enter Tryz.func95,Tryz.ntmps95
 go_wp2
 go_loop [3] (fun t=>∃n:Nat,n<=xs.length/\t= .int .i64 n/\val (xs.drop n)=0) (fun t=>(intOf t).toNat)
 case atStart=>exact⟨xs.length,aj _,rfl,by simp[val]⟩
 case round=>
  obtain⟨n,hn,rfl,hv⟩:=hrel;have HV:=ah hv;clear hv;rcases aM n with rfl|hp
  ·have hl:(limbs (val xs)).length=0:=by rw[<-mK h.lb hn HV.out (.inl rfl)];simp
   have HL:=ah hl;clear hl;go_wp2
   go_ret;exact⟨by rw[HL.out];rfl,rfl⟩
  ·obtain⟨m,rfl⟩:∃m,n=m+1:=⟨n-1,by omega⟩;have hLb:=h.lb;obtain⟨b,off,rfl,hb,hcell⟩:=h.at_ (by omega);have hx:=hcell m (by omega);clear hcell h;obtain⟨x,ex⟩:=xeq (xs[m]?.getD 0);rw[ex]at hx;have EX:=ah ex;clear ex
   by_cases h0:x=0
   ·subst h0;go_wp2
    go_round
    case rel=>exact⟨m,by omega,by go_num,oU (by omega) HV.out EX.out⟩
    case measure=>simp[intOf]
   ·have hb0:((x:Int)==0)=false:=by simp;omega
    have hl:(limbs (val xs)).length=m+1:=by
     rw[<-mK hLb hn HV.out (.inr (by simp only[Nat.add_sub_cancel];rw[EX.out];exact h0))];simp;omega
    have HL:=ah hl;clear hl;go_wp2
    go_ret;exact⟨by rw[HL.out];rfl,rfl⟩
theorem mL{w w1:World}{g k n:Nat}{rs:List Nat}(hr:Row w1 g rs)(hz:Lb rs)(hg:w.heap.size<=g)(hk:rs.length=k)(hm:k<=70368744177664)(hv:val rs=n)(hb:Below w.heap.size w w1):
 Calls Tryz.prog 95 #[.slice (some ⟨g,0,none⟩) k k] w1 (dW w n):=by
 subst hk hv;have hown:=hr.own hz hg (by omega);refine(eF _ _ _ _ hown.lim).mono ?_;rintro e w' ⟨rfl,rfl⟩;exact⟨_,_,rfl,hown.cut,hb⟩
theorem dZ(A B:Option Addr)(xs ys:List Nat)(c d:Nat)(w:World)(ha:bQ w A c xs)(hb:bQ w B d ys):
 Calls Tryz.prog 60 #[.slice A xs.length c, .slice B ys.length d] w fun e w'=>e= .returned (.int .i64 (gq (val xs) (val ys)))/\∃n,w'=w.drewN n:=by
 have hc:=ha.cap;have hm:=ha.max;have hd:=hb.cap;have hn:=hb.max;go_enter Tryz.func60,Tryz.ntmps60
 go_wp2_with fail
 refine(eF _ _ _ _ ha).mono ?_;rintro e w' ⟨rfl,rfl⟩;go_wp2_with fail
 refine(eF _ _ _ _ hb).mono ?_;rintro e w' ⟨rfl,rfl⟩;have la:=bh ha.lb;have lb:=bh hb.lb;replace ha:=ha.cut;replace hb:=hb.cut;have ea:=aV (val xs);have eb:=aV (val ys);have EA:=ah ea;have EB:=ah eb;clear ea eb;have G8:=ah (@iD (val xs) (val ys));have NP:=ah (@iD (val ys) (val xs));generalize limbs (val xs)=us at*;generalize limbs (val ys)=vs at*
 by_cases hne:us.length=vs.length
 ·have hb1:((us.length:Int) !=(vs.length:Int))=false:=by simp[hne]
  have HN:=ah hne;clear hne;go_wp2_with fail
  go_loopw [5] (fun t wr=>∃k:Nat,k<=us.length/\t= .int .i64 ((k:Int) -1)/\val (us.drop k)=val (vs.drop k)/\∃n,wr=w.drewN n) (fun t _=>(intOf t+1).toNat)
  case atStart=>exact⟨us.length,aj _,rfl,by rw[List.drop_length,HN.out,List.drop_length],0,rfl⟩
  case round=>
   obtain⟨k,hk,ht,hv,n,rfl⟩:=hrel;have HV:=ah hv;clear hv;rcases aM k with rfl|hp
   ·subst ht;go_wp2
    go_ret;exact⟨by rw[jY (by rw[<-EA.out,<-EB.out];exact HV.out)];rfl,n,rfl⟩
   ·obtain⟨m,rfl⟩:∃m,k=m+1:=⟨k-1,by omega⟩;obtain rfl:=ht.trans (show Value.int .i64 (((m+1:Nat):Int) -1)= .int .i64 (m:Int) by congr 1;omega);have e2:=HN.out;have hm2:m<vs.length:=by omega
    clear e2;have lba:=ha.lb;have lbb:=hb.lb;obtain⟨b1,o1,rfl,YD,hc1⟩:=ha.at_ (by omega);obtain⟨b2,o2,rfl,YE,hc2⟩:=hb.at_ (by omega);have hx:=hc1 m (by omega);have hy:=hc2 m (by omega);clear hc1 hc2 ha hb;obtain⟨x,ex⟩:=xeq (us[m]?.getD 0);obtain⟨y,ey⟩:=xeq (vs[m]?.getD 0);rw[ex]at hx;rw[ey]at hy;have EX:=ah ex;have EY:=ah ey;clear ex ey;have i0:(0:Int)<=(m:Int):=by omega
    have i1:(m:Int)<us.length:=by omega
    have i2:(m:Int)<vs.length:=by omega
    rcases Nat.lt_trichotomy x y with hl|hl|hl
    ·go_wp2
     go_quiet (fail)
     go_wp2
     go_ret;exact⟨by rw[lG (by rw[<-EA.out,<-EB.out];exact tM lba (by omega) hm2 HV.out (by rw[EX.out,EY.out];exact hl))];rfl,_,World.drewN_drewN _ _ _⟩
    ·subst hl;go_wp2
     go_quiet (fail)
     go_wp2
     go_quiet (fail)
     go_wp2
     go_roundw
     case rel=>exact⟨m,by omega,rfl,pW (by omega) hm2 HV.out (by rw[EX.out,EY.out]),_,rfl⟩
     case measure=>simp[intOf]
    ·go_wp2
     go_quiet (fail)
     go_wp2
     go_quiet (fail)
     go_wp2
     go_ret;exact⟨by rw[iE (by rw[<-EA.out,<-EB.out];exact tM lbb hm2 (by omega) HV.out.symm (by rw[EX.out,EY.out];exact hl))];rfl,_,by rw[World.drewN_drewN,World.drewN_drewN]⟩
 ·rcases Nat.lt_or_gt_of_ne hne with hl|hl
  ·have hb1:((us.length:Int) !=(vs.length:Int))=true:=by simp;omega
   go_wp2_with fail
   go_ret;exact⟨by rw[lG (G8.out hl)];rfl,0,rfl⟩
  ·have hb1:((us.length:Int) !=(vs.length:Int))=true:=by simp;omega
   have hb2:¬((us.length:Int)< (vs.length:Int)):=by omega
   go_wp2_with fail
   go_ret;exact⟨by rw[iE (NP.out hl)];rfl,0,rfl⟩
/- Contracts of package natural: sums. -/
theorem Ti(A B:Option Addr)(xs ys:List Nat)(c d:Nat)(w:World)(ha:bQ w A c xs)(hb:bQ w B d ys)
 (hs:xs.length<70368744177664) (hle:(limbs (val ys)).length<=(limbs (val xs)).length):
 Calls Tryz.prog 101 #[.slice A xs.length c, .slice B ys.length d] w (dW w (val xs+val ys)):=by
 have hc:=ha.cap;have hm:=ha.max;have hd:=hb.cap;have hn:=hb.max;go_enter Tryz.func101,Tryz.ntmps101
 go_wp2_with fail
 refine(eF _ _ _ _ ha).mono ?_;rintro e w' ⟨rfl,rfl⟩;go_wp2_with fail
 refine(eF _ _ _ _ hb).mono ?_;rintro e w' ⟨rfl,rfl⟩;have la:=bh ha.lb;have lb:=bh hb.lb;replace ha:=ha.cut;replace hb:=hb.cut;have EA:=ah (aV (val xs));have EB:=ah (aV (val ys));generalize limbs (val xs)=us at*;generalize limbs (val ys)=vs at*;have hmk:=jg (↑us.length+1) (us.length+1) (by omega) (by omega);go_wp2_with fail
 go_loopw [6,26] (fun t i wr=>∃(k q:Nat) (zs:List Nat),k<=us.length/\i= .int .i64 k/\t= .int .u64 q/\q<=1/\zs.length=us.length+1/\Lb zs/\Row wr w.heap.size zs/\Below w.heap.size w wr/\(∀j,k<=j->zs[j]?.getD 0=0)/\val zs+Ba ^ k*q=val (us.take k)+val (vs.take k)) (fun _ i _=>us.length- (intOf i).toNat)
 case atStart=>exact⟨0,0,zeros (us.length+1),aF _,rfl,rfl,by omega,cS _,gB _,Row.new _ _,(aq _ _).alloc (aj _) _,fun j _=>gK _ _,by simp[fV,val]⟩
 case round=>
  obtain⟨k,q,zs,hk,rfl,rfl,hq,hl,hz,hrow,bP,h0,hv⟩:=hrel;have HV:=ah hv;have H0:=ah h0;have HL:=ah hl;clear hv h0 hl hmk
  by_cases hlt:k<us.length
  ·obtain⟨b1,o1,rfl,hb1,hc1⟩:=ha.at_ (by omega);have hx:=(bP.cell (p:=⟨b1,o1+k,none⟩) hb1).trans (hc1 k hlt);have bx:us[k]?.getD 0<4294967296:=ha.lb.get k;obtain⟨x,ex⟩:=xeq (us[k]?.getD 0);rw[ex]at hx bx;have EX:=ah ex;have hs1:=hrow.cell (i:=k) (by rw[HL.out];omega);have oN:=hrow.frozen k;rw[H0.out k (aj _)]at hs1;clear ex hc1
   by_cases hlb:k<vs.length
   ·obtain⟨b2,o2,rfl,hb2,hc2⟩:=hb.at_ (by omega);have hy:=(bP.cell (p:=⟨b2,o2+k,none⟩) hb2).trans (hc2 k hlb);have bY:vs[k]?.getD 0<4294967296:=hb.lb.get k;obtain⟨y,ey⟩:=xeq (vs[k]?.getD 0);rw[ey]at hy bY;have EY:=ah ey;clear ey hc2;go_wp2
    have hr:=hrow.put k ((q+x+y) % Ba) (z:=((q:Int)+x+y) % 4294967296) (by simp only[bU];omega);have hstep:=nH (xs:=us) (ys:=vs) (zs:=zs) (i:=k) (c:=q) (by rw[HL.out];omega) H0.out HV.out;rw[EX.out,EY.out]at hstep;go_roundw
    case rel=>exact⟨k+1,(q+x+y)/Ba,zs.set k ((q+x+y) % Ba),by omega,by go_num,by simp only[bU];go_num,by simp only[bU];omega,by rw[List.length_set];exact HL.out,hz.set _ _ (Nat.mod_lt _ cR),hr,bP.setCell (aj _) _,dN H0.out,hstep⟩
    case measure=>simp[intOf];omega
   ·have hy0:vs[k]?.getD 0=0:=by rw[aQ (by omega)];rfl
    have EY:=ah hy0;clear hy0;have YF:¬((k:Int)<vs.length):=by omega
    go_wp2
    have hr:=hrow.put k ((q+x+0) % Ba) (z:=((q:Int)+x) % 4294967296) (by simp only[bU];omega);have hstep:=nH (xs:=us) (ys:=vs) (zs:=zs) (i:=k) (c:=q) (by rw[HL.out];omega) H0.out HV.out;rw[EX.out,EY.out]at hstep;go_roundw
    case rel=>exact⟨k+1,(q+x+0)/Ba,zs.set k ((q+x+0) % Ba),by omega,by go_num,by simp only[bU];go_num,by simp only[bU];omega,by rw[List.length_set];exact HL.out,hz.set _ _ (Nat.mod_lt _ cR),hr,bP.setCell (aj _) _,dN H0.out,hstep⟩
    case measure=>simp[intOf];omega
  ·obtain rfl:k=us.length:=by omega
   have hs1:=hrow.cell (i:=us.length) (by rw[HL.out];omega);have oN:=hrow.frozen us.length;rw[H0.out us.length (aj _)]at hs1;have hr:=hrow.put us.length q (z:=(q:Int)) rfl;have e1:=fD (zs:=zs) (k:=us.length) q (by rw[HL.out];omega);rw[H0.out us.length (aj _)]at e1
   have hval:val (zs.set us.length q)=val xs+val ys:=by
    rw[<-EA.out,<-EB.out];have:=HV.out;rw[aI (aj _),aI (by omega)]at this;omega
   have hlen:(zs.set us.length q).length=us.length+1:=by rw[List.length_set];exact HL.out
   have hzl:=hz.set us.length q (by have:=bU;omega);have hb2:=bP.setCell (p:=⟨w.heap.size,us.length,none⟩) (aj _) (.int .u32 (q:Int));have iR:=ah hval;have sx:=ah hlen;clear hval hlen e1;go_wp2_with fail
   refine(mL hr hzl (aj _) sx.out (by omega) iR.out hb2).mono ?_;rintro e w' ⟨A',c',rfl,r3,r4⟩;go_wp2
   go_ret;exact⟨A',c',rfl,r3,r4⟩
theorem Tj(A B:Option Addr)(xs ys:List Nat)(c d:Nat)(w:World)(ha:bQ w A c xs)(hb:bQ w B d ys)
 (hs:ys.length<70368744177664) (hle:(limbs (val xs)).length< (limbs (val ys)).length):
 Calls Tryz.prog 101 #[.slice A xs.length c, .slice B ys.length d] w (dW w (val ys+val xs)):=by
 have hc:=ha.cap;have hm:=ha.max;have hd:=hb.cap;have hn:=hb.max;go_enter Tryz.func101,Tryz.ntmps101
 go_wp2_with fail
 refine(eF _ _ _ _ ha).mono ?_;rintro e w' ⟨rfl,rfl⟩;go_wp2_with fail
 refine(eF _ _ _ _ hb).mono ?_;rintro e w' ⟨rfl,rfl⟩;have la:=bh ha.lb;have lb:=bh hb.lb;replace ha:=ha.cut;replace hb:=hb.cut;have EA:=ah (aV (val xs));have EB:=ah (aV (val ys));generalize limbs (val xs)=us at*;generalize limbs (val ys)=vs at*;have hmk:=jg (↑vs.length+1) (vs.length+1) (by omega) (by omega);go_wp2_with fail
 go_loopw [6,26] (fun t i wr=>∃(k q:Nat) (zs:List Nat),k<=vs.length/\i= .int .i64 k/\t= .int .u64 q/\q<=1/\zs.length=vs.length+1/\Lb zs/\Row wr w.heap.size zs/\Below w.heap.size w wr/\(∀j,k<=j->zs[j]?.getD 0=0)/\val zs+Ba ^ k*q=val (vs.take k)+val (us.take k)) (fun _ i _=>vs.length- (intOf i).toNat)
 case atStart=>exact⟨0,0,zeros (vs.length+1),aF _,rfl,rfl,by omega,cS _,gB _,Row.new _ _,(aq _ _).alloc (aj _) _,fun j _=>gK _ _,by simp[fV,val]⟩
 case round=>
  obtain⟨k,q,zs,hk,rfl,rfl,hq,hl,hz,hrow,bP,h0,hv⟩:=hrel;have HV:=ah hv;have H0:=ah h0;have HL:=ah hl;clear hv h0 hl hmk
  by_cases hlt:k<vs.length
  ·obtain⟨b1,o1,rfl,hb1,hc1⟩:=hb.at_ (by omega);have hx:=(bP.cell (p:=⟨b1,o1+k,none⟩) hb1).trans (hc1 k hlt);have bx:vs[k]?.getD 0<4294967296:=hb.lb.get k;obtain⟨x,ex⟩:=xeq (vs[k]?.getD 0);rw[ex]at hx bx;have E1:=ah ex;have hs1:=hrow.cell (i:=k) (by rw[HL.out];omega);have oN:=hrow.frozen k;rw[H0.out k (aj _)]at hs1;clear ex hc1
   by_cases hlb:k<us.length
   ·obtain⟨b2,o2,rfl,hb2,hc2⟩:=ha.at_ (by omega);have hy:=(bP.cell (p:=⟨b2,o2+k,none⟩) hb2).trans (hc2 k hlb);have bY:us[k]?.getD 0<4294967296:=ha.lb.get k;obtain⟨y,ey⟩:=xeq (us[k]?.getD 0);rw[ey]at hy bY;have EY:=ah ey;clear ey hc2;go_wp2
    have hr:=hrow.put k ((q+x+y) % Ba) (z:=((q:Int)+x+y) % 4294967296) (by simp only[bU];omega);have hstep:=nH (xs:=vs) (ys:=us) (zs:=zs) (i:=k) (c:=q) (by rw[HL.out];omega) H0.out HV.out;rw[E1.out,EY.out]at hstep;go_roundw
    case rel=>exact⟨k+1,(q+x+y)/Ba,zs.set k ((q+x+y) % Ba),by omega,by go_num,by simp only[bU];go_num,by simp only[bU];omega,by rw[List.length_set];exact HL.out,hz.set _ _ (Nat.mod_lt _ cR),hr,bP.setCell (aj _) _,dN H0.out,hstep⟩
    case measure=>simp[intOf];omega
   ·have hy0:us[k]?.getD 0=0:=by rw[aQ (by omega)];rfl
    have EY:=ah hy0;clear hy0;have YF:¬((k:Int)<us.length):=by omega
    go_wp2
    have hr:=hrow.put k ((q+x+0) % Ba) (z:=((q:Int)+x) % 4294967296) (by simp only[bU];omega);have hstep:=nH (xs:=vs) (ys:=us) (zs:=zs) (i:=k) (c:=q) (by rw[HL.out];omega) H0.out HV.out;rw[E1.out,EY.out]at hstep;go_roundw
    case rel=>exact⟨k+1,(q+x+0)/Ba,zs.set k ((q+x+0) % Ba),by omega,by go_num,by simp only[bU];go_num,by simp only[bU];omega,by rw[List.length_set];exact HL.out,hz.set _ _ (Nat.mod_lt _ cR),hr,bP.setCell (aj _) _,dN H0.out,hstep⟩
    case measure=>simp[intOf];omega
  ·obtain rfl:k=vs.length:=by omega
   have hs1:=hrow.cell (i:=vs.length) (by rw[HL.out];omega);have oN:=hrow.frozen vs.length;rw[H0.out vs.length (aj _)]at hs1;have hr:=hrow.put vs.length q (z:=(q:Int)) rfl;have e1:=fD (zs:=zs) (k:=vs.length) q (by rw[HL.out];omega);rw[H0.out vs.length (aj _)]at e1
   have hval:val (zs.set vs.length q)=val ys+val xs:=by
    rw[<-EB.out,<-EA.out];have:=HV.out;rw[aI (aj _),aI (by omega)]at this;omega
   have hlen:(zs.set vs.length q).length=vs.length+1:=by rw[List.length_set];exact HL.out
   have hzl:=hz.set vs.length q (by have:=bU;omega);have hb2:=bP.setCell (p:=⟨w.heap.size,vs.length,none⟩) (aj _) (.int .u32 (q:Int));have iR:=ah hval;have sx:=ah hlen;clear hval hlen e1;go_wp2_with fail
   refine(mL hr hzl (aj _) sx.out (by omega) iR.out hb2).mono ?_;rintro e w' ⟨A',c',rfl,r3,r4⟩;go_wp2
   go_ret;exact⟨A',c',rfl,r3,r4⟩
theorem YG(A B:Option Addr)(xs ys:List Nat)(c d:Nat)(w:World)(ha:bQ w A c xs)(hb:bQ w B d ys)
 (hs:xs.length<70368744177664) (ht:ys.length<70368744177664):
 Calls Tryz.prog 101 #[.slice A xs.length c, .slice B ys.length d] w (dW w (val xs+val ys)):=by
 rcases aN (limbs (val xs)).length (limbs (val ys)).length with h|h
 ·rw[Nat.add_comm];exact Tj A B xs ys c d w ha hb ht h
 ·exact Ti A B xs ys c d w ha hb hs h
/- Contracts of package natural: differences. -/
def kF(w:World)(n:Nat)(e:Ending)(w':World):Prop:=
 ∃A c,e= .returned (.tuple #[.slice A (limbs n).length c, .bool true])/\Own w.heap.size w' A c (limbs n)/\Below w.heap.size w w'
def YH(w:World)(e:Ending)(w':World):Prop:=e= .returned (.tuple #[.slice none 0 0, .bool false])/\∃n,w'=w.drewN n
theorem Tk(A B:Option Addr)(xs ys:List Nat)(c d:Nat)(w:World)(ha:bQ w A c xs)(hb:bQ w B d ys)
 (hlt:val xs<val ys):
 Calls Tryz.prog 102 #[.slice A xs.length c, .slice B ys.length d] w (YH w):=by
 have hc:=ha.cap;have hm:=ha.max;have hd:=hb.cap;have hn:=hb.max;go_enter Tryz.func102,Tryz.ntmps102
 go_wp2_with fail
 refine(eF _ _ _ _ ha).mono ?_;rintro e w' ⟨rfl,rfl⟩;go_wp2_with fail
 refine(eF _ _ _ _ hb).mono ?_;rintro e w' ⟨rfl,rfl⟩;have la:=bh ha.lb;have lb:=bh hb.lb;have ec:gq (val (limbs (val xs))) (val (limbs (val ys)))= -1:=by rw[aV,aV];exact lG hlt
 have EC:=ah ec;clear ec;go_wp2_with fail
 refine(dZ _ _ _ _ _ _ _ ha.cut hb.cut).mono ?_;rintro e w' ⟨rfl,n,rfl⟩;rw[EC.out];go_wp2_with fail
 go_ret2;exact⟨rfl,n,rfl⟩
theorem C8(A B:Option Addr)(xs ys:List Nat)(c d:Nat)(w:World)(ha:bQ w A c xs)(hb:bQ w B d ys)
 (hs:xs.length<=70368744177664) (hge:val ys<=val xs):
 Calls Tryz.prog 102 #[.slice A xs.length c, .slice B ys.length d] w (kF w (val xs-val ys)):=by
 have hc:=ha.cap;have hm:=ha.max;have hd:=hb.cap;have hn:=hb.max;go_enter Tryz.func102,Tryz.ntmps102
 go_wp2_with fail
 refine(eF _ _ _ _ ha).mono ?_;rintro e w' ⟨rfl,rfl⟩;go_wp2_with fail
 refine(eF _ _ _ _ hb).mono ?_;rintro e w' ⟨rfl,rfl⟩;have la:=bh ha.lb;have lb:=bh hb.lb
 have ec:0<=gq (val (limbs (val xs))) (val (limbs (val ys))):=by
  rw[aV,aV];rcases Nat.lt_or_eq_of_le hge with h|h
  ·rw[iE h];omega
  ·rw[jY h.symm];omega
 go_wp2_with fail
 refine(dZ _ _ _ _ _ _ _ ha.cut hb.cut).mono ?_;rintro e w' ⟨rfl,n,rfl⟩;replace ha:=ha.cut;replace hb:=hb.cut;have EA:=ah (aV (val xs));have EB:=ah (aV (val ys));have hle:=bN hge;have HGE:=ah hge;clear hge;generalize gq (val (limbs (val xs))) (val (limbs (val ys)))=z at*;generalize limbs (val xs)=us at*;generalize limbs (val ys)=vs at*;have YI:¬z<0:=by omega
 have hmk:=jg (↑us.length) us.length rfl (by omega);go_wp2_with fail
 go_loopw [7,24] (fun t i wr=>∃(k q:Nat) (zs:List Nat),k<=us.length/\i= .int .i64 k/\t= .int .u64 q/\q<=1/\zs.length=us.length/\Lb zs/\Row wr w.heap.size zs/\Below w.heap.size w wr/\(∀j,k<=j->zs[j]?.getD 0=0)/\val zs+val (vs.take k)=val (us.take k)+Ba ^ k*q) (fun _ i _=>us.length- (intOf i).toNat)
 case atStart=>exact⟨0,0,zeros us.length,aF _,rfl,rfl,by omega,cS _,gB _,Row.new _ _,(below_drewN (aq w.heap.size w) n).alloc (aj _) _,fun j _=>gK _ _,by simp[fV,val]⟩
 case round=>
  obtain⟨k,q,zs,hk,rfl,rfl,hq,hl,hz,hrow,bP,h0,hv⟩:=hrel;have HV:=ah hv;have H0:=ah h0;have HL:=ah hl;clear hv h0 hl hmk
  by_cases hlt:k<us.length
  ·obtain⟨b1,o1,rfl,hb1,hc1⟩:=ha.at_ (by omega);have hx:=(bP.cell (p:=⟨b1,o1+k,none⟩) hb1).trans (hc1 k hlt);have bx:us[k]?.getD 0<4294967296:=ha.lb.get k;obtain⟨x,ex⟩:=xeq (us[k]?.getD 0);rw[ex]at hx bx;have EX:=ah ex;have hs1:=hrow.cell (i:=k) (by rw[HL.out];omega);have oN:=hrow.frozen k;rw[H0.out k (aj _)]at hs1;clear ex hc1
   by_cases hlb:k<vs.length
   ·obtain⟨b2,o2,rfl,hb2,hc2⟩:=hb.at_ (by omega);have hy:=(bP.cell (p:=⟨b2,o2+k,none⟩) hb2).trans (hc2 k hlb);have bY:vs[k]?.getD 0<4294967296:=hb.lb.get k;obtain⟨y,ey⟩:=xeq (vs[k]?.getD 0);rw[ey]at hy bY;have EY:=ah ey;clear ey hc2
    by_cases g1:q+y<=x
    ·go_wp2
     have hr:=hrow.put k (x-q-y) (z:=(x:Int) -q-y) (by omega);have hstep:=nI (xs:=us) (ys:=vs) (zs:=zs) (i:=k) (c:=q) (z:=x-q-y) (by rw[HL.out];omega) H0.out HV.out (by rw[EX.out,EY.out];have:=bU;omega);go_roundw
     case rel=>exact⟨k+1,0,zs.set k (x-q-y),by omega,by go_num,by go_num,by omega,by rw[List.length_set];exact HL.out,hz.set _ _ (by have:=bU;omega),hr,bP.setCell (aj _) _,dN H0.out,hstep⟩
     case measure=>simp[intOf];omega
    ·by_cases g2:q<=x
     ·go_wp2
      have hr:=hrow.put k (x+Ba-q-y) (z:=IntKind.u64.wrap ((x:Int) -q-y) % 4294967296) (by rw[nJ _ (by omega) (by omega)];have:=bU;omega);have hstep:=jX (xs:=us) (ys:=vs) (zs:=zs) (i:=k) (c:=q) (z:=x+Ba-q-y) (by rw[HL.out];omega) H0.out HV.out (by rw[EX.out,EY.out];have:=bU;omega);go_roundw
      case rel=>exact⟨k+1,1,zs.set k (x+Ba-q-y),by omega,by go_num,by rw[lZ _ (by omega) (by omega)];rfl,by omega,by rw[List.length_set];exact HL.out,hz.set _ _ (by have:=bU;omega),hr,bP.setCell (aj _) _,dN H0.out,hstep⟩
      case measure=>simp[intOf];omega
     ·go_wp2
      have hr:=hrow.put k (x+Ba-q-y) (z:=IntKind.u64.wrap (IntKind.u64.wrap ((x:Int) -q) -y) % 4294967296) (by rw[Am,nJ _ (by omega) (by omega)];have:=bU;omega);have hstep:=jX (xs:=us) (ys:=vs) (zs:=zs) (i:=k) (c:=q) (z:=x+Ba-q-y) (by rw[HL.out];omega) H0.out HV.out (by rw[EX.out,EY.out];have:=bU;omega);go_roundw
      case rel=>exact⟨k+1,1,zs.set k (x+Ba-q-y),by omega,by go_num,by rw[Am,lZ _ (by omega) (by omega)];rfl,by omega,by rw[List.length_set];exact HL.out,hz.set _ _ (by have:=bU;omega),hr,bP.setCell (aj _) _,dN H0.out,hstep⟩
      case measure=>simp[intOf];omega
   ·have YF:¬((k:Int)<vs.length):=by omega
    have hy0:vs[k]?.getD 0=0:=by rw[aQ (by omega)];rfl
    have EY:=ah hy0;clear hy0
    by_cases g1:q<=x
    ·go_wp2
     have hr:=hrow.put k (x-q) (z:=(x:Int) -q) (by omega);have hstep:=nI (xs:=us) (ys:=vs) (zs:=zs) (i:=k) (c:=q) (z:=x-q) (by rw[HL.out];omega) H0.out HV.out (by rw[EX.out,EY.out];have:=bU;omega);go_roundw
     case rel=>exact⟨k+1,0,zs.set k (x-q),by omega,by go_num,by go_num,by omega,by rw[List.length_set];exact HL.out,hz.set _ _ (by have:=bU;omega),hr,bP.setCell (aj _) _,dN H0.out,hstep⟩
     case measure=>simp[intOf];omega
    ·go_wp2
     have hr:=hrow.put k (x+Ba-q) (z:=IntKind.u64.wrap ((x:Int) -q) % 4294967296) (by rw[nJ _ (by omega) (by omega)];have:=bU;omega);have hstep:=jX (xs:=us) (ys:=vs) (zs:=zs) (i:=k) (c:=q) (z:=x+Ba-q) (by rw[HL.out];omega) H0.out HV.out (by rw[EX.out,EY.out];have:=bU;omega);go_roundw
     case rel=>exact⟨k+1,1,zs.set k (x+Ba-q),by omega,by go_num,by rw[lZ _ (by omega) (by omega)];rfl,by omega,by rw[List.length_set];exact HL.out,hz.set _ _ (by have:=bU;omega),hr,bP.setCell (aj _) _,dN H0.out,hstep⟩
     case measure=>simp[intOf];omega
  ·obtain rfl:k=us.length:=by omega
   have hval:val zs=val xs-val ys:=by
    rw[<-EA.out,<-EB.out];have:=HV.out;rw[aI (aj _),aI (by omega)]at this;exact FA hz HL.out (by rw[EA.out,EB.out];exact HGE.out) this
   have iR:=ah hval;clear hval;go_wp2_with fail
   refine(mL hrow hz (aj _) HL.out (by omega) iR.out bP).mono ?_;rintro e w' ⟨A',c',rfl,r3,r4⟩;go_wp2
   go_ret2;exact⟨A',c',rfl,r3,r4⟩
/- Contracts of package natural: numbers of 64 bits. -/
theorem cW(v:Nat)(w:World)(hv:v<Ba*Ba):
 Calls Tryz.prog 94 #[.int .u64 (v:Int)] w (dW w v):=by
 have h1:(v:Int)<18446744073709551616:=by have:Ba*Ba=18446744073709551616:=by decide
                                          omega
 go_enter Tryz.func94,Tryz.ntmps94
 go_wp2_with fail
 have hr:Row (w.alloc (.cells #[.int .u32 ((v:Int) % 4294967296), .int .u32 ((v:Int)/4294967296)] 75)) w.heap.size [v % Ba,v/Ba]:=Row.new w [v % Ba,v/Ba];refine(mL hr (Kp hv) (aj _) rfl (by simp) (val_two v) ((aq _ _).alloc (aj _) _)).mono ?_;rintro e w' ⟨A',c',rfl,r3,r4⟩;go_wp2
 go_ret;exact⟨A',c',rfl,r3,r4⟩
theorem py(A:Option Addr)(xs:List Nat)(c:Nat)(w:World)(h:bQ w A c xs)(hl:xs.length<=2):
 Calls Tryz.prog 122 #[.slice A xs.length c] w fun e w'=>e= .returned (.int .u64 (val xs:Nat))/\w=w':=by
 go_enter Tryz.func122,Tryz.ntmps122
 go_wp2
 go_loop [3,8] (fun t i=>∃k:Nat,k<=xs.length/\i= .int .i64 k/\t= .int .u64 (val (xs.take k):Nat)) (fun _ i=>xs.length- (intOf i).toNat)
 case atStart=>exact⟨0,aF _,rfl,by simp[val]⟩
 case round=>
  obtain⟨k,hk,rfl,rfl⟩:=hrel
  by_cases hlt:k<xs.length
  ·obtain⟨b,off,rfl,hb,hcell⟩:=h.at_ (by omega);have hx:=hcell k (by omega);have bx:xs[k]?.getD 0<4294967296:=h.lb.get k;clear hcell;have hs:=lQ (xs:=xs) hlt;obtain⟨x,ex⟩:=xeq (xs[k]?.getD 0);rw[ex]at hx bx hs;have HS:=ah hs
   have Ac:val (xs.take k)<4294967296:=by
    have h1:=dG h.lb k;have h2:Ba ^ k<=Ba ^ 1:=Nat.pow_le_pow_right cR (by omega);have h3:Ba ^ 1=4294967296:=by decide
    omega
   clear ex hs;have hk2:k=0∨k=1:=by omega
   rcases hk2 with rfl|rfl
   ·have e0:val (xs.take 0)=0:=by simp[val]
    rw[e0];rw[Nat.add_zero]at hx;go_wp2
    go_round
    case rel=>exact⟨1,by omega,by go_num,by rw[HS.out,e0];simp[or_zero x bx]⟩
    case measure=>simp[intOf];omega
   ·obtain⟨v,ev⟩:=xeq (val (xs.take 1));rw[ev]at Ac⊢;have EV:=ah ev;clear ev;go_wp2
    go_round
    case rel=>exact⟨2,by omega,by go_num,by rw[HS.out,EV.out,Rs v x Ac bx];rfl⟩
    case measure=>simp[intOf];omega
  ·go_wp2
   go_ret;exact⟨by rw[aI (by omega)];rfl,rfl⟩
theorem C9(A:Option Addr)(xs:List Nat)(c:Nat)(w:World)(h:bQ w A c xs)(hv:val xs<Ba*Ba):
 Calls Tryz.prog 93 #[.slice A xs.length c] w fun e w'=>e= .returned (.tuple #[.int .u64 (val xs:Nat), .bool true])/\w=w':=by
 go_enter Tryz.func93,Tryz.ntmps93
 go_wp2_with fail
 refine(eF _ _ _ _ h).mono ?_;rintro e w' ⟨rfl,rfl⟩;have h2:=fA.2 hv;go_wp2_with fail
 refine(py _ _ _ _ h.cut h2).mono ?_;rintro e w' ⟨rfl,rfl⟩;rw[aV];go_wp2_with fail
 go_ret2;exact⟨rfl,rfl⟩
theorem G9(A:Option Addr)(xs:List Nat)(c:Nat)(w:World)(h:bQ w A c xs)(hv:Ba*Ba<=val xs):
 Calls Tryz.prog 93 #[.slice A xs.length c] w fun e w'=>e= .returned (.tuple #[.int .u64 0, .bool false])/\w=w':=by
 go_enter Tryz.func93,Tryz.ntmps93
 go_wp2_with fail
 refine(eF _ _ _ _ h).mono ?_;rintro e w' ⟨rfl,rfl⟩
 have h2:(2:Int)< ((limbs (val xs)).length:Int):=by
  have:¬(limbs (val xs)).length<=2:=fun h=>by have:=fA.1 h;omega
  omega
 go_wp2_with fail
 go_ret2;exact⟨rfl,rfl⟩
theorem qU(A:Option Addr)(xs:List Nat)(c:Nat)(w:World)(h:bQ w A c xs)(hs:xs.length<=70368744177664):
 Calls Tryz.prog 97 #[.slice A xs.length c] w (dW w (val xs)):=by
 have la:=bh h.lb;have hmk:=jg (↑(limbs (val xs)).length) (limbs (val xs)).length rfl (by omega);have hb1:Below w.heap.size w (w.alloc (.cells (cellsOf (zeros (limbs (val xs)).length)) 75)):=(aq _ _).alloc (aj _) _;obtain⟨w2,hcp,hrow,bP⟩:=Ks (dLen:=(limbs (val xs)).length) (dCap:=(limbs (val xs)).length) (off:=0) (c:=c) (Row.new w (zeros (limbs (val xs)).length)) (h.cut.below hb1) (aj _) (by rw[cS];omega) hb1 (aj _)
 have e1:(zeros (limbs (val xs)).length).take 0++ (limbs (val xs)++ (zeros (limbs (val xs)).length).drop (0+ (limbs (val xs)).length))=limbs (val xs):=by
  rw[List.drop_of_length_le (by rw[cS];omega)];simp
 rw[e1]at hrow;clear e1 hb1;go_enter Tryz.func97,Tryz.ntmps97
 go_wp2_with fail
 refine(eF _ _ _ _ h).mono ?_;rintro e w' ⟨rfl,rfl⟩;go_wp2_with fail
 go_ret;exact⟨_,_,rfl,hrow.own (ig _) (aj _) (by omega),bP⟩
/- Contracts of package natural: division of small numbers. -/
def mM(w:World)(q r:Nat)(e:Ending)(w':World):Prop:=
 ∃A c B d,e= .returned (.tuple #[.slice A (limbs q).length c, .slice B (limbs r).length d, .bool true])/\Own w.heap.size w' A c (limbs q)/\Own w.heap.size w' B d (limbs r)/\Below w.heap.size w w'
theorem yq(A B:Option Addr)(xs ys:List Nat)(c d:Nat)(w:World)(ha:bQ w A c xs)(hb:bQ w B d ys)
 (h0:val ys≠0) (hge:val ys<=val xs) (sy:val xs<Ba*Ba):
 Calls Tryz.prog 99 #[.slice A xs.length c, .slice B ys.length d] w (mM w (val xs/val ys) (val xs % val ys)):=by
 have hc:=ha.cap;have hm:=ha.max;have hd:=hb.cap;have hn:=hb.max;go_enter Tryz.func99,Tryz.ntmps99
 go_wp2_with fail
 refine(eF _ _ _ _ ha).mono ?_;rintro e w' ⟨rfl,rfl⟩;go_wp2_with fail
 refine(eF _ _ _ _ hb).mono ?_;rintro e w' ⟨rfl,rfl⟩;have la:=bh ha.lb;have lb:=bh hb.lb;have l2:=fA.2 sy;have l3:=bN hge
 have Oq:(((limbs (val ys)).length:Int)==0)=false:=by
  have:(limbs (val ys)).length≠0:=fun h=>h0 (bV.1 (List.eq_nil_of_length_eq_zero h));simp;intro h;exact h0 (bV.1 h)
 have ec:0<=gq (val (limbs (val xs))) (val (limbs (val ys))):=by
  rw[aV,aV];rcases Nat.lt_or_eq_of_le hge with h|h
  ·rw[iE h];omega
  ·rw[jY h.symm];omega
 go_wp2_with fail
 refine(dZ _ _ _ _ _ _ _ ha.cut hb.cut).mono ?_;rintro e w' ⟨rfl,n,rfl⟩;generalize gq (val (limbs (val xs))) (val (limbs (val ys)))=z at*;have YI:¬z<0:=by omega
 go_wp2_with fail
 refine(py _ _ _ (w.drewN n) (ha.cut.drewN n) l2).mono ?_;rintro e w' ⟨rfl,rfl⟩;go_wp2_with fail
 refine(py _ _ _ (w.drewN n) (hb.cut.drewN n) (by omega)).mono ?_;rintro e w' ⟨rfl,rfl⟩;rw[aV,aV];have hB:Ba*Ba=18446744073709551616:=by decide
 rw[hB]at sy;clear hB;have hne:((val ys:Int)==0)=false:=by simp;omega
 have hpos:(0:Int)< (val ys:Int):=by omega
 have rO:val xs/val ys<Ba*Ba:=aP (Nat.div_le_self _ _) (by have hB:Ba*Ba=18446744073709551616:=by decide
                                                           omega)
 have hrl:val xs % val ys<Ba*Ba:=aP (Nat.mod_le _ _) (by have hB:Ba*Ba=18446744073709551616:=by decide
                                                         omega)
 obtain⟨q,eq⟩:=xeq (val xs/val ys);obtain⟨r,er⟩:=xeq (val xs % val ys);rw[eq]at rO;rw[er]at hrl
 have e1:IntKind.u64.wrap ((val xs:Int)/ (val ys:Int))=((q:Nat):Int):=by
  rw[IntKind.wrap_u64,<-Int.natCast_ediv,eq];have hB:Ba*Ba=18446744073709551616:=by decide
  omega
 have e2:((val xs:Int)).tmod (val ys:Int)=((r:Nat):Int):=by
  rw[Int.tmod_eq_emod_of_nonneg (by omega),<-er];rfl
 have EQ:=ah eq;have ER:=ah er;clear eq er;go_wp2_with fail
 go_region_with (first
  |(go_at_call_of 94 ((q:Nat):Int);refine(cW q _ rO).mono ?_;rintro e w1 ⟨A1,c1,rfl,p3,p4⟩)
  |(go_at_call_of 94 ((r:Nat):Int);refine(cW r _ hrl).mono ?_;rintro e w2 ⟨A2,c2,rfl,q3,q4⟩))
 go_wp2
 go_ret3
 rw[EQ.out,ER.out];exact⟨A1,c1,A2,c2,rfl,p3.below q4,q3.mono p4.size,((below_drewN (aq _ w) (n+1)).trans p4).trans (q4.mono p4.size)⟩
/- Contracts of package natural: products. -/
theorem Ap(A B:Option Addr)(xs ys:List Nat)(c d:Nat)(w:World)(ha:bQ w A c xs)(hb:bQ w B d ys)(h0:val xs=0∨val ys=0):
 Calls Tryz.prog 64 #[.slice A xs.length c, .slice B ys.length d] w (dW w (val xs*val ys)):=by
 have hv:val xs*val ys=0:=by rcases h0 with h|h<;>rw[h]<;>simp
 rw[hv];clear hv;have cE:dW w 0 (.returned (.slice none 0 0)) w:=⟨none,0,by rw[bM];rfl,by rw[bM];exact Own.nil _ _ _,aq _ _⟩;have HR:=ah cE;clear cE;go_enter Tryz.func64,Tryz.ntmps64
 go_wp2_with fail
 refine(eF _ _ _ _ ha).mono ?_;rintro e w' ⟨rfl,rfl⟩;go_wp2_with fail
 refine(eF _ _ _ _ hb).mono ?_;rintro e w' ⟨rfl,rfl⟩
 by_cases hx:val xs=0
 ·have e1:(limbs (val xs)).length=0:=by rw[hx,bM];rfl
  rw[e1];clear e1 h0 hx;go_wp2
  go_ret;exact HR.out
 ·have hy:val ys=0:=by omega
  have e1:(limbs (val ys)).length=0:=by rw[hy,bM];rfl
  have e2:(((limbs (val xs)).length:Int)==0)=false:=by
   have:(limbs (val xs)).length≠0:=fun e=>hx (bV.1 (List.eq_nil_of_length_eq_zero e));simp;intro h;exact hx (bV.1 h)
  rw[e1];generalize (limbs (val xs)).length=n at*;clear e1 h0 hx hy;go_wp2
  go_ret;exact HR.out
theorem Ot(A B:Option Addr)(xs ys:List Nat)(c d:Nat)(w:World)(ha:bQ w A c xs)(hb:bQ w B d ys)(hx0:val xs≠0)(hy0:val ys≠0)(hs:(limbs (val xs)).length+ (limbs (val ys)).length<=70368744177664):
 Calls Tryz.prog 64 #[.slice A xs.length c, .slice B ys.length d] w (dW w (val xs*val ys)):=by
 go_enter Tryz.func64,Tryz.ntmps64
 go_wp2_with fail
 refine(eF _ _ _ _ ha).mono ?_;rintro e w' ⟨rfl,rfl⟩;go_wp2_with fail
 refine(eF _ _ _ _ hb).mono ?_;rintro e w' ⟨rfl,rfl⟩;have la:=bh ha.lb;have lb:=bh hb.lb;have pa:0< (limbs (val xs)).length:=List.length_pos_iff.2 (fun e=>hx0 (bV.1 e));have pb:0< (limbs (val ys)).length:=List.length_pos_iff.2 (fun e=>hy0 (bV.1 e));replace ha:=ha.cut;replace hb:=hb.cut;have EA:=ah (aV (val xs));have EB:=ah (aV (val ys));generalize limbs (val xs)=us at*;generalize limbs (val ys)=vs at*;have e1:((us.length:Int)==0)=false:=by simp;intro h;rw[h]at pa;simp at pa
 have e2:((vs.length:Int)==0)=false:=by simp;intro h;rw[h]at pb;simp at pb
 have hmk:=jg (↑us.length+ ↑vs.length) (us.length+vs.length) (by omega) (by omega);clear hx0 hy0;go_wp2_with fail
 go_loopw [31] (fun i wr=>∃(k:Nat) (ps:List Nat),k<=us.length/\i= .int .i64 k/\ps.length=us.length+vs.length/\Lb ps/\Row wr w.heap.size ps/\Below w.heap.size w wr/\(∀j,k+vs.length<=j->ps[j]?.getD 0=0)/\val ps=val (us.take k)*val vs) (fun i _=>us.length- (intOf i).toNat)
 case atStart=>exact⟨0,zeros (us.length+vs.length),aF _,rfl,cS _,gB _,Row.new _ _,(aq _ _).alloc (aj _) _,fun j _=>gK _ _,by simp[fV,val]⟩
 case round=>
  obtain⟨k,ps,hk,rfl,hl,hz,hrow,bP,h0,hv⟩:=hrel;have HV:=ah hv;have H0:=ah h0;have HL:=ah hl;clear hv h0 hl hmk
  by_cases hlt:k<us.length
  ·obtain⟨b1,o1,rfl,hb1,hc1⟩:=ha.at_ (by omega);have hx:=(bP.cell (p:=⟨b1,o1+k,none⟩) hb1).trans (hc1 k hlt);have bx:us[k]?.getD 0<4294967296:=ha.lb.get k;have hts:=lQ (xs:=us) hlt;obtain⟨x,ex⟩:=xeq (us[k]?.getD 0);rw[ex]at hx bx hts;have vV:=ah hts;clear ex hc1 hts
   by_cases hx0:x=0
   ·subst hx0;go_wp2
    go_roundw
    case rel=>exact⟨k+1,ps,by omega,by go_num,HL.out,hz,hrow,bP,fun j hj=>H0.out j (by omega),by rw[vV.out,HV.out];simp⟩
    case measure=>simp[intOf];omega
   ·have vW:((x:Int)==0)=false:=by simp;omega
    obtain⟨wo,rfl⟩:∃wo:World,wo=wr:=⟨_,rfl⟩;go_wp2
    go_loopw [8,40] (fun t i wi=>∃(j q:Nat) (zs:List Nat),j<=vs.length/\i= .int .i64 j/\t= .int .u64 q/\q<4294967296/\zs.length=us.length+vs.length/\Lb zs/\Row wi w.heap.size zs/\Below w.heap.size w wi/\(∀n,k+j<=n->zs[n]?.getD 0=ps[n]?.getD 0)/\val zs+Ba ^ (k+j)*q=val ps+x*Ba ^ k*val (vs.take j)) (fun _ i _=>vs.length- (intOf i).toNat)
    case atStart=>exact⟨0,0,ps,aF _,rfl,rfl,by omega,HL.out,hz,hrow,bP,fun n _=>rfl,by simp[val]⟩
    case round=>
     obtain⟨j,q,zs,hj,rfl,rfl,hq,hl2,hz2,jU,M7,hsame,hv2⟩:=hrel;have Ya:=ah hv2;have QG:=ah hsame;have M8:=ah hl2;clear hv2 hsame hl2
     by_cases E9:j<vs.length
     ·obtain⟨b2,o2,rfl,hb2,hc2⟩:=hb.at_ (by omega);have hy:=(M7.cell (p:=⟨b2,o2+j,none⟩) hb2).trans (hc2 j E9);have bY:vs[j]?.getD 0<4294967296:=hb.lb.get j;have hzc:=jU.cell (i:=k+j) (by rw[M8.out];omega);have hzf:=jU.frozen (k+j);have bz:zs[k+j]?.getD 0<4294967296:=hz2.get (k+j);have hstep:=Ko (ys:=vs) (zs:=zs) (i:=k) (j:=j) (c:=q) (x:=x) (T:=val ps) (by rw[M8.out];omega) Ya.out;obtain⟨y,ey⟩:=xeq (vs[j]?.getD 0);obtain⟨z,ez⟩:=xeq (zs[k+j]?.getD 0);rw[ey]at hy bY hstep;rw[ez]at hzc bz hstep;have hpb:=Nat.mul_le_mul (Nat.le_pred_of_lt bx) (Nat.le_pred_of_lt bY);have hpe:(x:Int)* (y:Int)=((x*y:Nat):Int):=(Int.natCast_mul x y).symm;obtain⟨p,ep⟩:=xeq (x*y);rw[ep]at hpe hpb hstep;have aja:p<=18446744065119617025:=hpb;have EPQ:Hid (q+p+z=q+ (p+z)):=Nat.add_assoc q p z;rw[EPQ.out]at hstep;have HST:=ah hstep;have hr:=jU.put (k+j) ((q+ (p+z)) % Ba) (z:=((q:Int)+ (p+z)) % 4294967296) (by simp only[bU];omega);have HPE:=ah hpe;clear ey ez ep hc2 hpb hstep hpe;have hpe:(x:Int)* (y:Int)=(p:Int):=HPE.out;go_wp2
      go_roundw
      case rel=>exact⟨j+1,(q+ (p+z))/Ba,zs.set (k+j) ((q+ (p+z)) % Ba),by omega,by go_num,by simp only[bU];go_num,by simp only[bU];omega,by rw[List.length_set];exact M8.out,hz2.set _ _ (Nat.mod_lt _ cR),hr,M7.setCell (aj _) _,fun n hn=>by rw[fL _ (by omega)];exact QG.out n (by omega),HST.out⟩
      case measure=>simp[intOf];omega
     ·obtain rfl:j=vs.length:=by omega
      have hs1:=jU.cell (i:=k+vs.length) (by rw[M8.out];omega);have oN:=jU.frozen (k+vs.length);have ez:zs[k+vs.length]?.getD 0=0:=by rw[QG.out _ (aj _)];exact H0.out _ (aj _)
      rw[ez]at hs1;have hr:=jU.put (k+vs.length) q (z:=(q:Int)) rfl;have e3:=fD (zs:=zs) (k:=k+vs.length) q (by rw[M8.out];omega);rw[ez]at e3
      have hval:val (zs.set (k+vs.length) q)=val (us.take (k+1))*val vs:=by
       have h1:=Ya.out;rw[aI (aj _),HV.out]at h1;rw[vV.out]
       grind
      have iR:=ah hval;clear ez e3 hval;go_wp2
      go_roundw
      case rel=>exact⟨k+1,zs.set (k+vs.length) q,by omega,by go_num,by rw[List.length_set];exact M8.out,hz2.set _ _ (by have:=bU;omega),hr,M7.setCell (aj _) _,fun n hn=>by rw[fL _ (by omega),QG.out n (by omega)];exact H0.out n (by omega),iR.out⟩
      case measure=>simp[intOf];omega
  ·obtain rfl:k=us.length:=by omega
   have hval:val ps=val xs*val ys:=by
    rw[HV.out,aI (aj _),EA.out,EB.out]
   have iR:=ah hval;clear hval;go_wp2_with fail
   refine(mL hrow hz (aj _) HL.out (by omega) iR.out bP).mono ?_;rintro e w' ⟨A',c',rfl,r3,r4⟩;go_wp2
   go_ret;exact⟨A',c',rfl,r3,r4⟩
theorem YJ(A B:Option Addr)(xs ys:List Nat)(c d:Nat)(w:World)(ha:bQ w A c xs)(hb:bQ w B d ys)(hs:(limbs (val xs)).length+ (limbs (val ys)).length<=70368744177664):
 Calls Tryz.prog 64 #[.slice A xs.length c, .slice B ys.length d] w (dW w (val xs*val ys)):=by
 by_cases hx:val xs=0
 ·exact Ap A B xs ys c d w ha hb (.inl hx)
 ·by_cases hy:val ys=0
  ·exact Ap A B xs ys c d w ha hb (.inr hy)
  ·exact Ot A B xs ys c d w ha hb hx hy hs
theorem FB(A B:Option Addr)(xs ys:List Nat)(c d:Nat)(w:World)(ha:bQ w A c xs)(hb:bQ w B d ys)(hs:xs.length+ys.length<=70368744177664):
 Calls Tryz.prog 64 #[.slice A xs.length c, .slice B ys.length d] w (dW w (val xs*val ys)):=
 YJ A B xs ys c d w ha hb (by have:=bh ha.lb;have:=bh hb.lb;omega)
/- Contracts of package natural: division by one limb. -/
theorem He{us zs:List Nat}{m d rest:Nat}(hu:m<us.length)(hz:m<zs.length)(hv:val (us.drop (m+1))=d*val (zs.drop (m+1))+rest):
 val (us.drop m)=d*val ((zs.set m ((us[m]?.getD 0+4294967296*rest)/d)).drop m)+ (us[m]?.getD 0+4294967296*rest) % d:=by
 have e:(zs.set m ((us[m]?.getD 0+4294967296*rest)/d)).drop m=((us[m]?.getD 0+4294967296*rest)/d)::zs.drop (m+1):=by
  rw[List.drop_eq_getElem_cons (by simpa using hz)];simp[List.drop_set_of_lt]
 rw[e,val,fC hu,hv,bU];have h1:=Nat.div_add_mod (us[m]?.getD 0+4294967296*rest) d;generalize us[m]?.getD 0=x at*;generalize val (zs.drop (m+1))=Z at*;generalize (x+4294967296*rest)/d=q at*;generalize (x+4294967296*rest) % d=t at*
 grind
theorem Tm{x rest d:Nat}(hx:x<4294967296)(hr:rest<d):(x+4294967296*rest)/d<4294967296:=by
 apply Nat.div_lt_of_lt_mul;have:4294967296* (rest+1)<=4294967296*d:=aO _ hr;rw[Nat.mul_comm d];omega
def Kt(w:World)(q r:Nat)(e:Ending)(w':World):Prop:=
 ∃A c B d,e= .returned (.tuple #[.slice A (limbs q).length c, .slice B (limbs r).length d])/\
  Own w.heap.size w' A c (limbs q)/\Own w.heap.size w' B d (limbs r)/\Below w.heap.size w w'
theorem tQ(A:Option Addr)(us:List Nat)(c d:Nat)(w:World)(ha:bQ w A c us)(hs:us.length<=70368744177664)(hd:0<d)(hd2:d<4294967296):
 Calls Tryz.prog 125 #[.slice A us.length c, .int .u32 (d:Int)] w (Kt w (val us/d) (val us % d)):=by
 have hmk:=jg (↑us.length) us.length rfl hs;go_enter Tryz.func125,Tryz.ntmps125
 go_wp2_with fail
 go_loopw [6,7] (fun t i wr=>∃(k r:Nat) (zs:List Nat),k<=us.length/\i= .int .i64 ((k:Int) -1)/\t= .int .u64 r/\r<d/\zs.length=us.length/\Lb zs/\Row wr w.heap.size zs/\Below w.heap.size w wr/\val (us.drop k)=d*val (zs.drop k)+r) (fun _ i _=>(intOf i+1).toNat)
 case atStart=>exact⟨us.length,0,zeros us.length,aj _,rfl,rfl,hd,cS _,gB _,Row.new _ _,(aq _ _).alloc (aj _) _,by rw[List.drop_length,List.drop_of_length_le (by rw[cS];exact aj _)];simp[val]⟩
 case round=>
  obtain⟨k,r,zs,hk,ht,rfl,hr,hl,hz,hrow,bP,hv⟩:=hrel;have HV:=ah hv;have HL:=ah hl;clear hv hl hmk;rcases aM k with rfl|hp
  ·subst ht
   have hq:val zs=val us/d/\r=val us % d:=by
    have h1:=HV.out;rw[List.drop_zero,List.drop_zero]at h1;have h2:=(Nat.div_mod_unique (a:=val us) (c:=r) (d:=val zs) hd).2 ⟨by rw[h1,Nat.add_comm],hr⟩;exact⟨h2.1.symm,h2.2.symm⟩
   have HQ:=ah hq.1;have HR:=ah hq.2;clear hq;go_wp2_with fail
   refine(mL hrow hz (aj _) HL.out hs HQ.out bP).mono ?_;rintro e w1 ⟨A1,c1,rfl,r1,b1⟩;go_wp2_with fail
   refine(cW r _ (Nat.lt_trans hr (Nat.lt_trans hd2 (by decide)))).mono ?_;rintro e w2 ⟨A2,c2,rfl,r2,b2⟩;go_wp2
   go_ret2;rw[<-HR.out];exact⟨A1,c1,A2,c2,rfl,r1.below b2,r2.mono b1.size,b1.trans (b2.mono b1.size)⟩
  ·obtain⟨m,rfl⟩:∃m,k=m+1:=⟨k-1,by omega⟩;obtain rfl:=ht.trans (show Value.int .i64 (((m+1:Nat):Int) -1)= .int .i64 (m:Int) by congr 1;omega);obtain⟨b1,o1,rfl,hb1,hc1⟩:=ha.at_ (by omega);have hx:=(bP.cell (p:=⟨b1,o1+m,none⟩) hb1).trans (hc1 m (by omega));have bx:us[m]?.getD 0<4294967296:=ha.lb.get m;have hs1:=hrow.cell (i:=m) (by rw[HL.out];omega);have oN:=hrow.frozen m;have hstep:=He (us:=us) (zs:=zs) (m:=m) (d:=d) (rest:=r) (by omega) (by rw[HL.out];omega) HV.out;obtain⟨x,ex⟩:=xeq (us[m]?.getD 0);rw[ex]at hx bx hstep;clear ex hc1;have iX:=tP x r bx (by omega);have hq:=Tm (x:=x) (rest:=r) (d:=d) bx hr;have ht2:=Nat.mod_lt (x+4294967296*r) hd;obtain⟨R,eR⟩:=xeq (x+4294967296*r);rw[eR]at iX hq ht2 hstep;have hRb:R<18446744073709551616:=by omega
   have e1:(R:Int)/ (d:Int)=((R/d:Nat):Int):=(Int.natCast_ediv R d).symm;have e2:(R:Int) % (d:Int)=((R % d:Nat):Int):=(Int.natCast_emod R d).symm;obtain⟨Q,eQ⟩:=xeq (R/d);obtain⟨T,eT⟩:=xeq (R % d);rw[eQ]at hq e1 hstep;rw[eT]at ht2 e2 hstep;have e3:(R:Int).tmod (d:Int)=(T:Int):=by rw[Int.tmod_eq_emod_of_nonneg (by omega)];exact e2
   have e4:(R:Int).tdiv (d:Int)=(Q:Int):=by rw[Int.tdiv_eq_ediv_of_nonneg (by omega)];exact e1
   have iW:=hrow.put m Q (z:=(Q:Int)) rfl;have HST:=ah hstep;have hne:((d:Int)==0)=false:=by rw[beq_eq_false_iff_ne];omega
   clear eR eQ eT hstep;go_wp2
   go_roundw
   case rel=>exact⟨m,T,zs.set m Q,by omega,by go_num,rfl,ht2,by rw[List.length_set];exact HL.out,hz.set _ _ hq,iW,bP.setCell (aj _) _,HST.out⟩
   case measure=>simp[intOf];try omega
theorem Hf(A B:Option Addr)(xs ys:List Nat)(c d:Nat)(w:World)(ha:bQ w A c xs)(hb:bQ w B d ys)(hs:xs.length<=70368744177664)(hlt:val xs<val ys):Calls Tryz.prog 99 #[.slice A xs.length c, .slice B ys.length d] w (mM w (val xs/val ys) (val xs % val ys)):=by
 have HQ:=ah (Nat.div_eq_of_lt hlt);have HR:=ah (Nat.mod_eq_of_lt hlt);have la:=bh ha.lb
 have Oq:(((limbs (val ys)).length:Int)==0)=false:=by
  rw[beq_eq_false_iff_ne];intro e;have:=bV.1 (List.eq_nil_of_length_eq_zero (show(limbs (val ys)).length=0 by omega));omega
 have EC:=ah (show gq (val (limbs (val xs))) (val (limbs (val ys)))= -1 by rw[aV,aV];exact lG hlt);clear hlt;go_enter Tryz.func99,Tryz.ntmps99
 go_wp2_with fail
 refine(eF _ _ _ _ ha).mono ?_;rintro e w' ⟨rfl,rfl⟩;go_wp2_with fail
 refine(eF _ _ _ _ hb).mono ?_;rintro e w' ⟨rfl,rfl⟩;go_wp2_with fail
 refine(dZ _ _ _ _ _ _ _ ha.cut hb.cut).mono ?_;rintro e w' ⟨rfl,n,rfl⟩;rw[EC.out];go_wp2_with fail
 refine(qU _ _ _ _ (ha.cut.drewN n) (by omega)).mono ?_;rintro e w1 ⟨A1,c1,rfl,r1,b1⟩;rw[aV]at r1⊢;go_wp2
 go_ret3
 rw[HQ.out,HR.out];exact⟨none,0,A1,c1,by rw[bM];rfl,by rw[bM];exact Own.nil _ _ _,r1,(below_drewN (aq _ w) n).trans b1⟩
theorem Aq(A B:Option Addr)(xs ys:List Nat)(c d:Nat)(w:World)(ha:bQ w A c xs)(hb:bQ w B d ys)(hs:xs.length<=70368744177664)(hge:val ys<=val xs)(vX:Ba*Ba<=val xs)(h1:(limbs (val ys)).length=1):Calls Tryz.prog 99 #[.slice A xs.length c, .slice B ys.length d] w (mM w (val xs/val ys) (val xs % val ys)):=by
 have la:=bh ha.lb
 have l2:(2:Int)< ((limbs (val xs)).length:Int):=by
  have:¬(limbs (val xs)).length<=2:=fun h=>by have:=fA.1 h;omega
  omega
 have ec:0<=gq (val (limbs (val xs))) (val (limbs (val ys))):=by
  rw[aV,aV];rcases Nat.lt_or_eq_of_le hge with h|h
  ·rw[iE h];omega
  ·rw[jY h.symm];omega
 obtain⟨y,ey⟩:∃y,limbs (val ys)=[y]:=by
  obtain⟨y,hy⟩:=List.length_eq_one_iff.1 h1;exact⟨y,hy⟩
 have evy:val ys=y:=by rw[<-aV (val ys),ey];simp[val]
 have hyb:y<4294967296:=by
  have h:(limbs (val ys))[0]?.getD 0<4294967296:=(ig (val ys)).get 0;rw[ey]at h
  simpa using h
 have hy0:0<y:=by
  rcases aM y with h|h
  ·exfalso;rw[<-evy]at h;rw[h,bM]at ey
   cases ey
  ·exact h
 have Ku:=hb.cut;rw[ey]at Ku;obtain⟨b1,o1,hB,hb1,hc1⟩:=Ku.at_ (by simp);have hcell:=hc1 0 (by simp);have ajc:w.cell? ⟨b1,o1,none⟩=some (.int .u32 (y:Int)):=by simpa using hcell
 have Oq:(((limbs (val ys)).length:Int)==0)=false:=by rw[h1];rfl
 have H1:=ah h1;have EVY:=ah evy;clear hc1 hcell Ku h1 evy ey hge vX;subst hB;go_enter Tryz.func99,Tryz.ntmps99
 go_wp2_with fail
 refine(eF _ _ _ _ ha).mono ?_;rintro e w' ⟨rfl,rfl⟩;go_wp2_with fail
 refine(eF _ _ _ _ hb).mono ?_;rintro e w' ⟨rfl,rfl⟩;go_wp2_with fail
 refine(dZ _ _ _ _ _ _ _ ha.cut hb.cut).mono ?_;rintro e w' ⟨rfl,n,rfl⟩;generalize gq (val (limbs (val xs))) (val (limbs (val ys)))=z at*;have YI:¬z<0:=by omega
 clear Oq;rw[H1.out];have l2':¬(((limbs (val xs)).length:Int)<=2):=by omega
 go_wp2_with fail
 refine(tQ _ _ _ y _ (ha.cut.drewN n) (by omega) hy0 hyb).mono ?_;rintro e w1 ⟨A1,c1,A2,c2,rfl,r1,r2,Ou⟩;rw[aV]at r1 r2⊢;go_wp2
 go_ret3
 rw[EVY.out];exact⟨A1,c1,A2,c2,rfl,r1,r2,(below_drewN (aq _ w) n).trans Ou⟩
/- Contracts of package natural: the greatest common divisor of small numbers. -/
def cQ(n:Nat)(f:Nat->Int):Array Value:=((List.range n).map fun i=>Value.int .i64 (f i)).toArray
def cC(w:World)(g n:Nat)(f:Nat->Int):Prop:=w.heap[g]?=some (.cells (cQ n f) 3 (0,0))
def bE{α:Type}(f:Nat->α)(i:Nat)(v:α):Nat->α:=fun j=>if j=i then v else f j
theorem aW{α:Type}(f:Nat->α)(i:Nat)(v:α):bE f i v i=v:=if_pos rfl
theorem bk{α:Type}(f:Nat->α){i j:Nat}(v:α)(h:j≠i):bE f i v j=f j:=if_neg h
theorem pz(n:Nat)(f:Nat->Int)(i:Nat)(v:Int):(cQ n f).setIfInBounds i (.int .i64 v)=cQ n (bE f i v):=by
 unfold cQ;rw[List.setIfInBounds_toArray]
 congr 1
 apply List.ext_getElem
 ·simp
 ·intro j h1 h2;rw[List.getElem_set];simp only[List.getElem_map,List.getElem_range,bE]
  by_cases h:i=j
  ·subst h;rw[if_pos rfl,if_pos rfl]
  ·rw[if_neg h,if_neg (fun e=>h e.symm)]
theorem mN{n:Nat}{f:Nat->Int}{i:Nat}(h:i<n):(cQ n f)[i]?=some (.int .i64 (f i)):=by
 simp[cQ,h]
theorem pY{n:Nat}{f g:Nat->Int}(h:∀i,i<n->f i=g i):cQ n f=cQ n g:=by
 unfold cQ
 congr 1
 apply List.map_congr_left;intro i hi;rw[h i (List.mem_range.1 hi)]
section
variable {w w':World}{g n:Nat}{f:Nat->Int}
theorem cC.lt(h:cC w g n f):g<w.heap.size:=by
 rcases aN g w.heap.size with hlt|hge
 ·exact hlt
 ·unfold cC at h;rw[Array.getElem?_eq_none hge]at h;cases h
theorem cC.cell(h:cC w g n f){i:Nat}(hi:i<n):w.cell? ⟨g,i,none⟩=some (.int .i64 (f i)):=by
 rw[aT w g i _ _ (0,0) h];exact mN hi
theorem cC.frozen(h:cC w g n f)(i:Nat):w.frozen? ⟨g,i,none⟩=false:=by
 unfold cC at h;simp[World.frozen?,h]
theorem cC.new(w:World)(n:Nat)(f:Nat->Int):cC (w.alloc (.cells (cQ n f) 3)) w.heap.size n f:=aS w _
theorem cC.alloc(h:cC w g n f)(o:Obj):cC (w.alloc o) g n f:=(Below.heap_alloc w o g h.lt).trans h
theorem cC.set(h:cC w g n f)(i:Nat)(v:Int):cC (w.setCell ⟨g,i,none⟩ (.int .i64 v)) g n (bE f i v):=by
 unfold cC at h⊢;rw[<-pz];simp[World.setCell,Array.getElem?_modify,h]
theorem cC.far(h:cC w g n f){p:Addr}(hp:g≠p.block)(u:Value):cC (w.setCell p u) g n f:=(Below.heap_setCell w p u g hp).trans h
theorem cC.below{B:Nat}(h:cC w g n f)(hb:Below B w w')(hg:g<B):cC w' g n f:=(hb.block g hg).trans h
theorem cC.drewN(h:cC w g n f)(m:Nat):cC (w.drewN m) g n f:=h
theorem cC.drew(h:cC w g n f):cC w.drew g n f:=h
theorem cC.congr(h:cC w g n f){f':Nat->Int}(e:∀i,i<n->f i=f' i):cC w g n f':=by
 unfold cC at h⊢;rw[<-pY e];exact h
end
structure bw(P:Nat->Prop)(w w':World):Prop where
 os:w'.os=w.os
 tape:w'.tape=w.tape
 output:w'.output=w.output
 size:w.heap.size<=w'.heap.size
 block:∀k,k<w.heap.size->¬P k->w'.heap[k]?=w.heap[k]?
section
variable {P Q:Nat->Prop}{w w' w'':World}
theorem bw.refl(P:Nat->Prop)(w:World):bw P w w:=⟨rfl,rfl,rfl,aj _,fun _ _ _=>rfl⟩
theorem bw.trans(h:bw P w w')(k:bw P w' w''):bw P w w'':=
 ⟨k.os.trans h.os,k.tape.trans h.tape,k.output.trans h.output,ay h.size k.size,fun i hi hp=>(k.block i (ak hi h.size) hp).trans (h.block i hi hp)⟩
theorem bw.mono(h:bw P w w')(hs:∀k,k<w.heap.size->P k->Q k):bw Q w w':=⟨h.os,h.tape,h.output,h.size,fun k hk hq=>h.block k hk fun hp=>hq (hs k hk hp)⟩
theorem bw.of(h:Below w.heap.size w w'):bw P w w':=⟨h.os,h.tape,h.output,h.size,fun k hk _=>h.block k hk⟩
theorem bw.below{B:Nat}(h:bw P w w')(hB:B<=w.heap.size)(hs:∀k,k<B->¬P k):Below B w w':=⟨h.os,h.tape,h.output,h.size,fun k hk=>h.block k (ak hk hB) (hs k hk)⟩
theorem bw.set{p:Addr}(hp:P p.block)(w:World)(v:Value):bw P w (w.setCell p v):=
 ⟨rfl,World.tape_setCell _ _ _,rfl,Nat.le_of_eq (World.size_setCell _ _ _).symm,fun k _ hk=>Below.heap_setCell w p v k fun e=>hk (e▸hp)⟩
theorem bw.alloc(w:World)(o:Obj):bw P w (w.alloc o):=bw.of ((aq _ _).alloc (aj _) _)
theorem bw.drew(h:bw P w w'):bw P w w'.drew:=h.trans (bw.of (aq _ _).drew)
theorem cC.bJ{g n:Nat}{f:Nat->Int}(h:cC w g n f)(hc:bw P w w')(hg:¬P g):cC w' g n f:=(hc.block g h.lt hg).trans h
end
def rt(f:Nat->Nat)(i:Nat):Nat:=if f i<i then rt f (f i)else i
termination_by i
def WF(n:Nat)(f:Nat->Nat):Prop:=∀i,i<n->f i<=i
section
variable {n:Nat}{f:Nat->Nat}
theorem pZ{i:Nat}(h:f i<i):rt f i=rt f (f i):=by rw[rt,if_pos h]
theorem iF{i:Nat}(h:¬f i<i):rt f i=i:=by rw[rt,if_neg h]
theorem FC(f:Nat->Nat):∀i,rt f i<=i:=by
 intro i
 induction i using Nat.strongRecOn with
 |_ i ih=>
  by_cases h:f i<i
  ·rw[pZ h];exact ay (ih _ h) (aR h)
  ·rw[iF h];exact aj _
theorem tS(f:Nat->Nat):∀i,¬f (rt f i)<rt f i:=by
 intro i
 induction i using Nat.strongRecOn with
 |_ i ih=>
  by_cases h:f i<i
  ·rw[pZ h];exact ih _ h
  ·rw[iF h];exact h
theorem yt(f:Nat->Nat)(i:Nat):rt f (rt f i)=rt f i:=iF (tS f i)
theorem sM(h:WF n f){i:Nat}(hi:i<n):rt f (f i)=rt f i:=by
 by_cases e:f i<i
 ·rw[pZ e]
 ·have:=h i hi;rw[show f i=i by omega]
theorem yu{i:Nat}(e:f i=i):rt f i=i:=iF (by omega)
theorem Ov(h:WF n f){b:Nat}(hb:b<n):∀i,i<n->rt (bE f b (f (f b))) i=rt f i:=by
 intro i
 induction i using Nat.strongRecOn with
 |_ i ih=>
  intro hi;have pQ:=h b hb
  by_cases e:i=b
  ·subst e;have Tp:=h (f i) (by omega)
   by_cases e2:f (f i)<i
   ·rw[pZ (by rw[aW];exact e2),aW,ih _ e2 (by omega),sM h (by omega),sM h hi]
   ·rw[iF (by rw[aW];exact e2),iF (by omega)]
  ·have hu:bE f b (f (f b)) i=f i:=bk _ _ e
   by_cases e2:f i<i
   ·rw[pZ (by rw[hu];exact e2),hu,ih _ e2 (by omega),pZ e2]
   ·rw[iF (by rw[hu];exact e2),iF e2]
theorem WF.half(h:WF n f){b:Nat}(hb:b<n):WF n (bE f b (f (f b))):=by
 intro i hi
 by_cases e:i=b
 ·subst e;rw[aW];have:=h i hi;have:=h (f i) (by omega);omega
 ·rw[bk _ _ e];exact h i hi
def yw(r:Nat->Nat)(a b:Nat):Nat->Nat:=fun i=>if r i=max (r a) (r b)then min (r a) (r b)else r i
theorem Ow(_h:WF n f){m l:Nat}(hm:f m=m)(hl:f l=l)(hle:l<=m)(hmn:m<n):∀i,i<n->rt (bE f m l) i=if rt f i=m then l else rt f i:=by
 intro i
 induction i using Nat.strongRecOn with
 |_ i ih=>
  intro hi;have Tq:=yu hm;have hrl:=yu hl
  by_cases e:i=m
  ·subst e;rw[if_pos Tq]
   by_cases e2:l<i
   ·rw[pZ (by rw[aW];exact e2),aW,ih _ e2 (by omega),hrl,if_neg (by omega)]
   ·rw[iF (by rw[aW];exact e2)];omega
  ·have hu:bE f m l i=f i:=bk _ _ e
   by_cases e2:f i<i
   ·rw[pZ (by rw[hu];exact e2),hu,ih _ e2 (by omega),pZ e2]
   ·rw[iF (by rw[hu];exact e2),iF e2,if_neg e]
theorem WF.link(h:WF n f){m l:Nat}(hle:l<=m):WF n (bE f m l):=by
 intro i hi
 by_cases e:i=m
 ·subst e;rw[aW];exact hle
 ·rw[bk _ _ e];exact h i hi
end
theorem mO(f:Nat->Nat)(i v:Nat):(fun j=>((bE f i v j:Nat):Int))=bE (fun j=>(f j:Int)) i (v:Int):=by
 funext j
 unfold bE;split<;>rfl
def Sets(w:World)(g n:Nat)(ρ:Nat->Nat):Prop:=∃f:Nat->Nat,cC w g n (fun i=>(f i:Int))/\WF n f/\∀i,i<n->rt f i=ρ i
theorem Sets.bJ{P:Nat->Prop}{w w':World}{g n:Nat}{ρ:Nat->Nat}(h:Sets w g n ρ)(hc:bw P w w')(hg:¬P g):Sets w' g n ρ:=by
 obtain⟨f,h1,h2⟩:=h;exact⟨f,h1.bJ hc hg,h2⟩
theorem Sets.lt{w:World}{g n:Nat}{ρ:Nat->Nat}(h:Sets w g n ρ):g<w.heap.size:=by
 obtain⟨f,h1,_⟩:=h;exact h1.lt
theorem Sets.le{w:World}{g n:Nat}{ρ:Nat->Nat}(h:Sets w g n ρ){i:Nat}(hi:i<n):ρ i<=i:=by
 obtain⟨f,_,_,h3⟩:=h;rw[<-h3 i hi];exact FC f i
theorem Sets.idem{w:World}{g n:Nat}{ρ:Nat->Nat}(h:Sets w g n ρ){i:Nat}(hi:i<n):ρ (ρ i)=ρ i:=by
 have:=h.le hi;obtain⟨f,_,_,h3⟩:=h;rw[<-h3 i hi,<-h3 (rt f i) (by have:=FC f i;omega)];exact yt f i
theorem yx{w:World}{g n c b:Nat}{ρ:Nat->Nat}(h:Sets w g n ρ)(hb:b<n):
 Calls Tryz.prog 44 #[.slice (some ⟨g,0,none⟩) n c, .int .i64 (b:Int)] w (fun e w'=>e= .returned (.int .i64 (ρ b:Int))/\Sets w' g n ρ/\bw (·=g) w w'):=by
 go_enter Tryz.func44,Tryz.ntmps44
 go_wp2_with fail
 go_loopw [1] (fun t wr=>∃k:Nat,k<n/\t= .int .i64 (k:Int)/\ρ k=ρ b/\Sets wr g n ρ/\bw (·=g) w wr) (fun t _=>(intOf t).toNat)
 case atStart=>exact⟨b,hb,rfl,rfl,h,bw.refl _ _⟩
 case round=>
  obtain⟨k,hk,rfl,hρ,hs,hc⟩:=hrel;clear h;obtain⟨f,hr,hw,he⟩:=hs;have hfk:=hw k hk;have i0:(0:Int)<=(k:Int):=by omega
  have i1:(k:Int)<n:=by omega
  have c0:=hr.cell hk;have i2:(0:Int)<=(f k:Int):=by omega
  have i3:(f k:Int)<n:=by omega
  have c1:=hr.cell (show f k<n by omega);have fz:=hr.frozen k
  by_cases e:f k=k
  ·have e':(f k:Int)=(k:Int):=by omega
   have HE:=ah e';have HR:=ah (show ρ b=k by rw[<-hρ,<-he k hk];exact yu e);have HS:=ah (show Sets wr g n ρ from⟨f,hr,hw,he⟩);rw[e']at c0;clear e' e c1 i2 i3 he hw hr hfk hρ fz;go_wp2_with fail
   go_ret;exact⟨by rw[HR.out];rfl,HS.out,hc⟩
  ·have e':¬(f k:Int)=(k:Int):=by omega
   have hs1:Sets (wr.setCell ⟨g,k,none⟩ (.int .i64 (f (f k):Int))) g n ρ:=
    ⟨bE f k (f (f k)),by rw[mO];exact hr.set k _,hw.half hk,fun i hi=>by rw[Ov hw hk i hi];exact he i hi⟩
   have hc1:bw (·=g) w (wr.setCell ⟨g,k,none⟩ (.int .i64 (f (f k):Int))):=hc.trans (bw.set (P:=(·=g)) (p:=⟨g,k,none⟩) rfl _ _);have Tp:=hw (f k) (by omega);have hρ2:ρ (f (f k))=ρ b:=by rw[<-hρ,<-he k hk,<-he (f (f k)) (by omega),sM hw (show f k<n by omega),sM hw hk]
   have d0:=(hr.set k (f (f k):Int)).cell hk;rw[aW]at d0;have HS:=ah hs1;have HC:=ah hc1;have HF:=ah Tp;have HR:=ah hρ2;clear hs1 hc1 Tp hρ2 hw he hr;go_wp2_with fail
   go_roundw
   case rel=>exact⟨f (f k),by have:=HF.out;omega,rfl,HR.out,HS.out,HC.out⟩
   case measure=>have:=HF.out;simp[intOf];omega
theorem bw.cell{P:Nat->Prop}{w w':World}(h:bw P w w'){b o:Nat}{v:Value}(hb:¬P b)(hc:w.cell? ⟨b,o,none⟩=some v):w'.cell? ⟨b,o,none⟩=some v:=by
 have hlt:=aG w _ hc;rw[<-hc];unfold World.cell?;rw[h.block b hlt hb]
theorem bw.sA{P:Nat->Prop}{w w':World}(h:bw P w w'){b o:Nat}(hlt:b<w.heap.size)(hb:¬P b):w'.frozen? ⟨b,o,none⟩=w.frozen? ⟨b,o,none⟩:=by
 unfold World.frozen?;rw[h.block b hlt hb]
theorem FD(x y:Nat):((x:Int) !=(y:Int))=decide (x≠y):=by
 by_cases h:x=y
 ·subst h;simp
 ·rw[decide_eq_true h,bne_iff_ne];omega
theorem Kw{w:World}{g n c a b:Nat}{ρ:Nat->Nat}(h:Sets w g n ρ)(ha:a<n)(hb:b<n):
 Calls Tryz.prog 37 #[.slice (some ⟨g,0,none⟩) n c, .agg #[.int .i64 (a:Int), .int .i64 (b:Int)]] w (fun e w'=>e= .returned (.bool (decide (ρ a≠ρ b)))/\Sets w' g n (yw ρ a b)/\bw (·=g) w w'):=by
 obtain⟨W,hW,bC,x0,x1⟩:∃W,w.alloc (.cells #[.int .i64 (a:Int), .int .i64 (b:Int)] 63)=W/\Below w.heap.size w W/\W.cell? ⟨w.heap.size,0,none⟩=some (.int .i64 (a:Int))/\W.cell? ⟨w.heap.size,1,none⟩=some (.int .i64 (b:Int)):=⟨_,rfl,(aq _ _).alloc (aj _) _,by go_simp,by go_simp⟩;have hg:¬w.heap.size=g:=by have:=h.lt;omega
 replace h:=h.bJ (P:=(·=w.heap.size)) (bw.of bC) (fun e=>hg e.symm);have HW:=ah hW;have kQ:True:=trivial;clear hW;go_enter Tryz.func37,Tryz.ntmps37
 go_wp2_with fail
 rw[HW.out];clear HW;have hC:bw (·=g) W W.drew:=(bw.refl _ _).drew;replace h:Sets W.drew g n ρ:=h.bJ (P:=(·=w.heap.size)) (bw.of (aq _ _).drew) (fun e=>hg e.symm)
 go_region_held3 (fun w'=>w'.cell? ⟨w.heap.size,0,none⟩=some (.int .i64 (a:Int))/\w'.cell? ⟨w.heap.size,1,none⟩=some (.int .i64 (b:Int)))
  (first|exact⟨hC.cell hg x0,hC.cell hg x1⟩)
  (first
    |(go_at_call 44;have _t:=kQ;clear kQ;refine(yx h ha).mono ?_;rintro e w1 ⟨rfl,h1,c1⟩;replace hC:=hC.trans c1)
    |(go_at_call 44;refine(yx h1 hb).mono ?_;rintro e w2 ⟨rfl,h2,c2⟩;have QH:=hC.trans c2;clear hC;have hC:=QH))
 rename_i aU
 clear aU h1 c1 c2 QH x0 x1 h;have hCw:bw (·=g) w w2:=(bw.of bC).trans hC;obtain⟨f,hr,hw,he⟩:=h2;have hxa:=he a ha;have vW:=he b hb;have la:=FC f a;have lb:=FC f b;have sa:=yt f a;have sb:=yt f b;have fa:f (ρ a)=ρ a:=by have h1:=tS f a;have h2:=hw (rt f a) (by omega);rw[<-hxa];omega
 have fb:f (ρ b)=ρ b:=by have h1:=tS f b;have h2:=hw (rt f b) (by omega);rw[<-vW];omega
 have mg:∀m l,f m=m->f l=l->l<=m->m<n->max (ρ a) (ρ b)=m->min (ρ a) (ρ b)=l->Sets (w2.setCell ⟨g,m,none⟩ (.int .i64 (l:Int))) g n (yw ρ a b):=fun m l h1 h2 h3 h4 h5 h6=>
  ⟨bE f m l,by rw[mO];exact hr.set m _,hw.link h3,fun i hi=>by
    rw[Ow hw h1 h2 h3 h4 i hi,he i hi];unfold yw;rw[h5,h6]⟩
 have J8:∀m (v:Value),bw (·=g) w (w2.setCell ⟨g,m,none⟩ v):=fun m v=>hCw.trans (bw.set (P:=(·=g)) (p:=⟨g,m,none⟩) rfl _ _);obtain⟨x,ex⟩:=xeq (ρ a);obtain⟨y,ey⟩:=xeq (ρ b);rw[ex]at hxa fa;rw[ey]at vW fb;rw[ex,ey]at mg⊢;have hx:x<n:=by omega
 have hy:y<n:=by omega
 have cx:=hr.cell hx;have cy:=hr.cell hy;have zx:=hr.frozen x;have zy:=hr.frozen y;have i0:(0:Int)<=(x:Int):=by omega
 have i1:(x:Int)<n:=by omega
 have i2:(0:Int)<=(y:Int):=by omega
 have i3:(y:Int)<n:=by omega
 rcases Nat.lt_trichotomy x y with hlt|rfl|hlt
 ·have n1:¬y<x:=by omega
  have n2:x≠y:=by omega
  have HM:=ah (mg y x fb fa (by omega) hy (by omega) (by omega));have HC:=ah (J8 y (.int .i64 (x:Int)));clear mg J8 la lb sa sb fa fb hw he hxa vW;go_wp2_with fail
  go_ret;exact⟨by rw[ex,ey,<-FD];rfl,HM.out,HC.out⟩
 ·have n1:¬x<x:=by omega
  have HM:=ah (mg x x fb fa (by omega) hy (by omega) (by omega));have HC:=ah (J8 x (.int .i64 (x:Int)));clear mg J8 la lb sa sb fa fb hw he hxa vW;go_wp2_with fail
  go_ret;exact⟨by rw[ex,ey];simp,HM.out,HC.out⟩
 ·have n1:¬x<y:=by omega
  have n2:x≠y:=by omega
  have HM:=ah (mg x y fa fb (by omega) hx (by omega) (by omega));have HC:=ah (J8 x (.int .i64 (y:Int)));clear mg J8 la lb sa sb fa fb hw he hxa vW;go_wp2_with fail
  go_ret;exact⟨by rw[ex,ey,<-FD];rfl,HM.out,HC.out⟩
theorem qc:(Tryz.prog.info? 3).map (fun i=>(i.zero,i.size,i.bytes))=some (some (.int .i64 0),1,8):=by kernel_rfl
theorem rP(n sz:Nat)(h:sz=1):madeCells (Value.int IntKind.i64 0).cells (n*sz)=cQ n (fun _=>0):=by
 subst h;simp only[madeCells,cQ,Value.cells];apply Array.ext
 ·simp
 ·intro i h1 h2;simp[Nat.mod_one]
theorem tT(z:Int)(n:Nat)(hz:z=(n:Int))(hn:n<=1073741824)(u:World):
 (Instr.makeSlice 22 (.int .i64 z) (.int .i64 z)).run Tryz.prog u= .ok (.slice (some ⟨u.heap.size,0,none⟩) n n) (u.alloc (.cells (cQ n (fun _=>0)) 3)):=by
 obtain⟨i0,hi,hz0,hz1,hz2⟩:=info_parts qc;subst hz;have h:=run_make (P:=Tryz.prog) u 22 3 i0 (.int .i64 0) Tryz.underlying22 hi hz0 .i64 .i64 (n:Int) (n:Int) (by omega) (Int.le_refl _) (by rw[hz2];omega) (by omega);simp only[Int.toNat_natCast]at h;rw[rP _ _ hz1]at h;exact h
theorem Ox(z:Int)(n:Nat)(hz:z=(n:Int))(hn:n<=1073741824)(u:World):
 (Instr.makeSlice 83 (.int .i64 z) (.int .i64 z)).run Tryz.prog u= .ok (.slice (some ⟨u.heap.size,0,none⟩) n n) (u.alloc (.cells (cQ n (fun _=>0)) 3)):=by
 obtain⟨i0,hi,hz0,hz1,hz2⟩:=info_parts qc;subst hz;have h:=run_make (P:=Tryz.prog) u 83 3 i0 (.int .i64 0) Tryz.underlying83 hi hz0 .i64 .i64 (n:Int) (n:Int) (by omega) (Int.le_refl _) (by rw[hz2];omega) (by omega);simp only[Int.toNat_natCast]at h;rw[rP _ _ hz1]at h;exact h
theorem tU{w:World}{n:Nat}(hn:n<=1073741824):
 Calls Tryz.prog 36 #[.int .i64 (n:Int)] w (fun e w'=>e= .returned (.slice (some ⟨w.heap.size,0,none⟩) n n)/\Sets w' w.heap.size n (fun i=>i)/\Below w.heap.size w w'):=by
 have hmk:=Ox (n:Int) n rfl hn;go_enter Tryz.func36,Tryz.ntmps36
 go_wp2_with fail
 go_loopw [9] (fun t wr=>∃k:Nat,k<=n/\t= .int .i64 (k:Int)/\cC wr w.heap.size n (fun i=>if i<k then(i:Int)else 0)/\Below w.heap.size w wr) (fun t _=>n- (intOf t).toNat)
 case atStart=>exact⟨0,aF _,rfl,(cC.new _ _ _).congr fun i _=>by simp,(aq _ _).alloc (aj _) _⟩
 case round=>
  obtain⟨k,hk,rfl,hr,hb⟩:=hrel;clear hmk
  by_cases hlt:k<n
  ·have i0:(0:Int)<=(k:Int):=by omega
   have i1:(k:Int)<n:=by omega
   have c0:=hr.cell hlt;have fz:=hr.frozen k
   have HR:=ah (show cC (wr.setCell ⟨w.heap.size,k,none⟩ (.int .i64 (k:Int))) w.heap.size n (fun i=>if i<k+1 then(i:Int)else 0)from(hr.set k (k:Int)).congr fun i _=>by
    by_cases e:i=k
    ·subst e;rw[aW,if_pos (by omega)]
    ·rw[bk _ _ e];split<;>(first|rw[if_pos (by omega)]|rw[if_neg (by omega)]))
   have HB:=ah (show Below w.heap.size w (wr.setCell ⟨w.heap.size,k,none⟩ (.int .i64 (k:Int)))from hb.trans ⟨rfl,World.tape_setCell _ _ _,rfl,Nat.le_of_eq (World.size_setCell _ _ _).symm,fun j hj=>Below.heap_setCell wr _ _ j (by show j≠w.heap.size;omega)⟩);clear hr hb;go_wp2_with fail
   go_roundw
   case rel=>exact⟨k+1,by omega,by go_num,HR.out,HB.out⟩
   case measure=>simp[intOf];omega
  ·obtain rfl:k=n:=by omega
   have HS:=ah (show Sets wr w.heap.size k (fun i=>i)from⟨fun i=>i,hr.congr fun i hi=>by rw[if_pos hi],fun i _=>aj _,fun i _=>iF (by omega)⟩);clear hr;go_wp2_with fail
   go_ret;exact⟨rfl,HS.out,hb⟩
def PL(w:World)(A:Option Addr)(m:Nat)(l:Nat->Nat×Nat):Prop:=
 0<m->∃b off,A=some ⟨b,off,none⟩/\b<w.heap.size/\∀i,i<m->w.cell? ⟨b,off+i*2,none⟩=some (.int .i64 ((l i).1:Int))/\w.cell? ⟨b,off+i*2+1,none⟩=some (.int .i64 ((l i).2:Int))
theorem PL.below{w w':World}{A:Option Addr}{m:Nat}{l:Nat->Nat×Nat}(h:PL w A m l)(hb:Below w.heap.size w w'):PL w' A m l:=fun h0=>by
 obtain⟨b,off,e,hlt,hc⟩:=h h0;exact⟨b,off,e,ak hlt hb.size,fun i hi=>⟨(hb.cell (p:=⟨b,_,none⟩) hlt).trans (hc i hi).1,(hb.cell (p:=⟨b,_,none⟩) hlt).trans (hc i hi).2⟩⟩
theorem PL.bJ{P:Nat->Prop}{w w':World}{A:Option Addr}{m:Nat}{l:Nat->Nat×Nat}(h:PL w A m l){B:Nat}(hB:∀b off,A=some ⟨b,off,none⟩->b<B)(hc:bw P w w')(hP:∀k,k<B->¬P k):PL w' A m l:=fun h0=>by
 obtain⟨b,off,e,hlt,hd⟩:=h h0;exact⟨b,off,e,ak hlt hc.size,fun i hi=>⟨hc.cell (hP b (hB b off e)) (hd i hi).1,hc.cell (hP b (hB b off e)) (hd i hi).2⟩⟩
theorem FE{w:World}{n m c:Nat}{A:Option Addr}{l:Nat->Nat×Nat}(hn:n<=16384)(hm:m<=1073741824)(hl:PL w A m l)(hv:∀i,i<m->(l i).1<n/\(l i).2<n):
 Calls Tryz.prog 16 #[.int .i64 (n:Int), .slice A m c] w (fun e w'=>e= .returned (.int .i64 0)/\Below w.heap.size w w'):=by
 have n0:¬(n:Int)<0:=by omega
 have n1:¬(16384:Int)< (n:Int):=by omega
 go_enter Tryz.func16,Tryz.ntmps16
 go_wp2_with fail
 go_loopw [15] (fun t wr=>∃k:Nat,k<=m/\t= .int .i64 (k:Int)/\Below w.heap.size w wr) (fun t _=>m- (intOf t).toNat)
 case atStart=>exact⟨0,aF _,rfl,aq _ _⟩
 case round=>
  obtain⟨k,hk,rfl,hb⟩:=hrel
  by_cases hlt:k<m
  ·obtain⟨b,off,rfl,hbl,hc⟩:=(hl.below hb) (by omega);obtain⟨c0,c1⟩:=hc k hlt;obtain⟨v0,v1⟩:=hv k hlt;obtain⟨x,ex⟩:=xeq ((l k).1);obtain⟨y,ey⟩:=xeq ((l k).2);rw[ex]at c0 v0;rw[ey]at c1 v1;have i0:(0:Int)<=(k:Int):=by omega
   have i1:(k:Int)<m:=by omega
   have x0:¬(x:Int)<0:=by omega
   have x1:¬(n:Int)<=(x:Int):=by omega
   have y0:¬(y:Int)<0:=by omega
   have y1:¬(n:Int)<=(y:Int):=by omega
   have HB:=ah (show Below w.heap.size w (wr.alloc (.cells #[.int .i64 (x:Int), .int .i64 (y:Int)] 63))from hb.alloc hb.size _);clear hc ex ey hl hv hb;go_wp2_with fail
   go_roundw
   case rel=>exact⟨k+1,by omega,by go_num,HB.out⟩
   case measure=>simp[intOf];omega
  ·obtain rfl:k=m:=by omega
   clear hl hv;go_wp2_with fail
   go_ret;exact⟨rfl,hb⟩
def uf(l:Nat->Nat×Nat):Nat->Nat->Nat
 |0=>fun i=>i
 |k+1=>yw (uf l k) (l k).1 (l k).2
theorem wZ{w:World}{n m c:Nat}{A:Option Addr}{l:Nat->Nat×Nat}(hn:n<=16384)(hm:m<=1073741824)(hl:PL w A m l)(hv:∀i,i<m->(l i).1<n/\(l i).2<n):
 Calls Tryz.prog 24 #[.int .i64 (n:Int), .slice A m c] w (fun e w'=>∃g,e= .returned (.tuple #[.slice (some ⟨g,0,none⟩) n n, .int .i64 0])/\w.heap.size<=g/\cC w' g n (fun i=>(uf l m i:Int))/\(∀i,i<n->uf l m i<=i/\uf l m (uf l m i)=uf l m i)/\Below w.heap.size w w'):=by
 go_enter Tryz.func24,Tryz.ntmps24
 go_wp2_with fail
 refine(FE hn hm hl hv).mono ?_;rintro e w1 ⟨rfl,b1⟩;go_wp2_with fail
 refine(tU (by omega)).mono ?_;rintro e w2 ⟨rfl,s2,b2⟩;have b12:=b1.trans (b2.mono b1.size);obtain⟨g,eg⟩:=xeq w1.heap.size;have hg:w.heap.size<=g:=by rw[<-eg];exact b1.size
 rw[eg]at s2;clear b1 b2;go_wp2_with fail
 try rw[eg]
 clear eg;have hmk:=tT (n:Int) n rfl (by omega)
 go_loopw [22] (fun t wr=>∃k:Nat,k<=m/\t= .int .i64 (k:Int)/\Sets wr g n (uf l k)/\Below w.heap.size w wr) (fun t _=>m- (intOf t).toNat)
 case atStart=>exact⟨0,aF _,rfl,s2,b12⟩
 case round=>
  clear s2 b12;obtain⟨k,hk,rfl,hs,hb⟩:=hrel
  by_cases hlt:k<m
  ·clear hmk;obtain⟨b,off,rfl,hbl,hc⟩:=(hl.below hb) (by omega);obtain⟨c0,c1⟩:=hc k hlt;obtain⟨v0,v1⟩:=hv k hlt;have i0:(0:Int)<=(k:Int):=by omega
   have i1:(k:Int)<m:=by omega
   obtain⟨x,ex⟩:=xeq ((l k).1);obtain⟨y,ey⟩:=xeq ((l k).2);rw[ex]at c0 v0;rw[ey]at c1 v1;have oN:=hs.bJ (P:=fun _=>False) (bw.alloc wr (.cells #[.int .i64 (x:Int), .int .i64 (y:Int)] 63)) (fun h=>h);have HB:=hb.alloc hb.size (.cells #[.int .i64 (x:Int), .int .i64 (y:Int)] 63);have EX:=ah (show yw (uf l k) x y=uf l (k+1) by show _=yw (uf l k) (l k).1 (l k).2;rw[ex,ey]);clear hc ex ey hs hb;go_wp2_with fail
   refine(Kw oN v0 v1).mono ?_;rintro e w3 ⟨rfl,s3,c3⟩;have b3:=HB.trans (c3.below HB.size (fun k hk e=>by omega));rw[EX.out]at s3;clear EX c3 HB oN;go_wp2_with fail
   go_roundw
   case rel=>exact⟨k+1,by omega,by go_num,s3,b3⟩
   case measure=>simp[intOf];omega
  ·obtain rfl:k=m:=by omega
   obtain⟨ρ,eρ⟩:∃ρ,uf l k=ρ:=⟨_,rfl⟩;rw[eρ]at hs;have hle:∀i,i<n->ρ i<=i/\ρ (ρ i)=ρ i:=fun i hi=>⟨hs.le hi,hs.idem hi⟩;have HL:=ah hle;have ER:=ah eρ;clear hl hv hle eρ;have hg2:=hs.lt;have hi0:=cC.new wr n (fun _=>0);have Cn:=hs.bJ (P:=fun _=>False) (bw.alloc wr (.cells (cQ n (fun _=>0)) 3)) (fun h=>h);have fq:=hb.alloc hb.size (.cells (cQ n (fun _=>0)) 3);obtain⟨h,eh⟩:=xeq wr.heap.size;have hh:w.heap.size<=h:=by rw[<-eh];exact hb.size
   have hgh:g≠h:=by omega
   clear hs hb;go_wp2_with fail
   try rw[eh]
   rw[eh]at hi0;clear eh hmk
   go_loopw [34] (fun t wq=>∃j:Nat,j<=n/\t= .int .i64 (j:Int)/\Sets wq g n ρ/\cC wq h n (fun i=>if i<j then(ρ i:Int)else 0)/\Below w.heap.size w wq) (fun t _=>n- (intOf t).toNat)
   case atStart=>exact⟨0,aF _,rfl,Cn,hi0.congr fun i _=>by simp,fq⟩
   case round=>
    clear Cn hi0 fq;obtain⟨j,hj,rfl,hs,hr,hb⟩:=hrel
    by_cases E9:j<n
    ·have i0:(0:Int)<=(j:Int):=by omega
     have i1:(j:Int)<n:=by omega
     go_wp2_with fail
     refine(yx hs E9).mono ?_;rintro e w5 ⟨rfl,s5,c5⟩;have Fa:=hr.bJ c5 (fun e=>hgh e.symm);have gj:=hb.trans (c5.below hb.size (fun k hk e=>by omega));have c0:=Fa.cell E9;have fz:=Fa.frozen j
     have HR:=ah (show cC (w5.setCell ⟨h,j,none⟩ (.int .i64 (ρ j:Int))) h n (fun i=>if i<j+1 then(ρ i:Int)else 0)from(Fa.set j _).congr fun i _=>by
      by_cases e:i=j
      ·subst e;rw[aW,if_pos (by omega)]
      ·rw[bk _ _ e];split<;>(first|rw[if_pos (by omega)]|rw[if_neg (by omega)]))
     have HS:=ah (s5.bJ (bw.set (P:=(·=h)) (p:=⟨h,j,none⟩) rfl w5 (.int .i64 (ρ j:Int))) hgh);have HB:=ah (gj.trans ((bw.set (P:=(·=h)) (p:=⟨h,j,none⟩) rfl w5 (.int .i64 (ρ j:Int))).below gj.size (fun k hk e=>by omega)));clear hr Fa hb gj hs s5 c5;go_wp2_with fail
     go_roundw
     case rel=>exact⟨j+1,by omega,by go_num,HS.out,HR.out,HB.out⟩
     case measure=>simp[intOf];omega
    ·obtain rfl:j=n:=by omega
     have hr':=hr.congr (f':=fun i=>(ρ i:Int)) fun i hi=>by rw[if_pos hi]
     clear hr hs;go_wp2_with fail
     go_ret2;rw[ER.out];exact⟨h,rfl,hh,hr',HL.out,hb⟩
end Go.Proofs.YtkmpoleajjgfaaaGreat
