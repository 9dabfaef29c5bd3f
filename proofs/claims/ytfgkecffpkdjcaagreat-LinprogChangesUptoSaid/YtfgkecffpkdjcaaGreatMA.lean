/- Continued fractions, convergents, the simplest number of a range, best numbers with bounded denominators: plain mathematics of the rational numbers. -/
namespace Gm
def cf (n:Int) (d:Nat):List Int:=if _h:d = 0 then [] else (n / d) :: cf d (n % d).toNat
termination_by d
decreasing_by
 have:=Int.emod_lt_of_pos n (show (0:Int) < d by omega)
 have:=Int.emod_nonneg n (show (d:Int)≠0 by omega)
 omega
theorem cf_zero (n:Int):cf n 0 = []:=by rw [cf];simp
theorem cf_pos (n:Int) {d:Nat} (h:d≠0):cf n d = (n / d) :: cf d (n % d).toNat:=by rw [cf];simp [h]
def cv:List Int→Int × Int
 | []=>(1,0)
 | a :: l=>(a * (cv l).1 + (cv l).2,(cv l).1)
def cw:List Int→Int × Int
 | []=>(0,1)
 | a :: l=>(a * (cw l).1 + (cw l).2,(cw l).1)
theorem cv_app (l m:List Int):cv (l ++ m) = ((cv l).1 * (cv m).1 + (cw l).1 * (cv m).2,(cv l).2 * (cv m).1 + (cw l).2 * (cv m).2):=by
 induction l with
 | nil=>simp [cv,cw]
 | cons a l ih=>
   simp only [List.cons_append,cv,cw,ih]
   apply Prod.ext
   ·simp only;grind
   ·rfl
theorem c_det (l:List Int):(cv l).1 * (cw l).2 - (cw l).1 * (cv l).2 = (-1) ^ l.length:=by
 induction l with
 | nil=>simp [cv,cw]
 | cons a l ih=>simp only [cv,cw,List.length_cons,Int.pow_succ];grind
def Pos (l:List Int):Prop:=∀ x ∈ l,1≤x
theorem Pos.tail {a:Int} {l:List Int} (h:Pos (a :: l)):1≤a∧Pos l:=⟨h a List.mem_cons_self,fun x hx=>h x (List.mem_cons_of_mem _ hx)⟩
theorem Pos.drop {l:List Int} (h:Pos l) (k:Nat):Pos (l.drop k):=fun x hx=>h x (List.mem_of_mem_drop hx)
theorem Pos.take {l:List Int} (h:Pos l) (k:Nat):Pos (l.take k):=fun x hx=>h x (List.mem_of_mem_take hx)
theorem cv_pos {l:List Int} (h:Pos l):1≤(cv l).1∧0≤(cv l).2∧(cv l).2≤(cv l).1∧(l≠[]→1≤(cv l).2):=by
 induction l with
 | nil=>simp [cv]
 | cons a l ih=>
   obtain ⟨ha,hl⟩:=h.tail
   obtain ⟨h1,h2,h3,h4⟩:=ih hl
   simp only [cv]
   have:(cv l).1≤a * (cv l).1:=by
    have:=Int.mul_le_mul_of_nonneg_right ha (show 0≤(cv l).1 by omega)
    omega
   exact ⟨by omega,by omega,by omega,fun _=>h1⟩
theorem cw_nn {l:List Int} (h:Pos l):0≤(cw l).1∧0≤(cw l).2:=by
 induction l with
 | nil=>simp [cw]
 | cons a l ih=>
   obtain ⟨ha,hl⟩:=h.tail
   obtain ⟨h1,h2⟩:=ih hl
   simp only [cw]
   have:=Int.mul_nonneg (show 0≤a by omega) h1
   exact ⟨by omega,h1⟩
def Last2 (l:List Int):Prop:=∀ x,l.getLast? = some x→2≤x
theorem cv_lt {l:List Int} (h:Pos l) (h2:Last2 l):(cv l).2 < (cv l).1:=by
 cases l with
 | nil=>simp [cv]
 | cons a l=>
   obtain ⟨ha,hl⟩:=h.tail
   simp only [cv]
   cases l with
   | nil=>have:=h2 a rfl;simp [cv];omega
   | cons b l=>
     have h4:=(cv_pos hl).2.2.2 (by simp)
     have h1:=(cv_pos hl).1
     have:=Int.mul_le_mul_of_nonneg_right ha (show 0≤(cv (b :: l)).1 by omega)
     omega
theorem Last2.tail {a:Int} {l:List Int} (h:Last2 (a :: l)):Last2 l:=by
 intro x hx
 refine h x ?_
 cases l with
 | nil=>cases hx
 | cons b l=>rw [List.getLast?_cons_cons];exact hx
theorem Last2.drop {l:List Int} (h:Last2 l):∀ k,Last2 (l.drop k):=by
 induction l with
 | nil=>intro k;simpa using h
 | cons a l ih=>intro k;cases k with
   | zero=>exact h
   | succ k=>exact ih h.tail k
theorem cf_terms:∀ (r:Nat) (m:Nat),r < m→Pos (cf m r)∧Last2 (cf m r):=by
 intro r
 induction r using Nat.strongRecOn with
 | _ r ih=>
   intro m hm
   by_cases h:r = 0
   ·subst h;rw [cf_zero];exact ⟨(by intro x hx;cases hx),(by intro x hx;cases hx)⟩
   ·rw [cf_pos _ h]
    have e:((m:Int) % (r:Int)).toNat = m % r:=by omega
    rw [e]
    have hlt:m % r < r:=Nat.mod_lt _ (by omega)
    obtain ⟨h1,h2⟩:=ih (m % r) hlt r hlt
    have hq:((m:Int) / (r:Int)) = ((m / r:Nat):Int):=by omega
    have hq1:1≤m / r:=Nat.div_pos (by omega) (by omega)
    refine ⟨fun x hx=>?_,fun x hx=>?_⟩
    ·rcases List.mem_cons.1 hx with rfl | hx
     ·rw [hq];omega
     ·exact h1 x hx
    ·by_cases h0:m % r = 0
     ·rw [h0,cf_zero] at hx
      simp at hx
      rw [← hx,hq]
      have h3:=Nat.div_add_mod m r
      rw [h0] at h3
      have:m / r≠1:=by intro e1;rw [e1] at h3;omega
      omega
     ·have hne:cf r (m % r)≠[]:=by rw [cf_pos _ h0];simp
      refine h2 x ?_
      cases hl:cf r (m % r) with
      | nil=>exact absurd hl hne
      | cons b l=>rw [hl,List.getLast?_cons_cons] at hx;exact hx
theorem cv_cf:∀ (d:Nat) (n:Int),d≠0→∃ g:Nat,n = g * (cv (cf n d)).1∧(d:Int) = g * (cv (cf n d)).2:=by
 intro d
 induction d using Nat.strongRecOn with
 | _ d ih=>
   intro n h
   have hr0:=Int.emod_nonneg n (show (d:Int)≠0 by omega)
   have hr1:=Int.emod_lt_of_pos n (show (0:Int) < d by omega)
   have hm:=Int.mul_ediv_add_emod n d
   rw [cf_pos _ h]
   generalize hr:(n % (d:Int)).toNat = r
   have er:n % (d:Int) = (r:Int):=by omega
   rw [er] at hm
   by_cases h1:r = 0
   ·refine ⟨d,?_,?_⟩
    ·rw [h1,cf_zero];simp only [cv];rw [h1] at hm;grind
    ·rw [h1,cf_zero];simp [cv]
   ·obtain ⟨g,e1,e2⟩:=ih r (by omega) d h1
    refine ⟨g,?_,by simp only [cv];exact e1⟩
    simp only [cv]
    grind
def cfq (q:Rat):List Int:=cf q.num q.den
theorem cv_cfq (q:Rat):cv (cfq q) = (q.num,(q.den:Int)):=by
 obtain ⟨g,h1,h2⟩:=cv_cf q.den q.num q.den_nz
 have hg:g ∣ 1:=by
  have hred:=q.reduced
  unfold Nat.Coprime at hred
  rw [← hred]
  refine Nat.dvd_gcd ?_ ?_
  ·have:(g:Int) ∣ q.num:=⟨_,h1⟩
   exact Int.ofNat_dvd_left.1 this
  ·have:(g:Int) ∣ (q.den:Int):=⟨_,h2⟩
   exact Int.ofNat_dvd.1 this
 have hg1:g = 1:=Nat.dvd_one.1 hg
 rw [hg1] at h1 h2
 simp only [Int.cast_ofNat_Int,Int.one_mul] at h1 h2
 exact Prod.ext h1.symm h2.symm
theorem cfq_ne (q:Rat):cfq q≠[]:=by unfold cfq;rw [cf_pos _ q.den_nz];simp
theorem cfq_tail (q:Rat):Pos (cfq q).tail∧Last2 (cfq q).tail:=by
 unfold cfq
 rw [cf_pos _ q.den_nz,List.tail_cons]
 have hr0:=Int.emod_nonneg q.num (show (q.den:Int)≠0 by have:=q.den_nz;omega)
 have hr1:=Int.emod_lt_of_pos q.num (show (0:Int) < q.den by have:=q.den_pos;omega)
 exact cf_terms _ _ (by omega)
theorem drop_tail {α:Type} (l:List α) (k:Nat) (h:1≤k):l.drop k = l.tail.drop (k - 1):=by
 cases l with
 | nil=>simp
 | cons a l=>cases k with
   | zero=>omega
   | succ k=>simp
theorem cfq_drop (q:Rat) {k:Nat} (h:1≤k):Pos ((cfq q).drop k)∧Last2 ((cfq q).drop k):=by
 rw [drop_tail _ _ h]
 exact ⟨(cfq_tail q).1.drop _,(cfq_tail q).2.drop _⟩
theorem rat_ext_mk {n:Int} {d:Nat} (hd:d≠0) (hc:n.natAbs.gcd d = 1):(mkRat n d).num = n∧(mkRat n d).den = d:=by
 rw [Rat.num_mkRat,Rat.den_mkRat,if_neg hd,if_neg hd,Nat.gcd_comm,hc]
 simp
theorem frac_part (q:Rat):(q + -(q.floor:Rat)).num = q.num % q.den∧(q + -(q.floor:Rat)).den = q.den:=by
 have hd:=q.den_nz
 have e:q + -(q.floor:Rat) = mkRat (q.num % q.den) q.den:=by
  rw [Rat.add_def',Rat.neg_num,Rat.neg_den,Rat.num_intCast,Rat.den_intCast,Nat.mul_one,Rat.floor_def]
  have:=Int.mul_ediv_add_emod q.num q.den
  congr 1
  grind
 rw [e]
 refine rat_ext_mk hd ?_
 have hred:=q.reduced
 unfold Nat.Coprime at hred
 have h1:=Nat.gcd_dvd_left (q.num % (q.den:Int)).natAbs q.den
 have h2:=Nat.gcd_dvd_right (q.num % (q.den:Int)).natAbs q.den
 generalize (q.num % (q.den:Int)).natAbs.gcd q.den = g at h1 h2
 have h3:(g:Int) ∣ q.num % (q.den:Int):=Int.ofNat_dvd_left.2 h1
 have h4:(g:Int) ∣ (q.den:Int):=Int.ofNat_dvd.2 h2
 have h5:(g:Int) ∣ q.num:=(by rw [← Int.mul_ediv_add_emod q.num q.den];exact Int.dvd_add (Int.dvd_trans h4 (Int.dvd_mul_right _ _)) h3)
 have h6:g ∣ 1:=by rw [← hred];exact Nat.dvd_gcd (Int.ofNat_dvd_left.1 h5) h2
 exact Nat.dvd_one.1 h6
def fval (l:List Int):Rat:=Rat.divInt (cv l).1 (cv l).2
def fok (l:List Int):Prop:=l≠[]∧∀ j,1≤j→j < l.length→(cv (l.drop j)).1≠0
theorem fok.den {l:List Int} (h:fok l) {j:Nat} (hj:j < l.length):(cv (l.drop j)).2≠0:=by
 have e:l.drop j = l[j] :: l.drop (j + 1):=List.drop_eq_getElem_cons hj
 rw [e]
 simp only [cv]
 by_cases h1:j + 1 < l.length
 ·exact h.2 _ (by omega) h1
 ·rw [List.drop_eq_nil_of_le (by omega)];simp [cv]
theorem fval_one (a:Int):fval [a] = a:=by
 simp only [fval,cv]
 rw [Rat.divInt_eq_div]
 simp
 grind
theorem fval_cons (a:Int) {l:List Int} (h1:(cv l).1≠0):fval (a :: l) = (a:Rat) + (fval l)⁻¹:=by
 simp only [fval,cv]
 rw [Rat.inv_divInt,Rat.divInt_eq_div,Rat.divInt_eq_div]
 have h1':((cv l).1:Rat)≠0:=fun e=>h1 (Rat.intCast_eq_zero_iff.1 e)
 simp only [Rat.intCast_add,Rat.intCast_mul]
 grind
structure Part (q:Rat) (i:Nat) (p p' s s' u v:Int):Prop where
 num:q.num = p * u + p' * v
 den:(q.den:Int) = s * u + s' * v
 det:p * s' - p' * s = (-1) ^ i
 s1:1≤s
 s'0:0≤s'
 u1:1≤u
 v0:0≤v
 vu:v < u
theorem part (q:Rat) {i:Nat} (h1:1≤i) (hi:i≤(cfq q).length):Part q i (cv ((cfq q).take i)).1 (cw ((cfq q).take i)).1 (cv ((cfq q).take i)).2 (cw ((cfq q).take i)).2 (cv ((cfq q).drop i)).1 (cv ((cfq q).drop i)).2:=by
 have e:=cv_app ((cfq q).take i) ((cfq q).drop i)
 rw [List.take_append_drop,cv_cfq] at e
 obtain ⟨d1,d2⟩:=cfq_drop q h1
 have hp:=cv_pos d1
 have ht:Pos ((cfq q).take i).tail:=by
  have:((cfq q).take i).tail = (cfq q).tail.take (i - 1):=by
   cases hl:cfq q with
   | nil=>simp
   | cons a l=>cases i with
     | zero=>omega
     | succ i=>simp
  rw [this];exact (cfq_tail q).1.take _
 have hne:(cfq q).take i≠[]:=by
  intro h0
  have:=congrArg List.length h0
  rw [List.length_take] at this
  have h3:0 < (cfq q).length:=List.length_pos_iff.2 (cfq_ne q)
  rw [List.length_nil] at this;omega
 have hl:((cfq q).take i).length = i:=by rw [List.length_take];omega
 refine ⟨?_,?_,?_,?_,?_,hp.1,hp.2.1,cv_lt d1 d2⟩
 ·exact congrArg Prod.fst e
 ·exact congrArg Prod.snd e
 ·have:=c_det ((cfq q).take i);rw [hl] at this;exact this
 ·cases hc:(cfq q).take i with
  | nil=>exact absurd hc hne
  | cons a l=>rw [hc] at ht;exact (cv_pos ht).1
 ·cases hc:(cfq q).take i with
  | nil=>exact absurd hc hne
  | cons a l=>rw [hc] at ht;exact (cw_nn ht).1
theorem Part.cross {q:Rat} {i:Nat} {p p' s s' u v:Int} (h:Part q i p p' s s' u v):p * q.den - q.num * s = v * (-1) ^ i:=by
 have h1:=h.num;have h2:=h.den;have h3:=h.det
 rw [h1,h2,← h3];grind
theorem sgn_pow (i:Nat):((-1:Int)) ^ i = if i % 2 = 0 then 1 else -1:=by
 induction i with
 | zero=>rfl
 | succ i ih=>rw [Int.pow_succ,ih];by_cases h:i % 2 = 0
              ·rw [if_pos h,if_neg (by omega)];rfl
              ·rw [if_neg h,if_pos (by omega)];rfl
def conv (q:Rat) (i:Nat):Rat:=fval ((cfq q).take (i + 1))
theorem dI_coprime {p s:Int} (hs:0 < s) {x y:Int} (h:p * x + s * y = 1):(Rat.divInt p s).num = p∧((Rat.divInt p s).den:Int) = s:=by
 obtain ⟨k,rfl⟩:∃ k:Nat,s = k:=⟨s.toNat,by omega⟩
 rw [Rat.divInt_ofNat]
 have hk:k≠0:=by omega
 have hc:p.natAbs.gcd k = 1:=by
  have h1:=Nat.gcd_dvd_left p.natAbs k
  have h2:=Nat.gcd_dvd_right p.natAbs k
  generalize p.natAbs.gcd k = g at *
  have h3:(g:Int) ∣ p:=Int.ofNat_dvd_left.2 h1
  have h4:(g:Int) ∣ (k:Int):=Int.ofNat_dvd.2 h2
  have h5:(g:Int) ∣ 1:=by rw [← h];exact Int.dvd_add (Int.dvd_trans h3 (Int.dvd_mul_right _ _)) (Int.dvd_trans h4 (Int.dvd_mul_right _ _))
  exact Nat.dvd_one.1 (Int.ofNat_dvd.1 h5)
 obtain ⟨a,b⟩:=rat_ext_mk hk hc
 exact ⟨a,by rw [b]⟩
theorem cv_bez (l:List Int):∃ x y,(cv l).1 * x + (cv l).2 * y = 1:=by
 have h:=c_det l
 rw [sgn_pow] at h
 split at h
 ·exact ⟨(cw l).2,-(cw l).1,by grind⟩
 ·exact ⟨-(cw l).2,(cw l).1,by grind⟩
theorem fval_parts {l:List Int} (h:0 < (cv l).2):(fval l).num = (cv l).1∧((fval l).den:Int) = (cv l).2:=by
 obtain ⟨x,y,hb⟩:=cv_bez l
 exact dI_coprime h hb
def Best (lo hi x:Rat):Prop:=lo≤x∧x≤hi∧∀ y,lo≤y→y≤hi→x.num.natAbs≤y.num.natAbs∧x.den≤y.den
inductive Smp:Rat→Rat→List Int→Prop where
 | whole {lo hi:Rat} (h:lo + -(lo.floor:Rat) = 0):Smp lo hi [lo.floor]
 | up {lo hi:Rat} (h:lo + -(lo.floor:Rat)≠0) (h1:1≤hi + -(lo.floor:Rat)):Smp lo hi [lo.floor + 1]
 | step {lo hi:Rat} {T:List Int} (h:lo + -(lo.floor:Rat)≠0) (h1:hi + -(lo.floor:Rat) < 1) (t:Smp (hi + -(lo.floor:Rat))⁻¹ (lo + -(lo.floor:Rat))⁻¹ T):Smp lo hi (lo.floor :: T)
theorem floor_bd (q:Rat):(q.floor:Rat)≤q∧q < (q.floor:Rat) + 1:=by
 refine ⟨Rat.floor_le q,?_⟩
 have:=Rat.lt_floor_add_one q
 rw [Rat.intCast_add] at this
 exact this
theorem floor_nn {q:Rat} (h:0≤q):0≤q.floor:=Rat.le_floor_iff.2 (by simpa using h)
theorem num_ge {w:Int} {y:Rat} (h:(w:Rat)≤y):w * y.den≤y.num:=by
 have:=(Rat.le_iff _ _).1 h
 simpa using this
theorem num_gt {w:Int} {y:Rat} (h:(w:Rat) < y):w * y.den < y.num:=by
 have:=(Rat.lt_iff _ _).1 h
 simpa using this
theorem inv_le_inv' {a b:Rat} (ha:0 < a) (h:a≤b):b⁻¹≤a⁻¹:=by
 have hb:0 < b:=by grind
 have h1:b⁻¹ * a≤b⁻¹ * b:=Rat.mul_le_mul_of_nonneg_left h (Rat.le_of_lt (Rat.inv_pos.2 hb))
 have h2:b⁻¹ * b = 1:=Rat.inv_mul_cancel b (by grind)
 have h3:a * a⁻¹ = 1:=Rat.mul_inv_cancel a (by grind)
 have h4:b⁻¹ * a * a⁻¹≤1 * a⁻¹:=Rat.mul_le_mul_of_nonneg_right (by grind) (Rat.le_of_lt (Rat.inv_pos.2 ha))
 rw [Rat.mul_assoc,h3] at h4
 grind
theorem one_lt_inv {a:Rat} (ha:0 < a) (h:a < 1):1 < a⁻¹:=by
 have h3:a * a⁻¹ = 1:=Rat.mul_inv_cancel a (by grind)
 have h4:a * a⁻¹ < 1 * a⁻¹:=Rat.mul_lt_mul_of_pos_right h (Rat.inv_pos.2 ha)
 grind
theorem inv_of {a b:Rat} (ha:0 < a):a≤b⁻¹→0 < b→b≤a⁻¹:=by
 intro h hb
 have:=inv_le_inv' ha h
 rw [Rat.inv_inv] at this;exact this
structure SmpOk (lo hi:Rat) (T:List Int):Prop where
 ne:T≠[]
 tail:Pos T.tail
 pos:1≤lo→Pos T
 nn:0≤(cv T).1∧1≤(cv T).2
 best:Best lo hi (fval T)
theorem Smp.ok {lo hi:Rat} {T:List Int} (h:Smp lo hi T):0 < lo→lo≤hi→SmpOk lo hi T:=by
 induction h with
 | @whole lo hi h=>
   intro h0 hle
   have e:lo = (lo.floor:Rat):=by grind
   have hw:0 < lo.floor:=by rw [e] at h0;exact Rat.intCast_pos.1 h0
   refine ⟨by simp,(by intro x hx;cases hx),fun _ x hx=>?_,⟨by simp [cv];omega,by simp [cv]⟩,?_⟩
   ·simp at hx;omega
   ·rw [fval_one]
    refine ⟨by rw [← e];exact Rat.le_refl,by rw [← e];exact hle,fun y h1 _=>?_⟩
    rw [e] at h1
    have h3:=num_ge h1
    have h4:=y.den_pos
    have h5:lo.floor * 1≤lo.floor * y.den:=Int.mul_le_mul_of_nonneg_left (by omega) (by omega)
    simp only [Rat.num_intCast,Rat.den_intCast]
    omega
 | @up lo hi h h1=>
   intro h0 hle
   have hf:=floor_bd lo
   have hw:=floor_nn (Rat.le_of_lt h0)
   have hlt:(lo.floor:Rat) < lo:=by grind
   refine ⟨by simp,(by intro x hx;cases hx),fun h2 x hx=>?_,⟨by simp [cv];omega,by simp [cv]⟩,?_⟩
   ·simp at hx;omega
   ·rw [fval_one]
    have e:((lo.floor + 1:Int):Rat) = (lo.floor:Rat) + 1:=by rw [Rat.intCast_add];rfl
    refine ⟨by rw [e];grind,by rw [e];grind,fun y h1 _=>?_⟩
    have h3:=num_gt (w:=lo.floor) (y:=y) (by grind)
    have h4:=y.den_pos
    have h5:lo.floor * 1≤lo.floor * y.den:=Int.mul_le_mul_of_nonneg_left (by omega) (by omega)
    simp only [Rat.num_intCast,Rat.den_intCast]
    omega
 | @step lo hi T h h1 t ih=>
   intro h0 hle
   have hf:=floor_bd lo
   have hw:=floor_nn (Rat.le_of_lt h0)
   have hlo:0 < lo + -(lo.floor:Rat):=by grind
   have hhi:0 < hi + -(lo.floor:Rat):=by grind
   have hl1:=one_lt_inv hhi h1
   have i:=ih (by grind) (inv_le_inv' hlo (by grind))
   have hP:Pos T:=i.pos (Rat.le_of_lt hl1)
   have hc:=cv_pos hP
   have hn1:(cv T).1≠0:=by omega
   obtain ⟨x1,x2,x3⟩:=i.best
   obtain ⟨f1,f2⟩:=fval_parts (l:=T) (by have:=i.nn.2;omega)
   have hx0:0 < fval T:=by grind
   have hnn:0≤(cv (lo.floor :: T)).1∧1≤(cv (lo.floor :: T)).2:=by
    simp only [cv]
    have:=Int.mul_nonneg hw (show 0≤(cv T).1 by omega)
    have:=i.nn.2
    omega
   refine ⟨by simp,by rw [List.tail_cons];exact hP,fun h2 x hx=>?_,hnn,?_⟩
   ·rcases List.mem_cons.1 hx with rfl | hx
    ·exact Rat.le_floor_iff.2 (by simpa using h2)
    ·exact hP x hx
   ·obtain ⟨g1,g2⟩:=fval_parts (l:=lo.floor :: T) (by omega)
    rw [Best,g1]
    rw [fval_cons _ hn1]
    have y1:(fval T)⁻¹≤hi + -(lo.floor:Rat):=by
     have:=inv_le_inv' (Rat.inv_pos.2 hhi) x1
     rw [Rat.inv_inv] at this;exact this
    have y2:lo + -(lo.floor:Rat)≤(fval T)⁻¹:=inv_of (Rat.inv_pos.2 hlo |> fun _=>hx0) x2 hlo
    refine ⟨by grind,by grind,fun y h2 h3=>?_⟩
    rw [← fval_cons _ hn1]
    have hfl:y.floor = lo.floor:=by
     apply Int.le_antisymm
     ·have:y < ((lo.floor + 1:Int):Rat):=by rw [Rat.intCast_add];show y < (lo.floor:Rat) + 1;grind
      have:=Rat.floor_lt_iff.2 this
      omega
     ·exact Rat.le_floor_iff.2 (by grind)
    have hy0:0 < y + -(lo.floor:Rat):=by grind
    obtain ⟨p1,p2⟩:=frac_part y
    rw [hfl] at p1 p2
    have hr:y.num % (y.den:Int)≠0:=fun e=>by
     rw [e] at p1
     have:=Rat.num_eq_zero.1 p1
     grind
    have hr0:=Int.emod_nonneg y.num (show (y.den:Int)≠0 by have:=y.den_nz;omega)
    have hd:=x3 (y + -(lo.floor:Rat))⁻¹ (inv_le_inv' hy0 (by grind)) (inv_le_inv' hlo (by grind))
    rw [f1,Rat.num_inv,Rat.den_inv,p1,p2,if_neg hr,Int.sign_eq_one_of_pos (by omega),Int.one_mul] at hd
    have hfd:y.num / (y.den:Int) = lo.floor:=by rw [← hfl,Rat.floor_def]
    have hm:=Int.mul_ediv_add_emod y.num y.den
    rw [hfd] at hm
    simp only [cv] at g2 hnn ⊢
    have q1:(cv T).1≤y.den:=by omega
    have q2:=Int.mul_le_mul_of_nonneg_left q1 hw
    have q3:(cv T).2≤y.num % (y.den:Int):=by omega
    have e3:(y.den:Int) * lo.floor = lo.floor * y.den:=Int.mul_comm _ _
    omega
theorem Smp.fok {lo hi:Rat} {T:List Int} (h:SmpOk lo hi T):fok T:=by
 refine ⟨h.ne,fun j hj _=>?_⟩
 rw [drop_tail _ _ hj]
 have:=(cv_pos (h.tail.drop (j - 1))).1
 omega
theorem Smp.size {lo hi:Rat} {T:List Int} (h:SmpOk lo hi T) (h0:0 < lo) (hl:lo≤hi) (j:Nat):0≤(cv (T.drop j)).1∧((cv (T.drop j)).1≤lo.num∨(cv (T.drop j)).1≤lo.den):=by
 obtain ⟨g1,g2⟩:=fval_parts (l:=T) (by have:=h.nn;omega)
 have hb:=h.best.2.2 lo Rat.le_refl hl
 have hn:0 < lo.num:=by
  have:=(Rat.lt_iff _ _).1 h0
  simpa using this
 rcases Nat.eq_zero_or_pos j with rfl | hj
 ·rw [List.drop_zero]
  have:=h.nn
  rw [g1] at hb
  exact ⟨by omega,.inl (by omega)⟩
 ·rw [drop_tail _ _ hj]
  have hp:=cv_pos (h.tail.drop (j - 1))
  refine ⟨by omega,.inr ?_⟩
  have key:∀ (l:List Int),Pos l→∀ k,(cv (l.drop k)).1≤(cv l).1:=by
   intro l
   induction l with
   | nil=>intro _ k;simp
   | cons a l ih=>
     intro h k
     cases k with
     | zero=>simp
     | succ k=>
       obtain ⟨ha,hl⟩:=h.tail
       have:=ih hl k
       have h6:=cv_pos hl
       have:=Int.mul_le_mul_of_nonneg_right ha (show 0≤(cv l).1 by omega)
       simp only [List.drop_succ_cons,cv]
       omega
  have k1:=key _ h.tail (j - 1)
  have k2:(cv T.tail).1 = (cv T).2:=by
   cases T with
   | nil=>exact absurd rfl h.ne
   | cons a l=>rfl
  omega
def IsBelow (a:Rat) (M:Int) (x:Rat):Prop:=x≤a∧(x.den:Int)≤M∧∀ y,y≤a→(y.den:Int)≤M→y≤x
def IsAbove (a:Rat) (M:Int) (x:Rat):Prop:=a≤x∧(x.den:Int)≤M∧∀ y,a≤y→(y.den:Int)≤M→x≤y
theorem IsBelow.neg {a x:Rat} {M:Int} (h:IsBelow (-a) M x):IsAbove a M (-x):=by
 refine ⟨by have:=h.1;grind,h.2.1,fun y h1 h2=>?_⟩
 have:=h.2.2 (-y) (by grind) h2
 grind
noncomputable def bel (a:Rat) (M:Int):Rat:=@dite _ (∃ x,IsBelow a M x) (Classical.propDecidable _) (fun h=>Classical.choose h) (fun _=>0)
noncomputable def abv (a:Rat) (M:Int):Rat:=@dite _ (∃ x,IsAbove a M x) (Classical.propDecidable _) (fun h=>Classical.choose h) (fun _=>0)
end Gm
