/- How programs, lists of numbers and solutions that came in are opened. -/
import Derived.Test.YtfgkecffpkdjcaaGreatOL
import Derived.Test.YtfgkecffpkdjcaaGreatLZ
import Derived.Test.YtfgkecffpkdjcaaGreatVH
namespace Go.Proofs.YtfgkecffpkdjcaaGreat
open Go.ChangeShapes Go.WideShapes Go.ChangeAt Go.RowKit Go.Joins Gm Go.Vx
set_option maxRecDepth 100000
section
variable {H:Type} {enc:TypeId × Value→H} {W:World}
instance:Inhabited LCol:=⟨colZ⟩
instance:Inhabited LRow:=⟨rowZ⟩
theorem opn_at {a b:Av} {cs:List Value} {o k o':Nat} (e:o + k = o') (h1:Opn W a ((cs.drop o).take k)) (h2:Opn W b (cs.drop o')):Opn W (.cons a b) (cs.drop o):=by
 have e1:cs.drop o = (cs.drop o).take k ++ cs.drop o':=by rw [← e,← List.drop_drop];exact (List.take_append_drop k _).symm
 refine ⟨fun w' hg=>⟨_,_,e1,h1.r w' hg,h2.r w' hg⟩,fun u hu=>?_⟩
 rw [e1] at hu
 rcases List.mem_append.1 hu with hu | hu
 ·exact h1.o u hu
 ·exact h2.o u hu
theorem opn_nil {cs:List Value} {o:Nat} (h:cs.length≤o):Opn W .nil (cs.drop o):=by
 rw [List.drop_of_length_le h]
 exact ⟨fun _ _=>rfl,fun u hu=>by cases hu⟩
theorem opn_bool {t:TypeId} {fuel:Nat} {cs:List Value} {y:DataW H × List MemPlace} (ht:Tryz.prog.underlying t = some .bool) (h:DataW.trod enc Tryz.prog W 0 (fun _=>true) true fuel t cs = some y):∃ b,Opn W (.val (.bool b)) cs:=by
 obtain ⟨b,rfl,_⟩:=DataW.trod_bool ht h
 exact ⟨b,fun _ _=>rfl,by simp [Value.oneCell']⟩
theorem opn_int {t:TypeId} {fuel:Nat} {cs:List Value} {y:DataW H × List MemPlace} (ht:Tryz.prog.underlying t = some (.int .i64)) (h:DataW.trod enc Tryz.prog W 0 (fun _=>true) true fuel t cs = some y):∃ z,Opn W (.val (.int .i64 z)) cs:=by
 obtain ⟨z,rfl,_⟩:=DataW.trod_int ht h
 exact ⟨z,fun _ _=>rfl,by simp [Value.oneCell']⟩
theorem opn_rat {B fuel:Nat} {cs:List Value} {y:DataW H × List MemPlace} (h:DataW.trod enc Tryz.prog W 0 (fun _=>true) true fuel 36 cs = some y) (hB:Rows.uptoBulk y.1≤B):∃ q:Rat,Opn W (.rat q B) cs∧Wt [q] (Rows.uptoBulk y.1):=by
 have hl3:cs.length = 3:=by
  obtain ⟨xs,n,_,hx,hl,_⟩:=DataW.trod_struct Tryz.underlying36 h
  exact hl.trans cells_rat
 obtain ⟨c0,c1,c2,rfl⟩:∃ c0 c1 c2,cs = [c0,c1,c2]:=by
  match cs,hl3 with
  | [c0,c1,c2],_=>exact ⟨_,_,_,rfl⟩
 obtain ⟨y0,y1,n,hx,_,h0,h1⟩:=trod_struct2 Tryz.underlying36 h
 have h0':DataW.trod enc Tryz.prog W 0 (fun _=>true) true n 34 [c0,c1] = some y0:=by simpa [cells_int] using h0
 have h1':DataW.trod enc Tryz.prog W 0 (fun _=>true) true n 32 [c2] = some y1:=by simpa [cells_sl] using h1
 obtain ⟨z0,z1,m,hy,_,k0,k1⟩:=trod_struct2 Tryz.underlying34 h0'
 have k0':DataW.trod enc Tryz.prog W 0 (fun _=>true) true m 4 [c0] = some z0:=by simpa [cells_bo] using k0
 have k1':DataW.trod enc Tryz.prog W 0 (fun _=>true) true m 32 [c1] = some z1:=by simpa [cells_sl] using k1
 obtain ⟨neg,e0,_⟩:=DataW.trod_bool Tryz.underlying4 k0'
 simp at e0
 subst e0
 subst hx
 subst hy
 obtain ⟨A,c,xs,rfl,hl,hd⟩:=open_limbs k1'
 obtain ⟨B',e,ys,rfl,hl2,hd2⟩:=open_limbs h1'
 have b1:=limbs_bulk hd
 have b2:=limbs_bulk hd2
 simp only [Rows.uptoBulk,Rows.uptoBulkAll] at hB ⊢
 have c1:=hl.cap
 have c2:=hl2.cap
 have hr:∀ K,xs.length≤K→ys.length≤K→1≤K→Rob (fun _=>False) W (.rat (rv neg xs ys) K) [.bool neg,.slice A xs.length c,.slice B' ys.length e]:=fun K h1 h2 h3=>fun _ hg=>⟨_,_,_,rfl,neg,A,xs,c,B',ys,e,rfl,rfl,rfl,lim_agr hl hg,lim_agr hl2 hg,h1,h2,h3,rfl⟩
 refine ⟨rv neg xs ys,⟨hr B (by omega) (by omega) (by omega),by simp [Value.oneCell']⟩,?_⟩
 obtain ⟨_,_,_,e,hi⟩:=(hr _ (show xs.length≤_ by omega) (show ys.length≤_ by omega) (show 1≤Rows.uptoBulk z0.1 + (Rows.uptoBulk z1.1 + 0) + 1 + (Rows.uptoBulk y1.1 + 0) + 1 by omega)).here
 exact Gm.Sz.wt (IsRat.sz hi)
theorem opn_col {B fuel:Nat} {cs:List Value} {y:DataW H × List MemPlace} (h:DataW.trod enc Tryz.prog W 0 (fun _=>true) true fuel 61 cs = some y) (hB:Rows.uptoBulk y.1≤B):∃ c:LCol,Opn W (colC c B) cs∧Wt (colN c) (Rows.uptoBulk y.1):=by
 obtain ⟨xs,n,_,hx,hl,hxl,hf⟩:=DataW.trod_struct Tryz.underlying61 h
 have hc:Tryz.prog.cellsOf 61 = 11:=by kernel_rfl
 have hl':cs.length = 11:=hl.trans hc
 have f0:DataW.trod enc Tryz.prog W 0 (fun _=>true) true n 36 ((cs.drop 0).take (Tryz.prog.cellsOf 36)) = xs[0]?:=hf 0 _ rfl
 have f1:DataW.trod enc Tryz.prog W 0 (fun _=>true) true n 4 ((cs.drop 3).take (Tryz.prog.cellsOf 4)) = xs[1]?:=hf 1 _ rfl
 have f2:DataW.trod enc Tryz.prog W 0 (fun _=>true) true n 36 ((cs.drop 4).take (Tryz.prog.cellsOf 36)) = xs[2]?:=hf 2 _ rfl
 have f3:DataW.trod enc Tryz.prog W 0 (fun _=>true) true n 4 ((cs.drop 7).take (Tryz.prog.cellsOf 4)) = xs[3]?:=hf 3 _ rfl
 have f4:DataW.trod enc Tryz.prog W 0 (fun _=>true) true n 36 ((cs.drop 8).take (Tryz.prog.cellsOf 36)) = xs[4]?:=hf 4 _ rfl
 rw [cells_rat] at f0
 rw [cells_bo] at f1
 rw [cells_rat] at f2
 rw [cells_bo] at f3
 rw [cells_rat] at f4
 have hxl':xs.length = 5:=hxl
 match xs,hxl' with
 | [x0,x1,x2,x3,x4],_=>
   subst hx
   simp only [Rows.uptoBulk,List.map_cons,List.map_nil,Rows.uptoBulkAll] at hB ⊢
   obtain ⟨q0,o0,w0⟩:=opn_rat (B:=B) f0 (by omega)
   obtain ⟨q1,o1⟩:=opn_bool Tryz.underlying4 f1
   obtain ⟨q2,o2,w2⟩:=opn_rat (B:=B) f2 (by omega)
   obtain ⟨q3,o3⟩:=opn_bool Tryz.underlying4 f3
   obtain ⟨q4,o4,w4⟩:=opn_rat (B:=B) f4 (by omega)
   have hw:=(w0.app w2).app w4
   refine ⟨⟨q0,q1,q2,q3,q4⟩,?_,hw.mono (by omega)⟩
   exact opn_at (o:=0) (k:=3) (o':=3) rfl o0 (opn_at (k:=1) (o':=4) rfl o1 (opn_at (k:=3) (o':=7) rfl o2 (opn_at (k:=1) (o':=8) rfl o3 (opn_at (k:=3) (o':=11) rfl o4 (opn_nil (by omega))))))
theorem opn_ent {B fuel:Nat} {cs:List Value} {y:DataW H × List MemPlace} (h:DataW.trod enc Tryz.prog W 0 (fun _=>true) true fuel 117 cs = some y) (hB:Rows.uptoBulk y.1≤B):∃ e:Int × Rat,Opn W (entC e B) cs∧Wt [e.2] (Rows.uptoBulk y.1):=by
 obtain ⟨xs,n,_,hx,hl,hxl,hf⟩:=DataW.trod_struct Tryz.underlying117 h
 have hc:Tryz.prog.cellsOf 117 = 4:=by kernel_rfl
 have hi:Tryz.prog.cellsOf 3 = 1:=by kernel_rfl
 have hl':cs.length = 4:=hl.trans hc
 have f0:DataW.trod enc Tryz.prog W 0 (fun _=>true) true n 3 ((cs.drop 0).take (Tryz.prog.cellsOf 3)) = xs[0]?:=hf 0 _ rfl
 have f1:DataW.trod enc Tryz.prog W 0 (fun _=>true) true n 36 ((cs.drop 1).take (Tryz.prog.cellsOf 36)) = xs[1]?:=hf 1 _ rfl
 rw [hi] at f0
 rw [cells_rat] at f1
 have hxl':xs.length = 2:=hxl
 match xs,hxl' with
 | [x0,x1],_=>
   subst hx
   simp only [Rows.uptoBulk,List.map_cons,List.map_nil,Rows.uptoBulkAll] at hB ⊢
   obtain ⟨q0,o0⟩:=opn_int Tryz.underlying3 f0
   obtain ⟨q1,o1,w1⟩:=opn_rat (B:=B) f1 (by omega)
   refine ⟨(q0,q1),?_,w1.mono (by omega)⟩
   exact opn_at (o:=0) (k:=1) (o':=1) rfl o0 (opn_at (k:=3) (o':=4) rfl o1 (opn_nil (by omega)))
theorem fm_map (l:List (Int × Rat)):l.flatMap (fun e=>[e.2]) = l.map (·.2):=by rw [List.map_eq_flatMap]
theorem opn_ents {B fuel:Nat} {cs:List Value} {y:DataW H × List MemPlace} (h:DataW.trod enc Tryz.prog W 0 (fun _=>true) true fuel 54 cs = some y) (hl:cs.length = 1) (hB:Rows.uptoBulk y.1≤B):∃ es:List (Int × Rat),Opn W (.cons (entsAv es B) .nil) cs∧Wt (es.map (·.2)) (Rows.uptoBulk y.1)∧es.length≤Rows.uptoBulk y.1:=by
 match cs,hl with
 | [v],_=>
   obtain ⟨l,h1,h2,h3,_⟩:=open_list (α:=Int × Rat) (sz:=4) (B:=B) (by decide) Tryz.underlying54 (by kernel_rfl) (fun e=>[e.2]) (fun e=>entC e B) (0,0) (fun _=>True) (fun fuel cs y hy hb=>by obtain ⟨e,a,b⟩:=opn_ent hy hb;exact ⟨e,a,b,trivial⟩) h hB
   rw [fm_map] at h2
   exact ⟨l,h1,h2,h3⟩
theorem opn_row {B fuel:Nat} {cs:List Value} {y:DataW H × List MemPlace} (h:DataW.trod enc Tryz.prog W 0 (fun _=>true) true fuel 56 cs = some y) (hB:Rows.uptoBulk y.1≤B):∃ r:LRow,Opn W (rowC r B) cs∧Wt (rowN r) (Rows.uptoBulk y.1)∧r.es.length≤B:=by
 obtain ⟨xs,n,_,hx,hl,hxl,hf⟩:=DataW.trod_struct Tryz.underlying56 h
 have hc:Tryz.prog.cellsOf 56 = 5:=by kernel_rfl
 have hi:Tryz.prog.cellsOf 3 = 1:=by kernel_rfl
 have he:Tryz.prog.cellsOf 54 = 1:=by kernel_rfl
 have hl':cs.length = 5:=hl.trans hc
 have f0:DataW.trod enc Tryz.prog W 0 (fun _=>true) true n 3 ((cs.drop 0).take (Tryz.prog.cellsOf 3)) = xs[0]?:=hf 0 _ rfl
 have f1:DataW.trod enc Tryz.prog W 0 (fun _=>true) true n 36 ((cs.drop 1).take (Tryz.prog.cellsOf 36)) = xs[1]?:=hf 1 _ rfl
 have f2:DataW.trod enc Tryz.prog W 0 (fun _=>true) true n 54 ((cs.drop 4).take (Tryz.prog.cellsOf 54)) = xs[2]?:=hf 2 _ rfl
 rw [hi] at f0
 rw [cells_rat] at f1
 rw [he] at f2
 have hxl':xs.length = 3:=hxl
 match xs,hxl' with
 | [x0,x1,x2],_=>
   subst hx
   simp only [Rows.uptoBulk,List.map_cons,List.map_nil,Rows.uptoBulkAll] at hB ⊢
   obtain ⟨q0,o0⟩:=opn_int Tryz.underlying3 f0
   obtain ⟨q1,o1,w1⟩:=opn_rat (B:=B) f1 (by omega)
   obtain ⟨q2,o2,w2,l2⟩:=opn_ents (B:=B) f2 (by simp;omega) (by omega)
   refine ⟨⟨q0,q1,q2⟩,?_,(w1.app w2).mono (by omega),(show q2.length≤B by omega)⟩
   have o2':Opn W (.cons (entsAv q2 B) .nil) (cs.drop 4):=by rw [List.take_of_length_le (by simp;omega)] at o2;exact o2
   exact opn_at (o:=0) (k:=1) (o':=1) rfl o0 (opn_at (k:=3) (o':=4) rfl o1 o2')
theorem opn_prg {B fuel:Nat} {cs:List Value} {y:DataW H × List MemPlace} (h:DataW.trod enc Tryz.prog W 0 (fun _=>true) true fuel 26 cs = some y) (hB:Rows.uptoBulk y.1≤B) (hB2:B≤1048576):∃ p:Prg,Opn W (.cons (colsAv p.cols B) (.cons (rowsAv p.rows B) .nil)) cs∧Wt (prgN p) (Rows.uptoBulk y.1)∧PB p B:=by
 obtain ⟨xs,n,_,hx,hl,hxl,hf⟩:=DataW.trod_struct Tryz.underlying26 h
 have hc:Tryz.prog.cellsOf 26 = 2:=by kernel_rfl
 have h0:Tryz.prog.cellsOf 23 = 1:=by kernel_rfl
 have h1:Tryz.prog.cellsOf 24 = 1:=by kernel_rfl
 have hl':cs.length = 2:=hl.trans hc
 have f0:DataW.trod enc Tryz.prog W 0 (fun _=>true) true n 23 ((cs.drop 0).take (Tryz.prog.cellsOf 23)) = xs[0]?:=hf 0 _ rfl
 have f1:DataW.trod enc Tryz.prog W 0 (fun _=>true) true n 24 ((cs.drop 1).take (Tryz.prog.cellsOf 24)) = xs[1]?:=hf 1 _ rfl
 rw [h0] at f0
 rw [h1] at f1
 have hxl':xs.length = 2:=hxl
 obtain ⟨c0,c1,rfl⟩:∃ c0 c1,cs = [c0,c1]:=by
  match cs,hl' with
  | [c0,c1],_=>exact ⟨_,_,rfl⟩
 match xs,hxl' with
 | [x0,x1],_=>
   subst hx
   simp only [Rows.uptoBulk,List.map_cons,List.map_nil,Rows.uptoBulkAll] at hB ⊢
   obtain ⟨l,a1,a2,a3,_⟩:=open_list (α:=LCol) (sz:=11) (B:=B) (by decide) Tryz.underlying23 (by kernel_rfl) colN (fun c=>colC c B) colZ (fun _=>True) (fun fuel cs y hy hb=>by obtain ⟨e,a,b⟩:=opn_col hy hb;exact ⟨e,a,b,trivial⟩) f0 (by omega)
   obtain ⟨m,b1,b2,b3,b4⟩:=open_list (α:=LRow) (sz:=5) (B:=B) (by decide) Tryz.underlying24 (by kernel_rfl) rowN (fun c=>rowC c B) rowZ (fun r=>r.es.length≤B) (fun fuel cs y hy hb=>opn_row hy hb) f1 (by omega)
   refine ⟨⟨l,m⟩,?_,(a2.app b2).mono (by omega),⟨by show l.length≤_;omega,by show m.length≤_;omega,fun i=>?_,by omega⟩⟩
   ·refine ⟨fun w' hg=>⟨[c0],[c1],rfl,?_,b1.r w' hg⟩,fun u hu=>?_⟩
    ·obtain ⟨x,z,e,hx,hz⟩:=a1.r w' hg
     cases hz
     rw [List.append_nil] at e
     rw [e];exact hx
    ·rcases List.mem_cons.1 hu with hu | hu
     ·exact a1.o u (by rw [hu];exact List.mem_cons_self)
     ·exact b1.o u hu
   ·rcases getD_or m i rowZ with h | h
    ·exact Nat.le_trans (b4 _ h) hB2
    ·show (m.getD i rowZ).es.length≤_
     rw [h];exact Nat.zero_le _
theorem fm_one (l:List Rat):l.flatMap (fun q=>[q]) = l:=by rw [← List.map_eq_flatMap];simp
theorem opn_rl {B fuel:Nat} {v:Value} {y:DataW H × List MemPlace} (h:DataW.trod enc Tryz.prog W 0 (fun _=>true) true fuel 28 [v] = some y) (hB:Rows.uptoBulk y.1≤B):∃ x:List Rat,Opn W (.cons (rlAv x B) .nil) [v]∧Wt x (Rows.uptoBulk y.1)∧x.length≤Rows.uptoBulk y.1:=by
 obtain ⟨l,h1,h2,h3,_⟩:=open_list (α:=Rat) (sz:=3) (B:=B) (by decide) Tryz.underlying28 cells_rat (fun q=>[q]) (fun q=>.cons (.rat q B) .nil) 0 (fun _=>True) (fun fuel cs y hy hb=>by
  obtain ⟨q,a,b⟩:=opn_rat hy hb
  exact ⟨q,⟨fun w' hg=>⟨cs,[],(List.append_nil _).symm,a.r w' hg,rfl⟩,a.o⟩,b,trivial⟩) h hB
 rw [fm_one] at h2
 exact ⟨l,h1,h2,h3⟩
theorem opn_prg_v {base:Nat} {v:Value} {d:DataW H} {pl:List MemPlace} (hv:Value.okWide Tryz.prog W .any base 26 v) (h:DataW.Trod enc Tryz.prog W 0 (fun _=>true) true 26 v d pl) (hB:Rows.uptoBulk d≤1048576) :
  ∃ p:Prg,Rob (fun _=>False) W (prgAv p 1048576) [v]∧Wt (prgN p) (Rows.uptoBulk d)∧PB p 1048576:=by
 obtain ⟨cs,rfl,_⟩:=okWide_struct Tryz.underlying26 hv
 obtain ⟨fuel,hf⟩:=h
 obtain ⟨p,h1,h2,h3⟩:=opn_prg (B:=1048576) (cs:=cs.toList) hf hB (Nat.le_refl _)
 exact ⟨p,by have e:=Rob.agg h1.r;rw [Array.toArray_toList] at e;exact e,h2,h3⟩
theorem opn_rl_v {base:Nat} {v:Value} {d:DataW H} {pl:List MemPlace} (hv:Value.okWide Tryz.prog W .any base 28 v) (h:DataW.Trod enc Tryz.prog W 0 (fun _=>true) true 28 v d pl) (hB:Rows.uptoBulk d≤1048576) :
  ∃ x:List Rat,Rob (fun _=>False) W (rlAv x 1048576) [v]∧Wt x (Rows.uptoBulk d)∧x.length≤1048576:=by
 obtain ⟨a0,len,cap,rfl⟩:=okWide_slice Tryz.underlying28 hv
 obtain ⟨fuel,hf⟩:=h
 obtain ⟨x,h1,h2,h3⟩:=opn_rl (B:=1048576) (v:=.slice a0 len cap) (by simpa [Value.cells] using hf) hB
 refine ⟨x,fun w' hg=>?_,h2,Nat.le_trans h3 hB⟩
 obtain ⟨u,z,e,hu,hz⟩:=h1.r w' hg
 cases hz
 rw [List.append_nil] at e
 rw [e];exact hu
theorem opn_q_v {base:Nat} {v:Value} {d:DataW H} {pl:List MemPlace} (hv:Value.okWide Tryz.prog W .any base 36 v) (h:DataW.Trod enc Tryz.prog W 0 (fun _=>true) true 36 v d pl) (hB:Rows.uptoBulk d≤1048576) :
  ∃ q:Rat,Rob (fun _=>False) W (rAv q 1048576) [v]∧Wt [q] (Rows.uptoBulk d):=by
 obtain ⟨cs,rfl,_⟩:=okWide_struct Tryz.underlying36 hv
 obtain ⟨fuel,hf⟩:=h
 obtain ⟨q,h1,h2⟩:=opn_rat (B:=1048576) (cs:=cs.toList) hf hB
 exact ⟨q,by have e:=Rob.agg (Rob.one h1.r);rw [Array.toArray_toList] at e;exact e,h2⟩
theorem opn_il {B fuel:Nat} {v:Value} {y:DataW H × List MemPlace} (h:DataW.trod enc Tryz.prog W 0 (fun _=>true) true fuel 22 [v] = some y) (hB:Rows.uptoBulk y.1≤B):∃ l:List Int,Opn W (.cons (ilAv l) .nil) [v]∧l.length≤Rows.uptoBulk y.1:=by
 obtain ⟨l,h1,_,h3,_⟩:=open_list (α:=Int) (sz:=1) (B:=B) (by decide) Tryz.underlying22 (by kernel_rfl) (fun _=>[]) (fun z=>.cons (.val (.int .i64 z)) .nil) 0 (fun _=>True) (fun fuel cs y hy _=>by
  obtain ⟨z,a⟩:=opn_int Tryz.underlying3 hy
  exact ⟨z,⟨fun w' hg=>⟨cs,[],(List.append_nil _).symm,a.r w' hg,rfl⟩,a.o⟩,Wt.nil _,trivial⟩) h hB
 exact ⟨l,h1,h3⟩
theorem opn_il_v {base:Nat} {v:Value} {d:DataW H} {pl:List MemPlace} (hv:Value.okWide Tryz.prog W .any base 22 v) (h:DataW.Trod enc Tryz.prog W 0 (fun _=>true) true 22 v d pl) (hB:Rows.uptoBulk d≤1048576) :
  ∃ l:List Int,Rob (fun _=>False) W (ilAv l) [v]∧l.length≤1048576:=by
 obtain ⟨a0,len,cap,rfl⟩:=okWide_slice Tryz.underlying22 hv
 obtain ⟨fuel,hf⟩:=h
 obtain ⟨x,h1,h3⟩:=opn_il (B:=1048576) (v:=.slice a0 len cap) (by simpa [Value.cells] using hf) hB
 refine ⟨x,fun w' hg=>?_,Nat.le_trans h3 hB⟩
 obtain ⟨u,z,e,hu,hz⟩:=h1.r w' hg
 cases hz
 rw [List.append_nil] at e
 rw [e];exact hu
structure SolD where
 s:Int
 v:Rat
 x:List Rat
 y:List Rat
 r:List Rat
 b:List Int
 c:List Int
def SolD.av (d:SolD) (K:Nat):Av:=solC d.s d.v d.x d.y d.r d.b d.c K
end
end Go.Proofs.YtfgkecffpkdjcaaGreat
