/- slices.Clone and slices.Insert at this program. -/
import Derived.Test.YtdpfgjljehajbaaGreatDoorE7
import Derived.Test.YtdpfgjljehajbaaGreatDoorProg
import Derived.KernelRfl
import Derived.Shelf.SlicesE.Clone
import Derived.Test.YtdpfgjljehajbaaGreatDoorE9
set_option linter.unusedVariables false
set_option linter.unusedSimpArgs false
namespace Go.Proofs
open Go.Shelf Go.RowKit Go.Lib

theorem Tryz.cinfo58:∃ i0,Tryz.prog.info? 58=some i0∧i0.zero=some (.agg #[.int .i64 0,.int .i64 0])∧i0.size=2∧i0.bytes=16:=by
 have h:(Tryz.prog.info? 58).map (fun i=>(i.zero,i.size,i.bytes))=some (some (.agg #[.int .i64 0,.int .i64 0]),2,16):=by kernel_rfl
 obtain ⟨i0,h1,h2⟩:=Option.map_eq_some_iff.1 h
 simp only[Prod.mk.injEq]at h2
 exact ⟨i0,h1,h2.1,h2.2.1,h2.2.2⟩
set_option maxHeartbeats 2000000 in
set_option maxRecDepth 100000 in
theorem Tryz.clone108 (ad:Addr)(n c:Nat)(news:List Value)(w:World)(hl:news.length=n*2)(hn:n≤maxLen)(hbig:n*16≤140737488355328)
  (hc:∀ j u,news[j]?=some u→w.cell? (ad.add j)=some u) (h1:∀ u∈news,u.oneCell'=true) :
  Calls Tryz.prog 108 #[.slice (some ad) n c] w fun e w'=>∃ v',e=.returned v'∧w'.ownsRow w.heap.size 58 2 v' n news∧Below w.heap.size w w':=by
 obtain ⟨i0,hi,hz0,hz1,hz2⟩:=Tryz.cinfo58
 have mixed:Tryz.prog.follows .mixedOrders=true:=by kernel_rfl
 have q22:∀ (w:World) (a:Option Addr) (n c n' c':Nat),(binOp .eql 22 (.slice a n c) (.slice none n' c')).run Tryz.prog w=.ok (.bool a.isNone) w:=fun w a n c n' c'=>Lib.run_eql_slice_nil w _ _ a n c n' c' Tryz.underlying22
 have A:Aside (∀ j u,news[j]?=some u→w.cell? (ad.add j)=some u):=hc
 clear hc
 go_enter Tryz.func108,Tryz.ntmps108
 go_wp2_with (at_builtin;refine wpList_append_own _ rfl _ _ 22 rfl w.heap.size 58 i0 _ 2 16 Tryz.underlying22 hi hz0 hz1 hz2 (by rfl) (by decide) _ _ _ rfl (World.ownsRow_made w #[] 0 (Nat.le_refl _) (Nat.zero_le _) (by simp)) ad n c news rfl ?qc1 ?qc2 ?qc3 ?qc4 ?qc5 ?qc6 ?_)
 case qc1=>exact hl
 case qc2 =>
  intro j u hj
  skip
  exact Lib.cell?_alloc_some _ (A.out j u hj)
 case qc3=>exact h1
 case qc4=>rw[Nat.zero_add];exact hn
 case qc5=>rw[Nat.zero_add];exact hbig
 case qc6=>simp
 intro v' w1 hown hgrow hnil
 go_wp2
 go_ret
 refine ⟨v',rfl,by simpa using hown,?_⟩
 exact ((Below.refl _ w).alloc (Nat.le_refl _) _).grown hgrow (by simp) (by intro k hk;simp[Value.ownBlock]at hk;omega)
set_option maxHeartbeats 1000000 in
theorem Tryz.clonenil108 (n c:Nat)(w:World):Calls Tryz.prog 108 #[.slice none n c] w fun e w'=>e=.returned (.slice none 0 0)∧w'=w:=by
 have mixed:Tryz.prog.follows .mixedOrders=true:=by kernel_rfl
 have q22:∀ (w:World) (a:Option Addr) (n c n' c':Nat),(binOp .eql 22 (.slice a n c) (.slice none n' c')).run Tryz.prog w=.ok (.bool a.isNone) w:=fun w a n c n' c'=>Lib.run_eql_slice_nil w _ _ a n c n' c' Tryz.underlying22
 go_enter Tryz.func108,Tryz.ntmps108
 go_wp2
 go_ret
 exact ⟨rfl,rfl⟩

theorem Tryz.cinfo46:∃ i0,Tryz.prog.info? 46=some i0∧i0.zero=some (.agg #[.int .i64 0,.int .u8 0,.int .i64 0,.int .i64 0,.int .i64 0,.int .i64 0,.int .i64 0,.int .i64 0,.int .i64 0])∧i0.size=9∧i0.bytes=72:=by
 have h:(Tryz.prog.info? 46).map (fun i=>(i.zero,i.size,i.bytes))=some (some (.agg #[.int .i64 0,.int .u8 0,.int .i64 0,.int .i64 0,.int .i64 0,.int .i64 0,.int .i64 0,.int .i64 0,.int .i64 0]),9,72):=by kernel_rfl
 obtain ⟨i0,h1,h2⟩:=Option.map_eq_some_iff.1 h
 simp only[Prod.mk.injEq]at h2
 exact ⟨i0,h1,h2.1,h2.2.1,h2.2.2⟩
set_option maxHeartbeats 2000000 in
set_option maxRecDepth 100000 in
theorem Tryz.clone109 (ad:Addr)(n c:Nat)(news:List Value)(w:World)(hl:news.length=n*9)(hn:n≤maxLen)(hbig:n*72≤140737488355328)
  (hc:∀ j u,news[j]?=some u→w.cell? (ad.add j)=some u) (h1:∀ u∈news,u.oneCell'=true) :
  Calls Tryz.prog 109 #[.slice (some ad) n c] w fun e w'=>∃ v',e=.returned v'∧w'.ownsRow w.heap.size 46 9 v' n news∧Below w.heap.size w w':=by
 obtain ⟨i0,hi,hz0,hz1,hz2⟩:=Tryz.cinfo46
 have mixed:Tryz.prog.follows .mixedOrders=true:=by kernel_rfl
 have q22:∀ (w:World) (a:Option Addr) (n c n' c':Nat),(binOp .eql 23 (.slice a n c) (.slice none n' c')).run Tryz.prog w=.ok (.bool a.isNone) w:=fun w a n c n' c'=>Lib.run_eql_slice_nil w _ _ a n c n' c' Tryz.underlying23
 have A:Aside (∀ j u,news[j]?=some u→w.cell? (ad.add j)=some u):=hc
 clear hc
 go_enter Tryz.func109,Tryz.ntmps109
 go_wp2_with (at_builtin;refine wpList_append_own _ rfl _ _ 23 rfl w.heap.size 46 i0 _ 9 72 Tryz.underlying23 hi hz0 hz1 hz2 (by rfl) (by decide) _ _ _ rfl (World.ownsRow_made w #[] 0 (Nat.le_refl _) (Nat.zero_le _) (by simp)) ad n c news rfl ?qc1 ?qc2 ?qc3 ?qc4 ?qc5 ?qc6 ?_)
 case qc1=>exact hl
 case qc2 =>
  intro j u hj
  skip
  exact Lib.cell?_alloc_some _ (A.out j u hj)
 case qc3=>exact h1
 case qc4=>rw[Nat.zero_add];exact hn
 case qc5=>rw[Nat.zero_add];exact hbig
 case qc6=>simp
 intro v' w1 hown hgrow hnil
 go_wp2
 go_ret
 refine ⟨v',rfl,by simpa using hown,?_⟩
 exact ((Below.refl _ w).alloc (Nat.le_refl _) _).grown hgrow (by simp) (by intro k hk;simp[Value.ownBlock]at hk;omega)
set_option maxHeartbeats 1000000 in
theorem Tryz.clonenil109 (n c:Nat)(w:World):Calls Tryz.prog 109 #[.slice none n c] w fun e w'=>e=.returned (.slice none 0 0)∧w'=w:=by
 have mixed:Tryz.prog.follows .mixedOrders=true:=by kernel_rfl
 have q22:∀ (w:World) (a:Option Addr) (n c n' c':Nat),(binOp .eql 23 (.slice a n c) (.slice none n' c')).run Tryz.prog w=.ok (.bool a.isNone) w:=fun w a n c n' c'=>Lib.run_eql_slice_nil w _ _ a n c n' c' Tryz.underlying23
 go_enter Tryz.func109,Tryz.ntmps109
 go_wp2
 go_ret
 exact ⟨rfl,rfl⟩
end Go.Proofs
namespace Go.Proofs
open Go.Shelf Go.RowKit Go.Lib

theorem Tryz.sz58:(Tryz.prog.info? 58).map (·.size)=some 2:=by kernel_rfl
theorem Tryz.so58 (w:World):(Go.sizeOf 58).run Tryz.prog w=.ok 2 w:=Tryz.sizeOf58 w

set_option maxHeartbeats 4000000 in
set_option maxRecDepth 100000 in
theorem Tryz.ins_shift (b off n c i vb voff vc:Nat)(cs vs:List Value)(w:World)(hi:i < n)(hroom:n+1≤c)(hc63:c≤9223372036854775807)(hvb:vb≠b)
  (hcl:cs.length=n*2) (hvl:vs.length=2)
  (hcs:∀ j v,cs[j]?=some v→w.cell? ⟨b,off+j,none⟩=some v) (hsp:∀ j,j < (n+1)*2→(w.cell? ⟨b,off+j,none⟩).isSome=true)
  (hvs:∀ j v,vs[j]?=some v→w.cell? ⟨vb,voff+j,none⟩=some v) (h1c:∀ v∈cs,v.oneCell'=true) (h1v:∀ v∈vs,v.oneCell'=true)
  (tA tB:TypeId) (kA kB:Nat) (hsa:w.shape? vb=some (tA,kA)) (hsb:w.shape? b=some (tB,kB)) (hkA:kA≠0) (hfb:∀ o,w.frozen? ⟨b,o,none⟩=false) :
  Calls Tryz.prog 160 #[.slice (some ⟨b,off,none⟩) n c,.int .i64 i,.slice (some ⟨vb,voff,none⟩) 1 vc] w fun e w' =>
   e=.returned (.slice (some ⟨b,off,none⟩) (n+1) c)∧w'=(w.drew.setCells b (off+(i+1)*2) (cs.drop (i*2))).setCells b (off+i*2) vs:=by
 have hz2:¬ ((i:Int)=(n:Int)):=by omega
 have hov:∀ lb cb,(callFunc 202 #[.slice (some ⟨vb,voff,none⟩) 1 vc,.slice (some ⟨b,off+(i+1)*2,none⟩) lb cb]).run Tryz.prog w=.ok (.value (.bool false)) w:=fun lb cb=>by
  rw[run_callFunc_extern Tryz.func202 (by kernel_rfl) (by kernel_rfl) (by kernel_rfl) (e:=Extern.SlicesOverlaps.overlaps #[22,22] #[4]) (by kernel_rfl),
   y4j w 22 4 58 Tryz.underlying22 2 Tryz.so58 ⟨vb,voff,none⟩ ⟨b,off+(i+1)*2,none⟩ 1 vc lb cb hvb tA tB kA kB hsa hsb hkA (hfb _) (hfb _)]
  rfl
 have hdl:(cs.drop (i*2)).length=(n-i)*2:=by rw[List.length_drop,hcl];omega
 have hw1:IntKind.i64.wrap ((i:Int)+1)=(i:Int)+1:=by rw[IntKind.wrap_i64];omega
 have hw2:IntKind.i64.wrap ((n:Int)+1)=(n:Int)+1:=by rw[IntKind.wrap_i64];omega
 have hcp1:∀ ty dc sc,(Builtin.copy_ #[22,22] ty #[.slice (some ⟨b,off+(i+1)*2,none⟩) (n-i) dc,.slice (some ⟨b,off+i*2,none⟩) (n+1-i) sc]).run Tryz.prog w.drew=.ok (goInt ((n-i:Nat):Int)) (w.drew.setCells b (off+(i+1)*2) (cs.drop (i*2))):=fun ty dc sc=>by
  have:=z5h (P:=Tryz.prog) w.drew 22 22 ty 58 b (off+(i+1)*2) (n-i) dc ⟨b,off+i*2,none⟩ (n+1-i) sc 2 (cs.drop (i*2)) Tryz.underlying22 Tryz.sz58 (by rw[hdl];congr 1;simp only[Nat.min_def];split<;>omega)
   (fun j v hj=>by rw[Addr.add_lit,Nat.add_assoc];exact hcs (i*2+j) v (by rwa[List.getElem?_drop]at hj))
   (fun j hj=>by rw[Nat.add_assoc];exact hsp _ (by omega)) (fun j hj=>by rw[Nat.add_assoc];exact hfb _) (fun v hv=>h1c v (List.mem_of_mem_drop hv))
  rw[this,show Nat.min (n+1-i) (n-i)=n-i by simp only[Nat.min_def];split<;>omega]
 obtain ⟨W1,hW1⟩:∃ W1,W1=w.drew.setCells b (off+(i+1)*2) (cs.drop (i*2)):=⟨_,rfl⟩
 have hsp1:∀ k,k < (n+1)*2→(W1.cell? ⟨b,off+k,none⟩).isSome=true:=fun k hk=>by
  rw[hW1]
  exact isSome_setCells b _ _ _ (fun j hj=>by rw[Nat.add_assoc];exact hsp _ (by omega)) _ (hsp k hk)
 have hcp2:∀ (W:World),(∀ x,W.cell? x=W1.cell? x)→(∀ x,W.frozen? x=W1.frozen? x)→∀ ty dc,(Builtin.copy_ #[22,22] ty #[.slice (some ⟨b,off+i*2,none⟩) (n+1-i) dc,.slice (some ⟨vb,voff,none⟩) 1 vc]).run Tryz.prog W=.ok (goInt ((1:Nat):Int)) (W.setCells b (off+i*2) vs):=fun W hWc hWf ty dc=>by
  have:=z5h (P:=Tryz.prog) W 22 22 ty 58 b (off+i*2) (n+1-i) dc ⟨vb,voff,none⟩ 1 vc 2 vs Tryz.underlying22 Tryz.sz58 (by rw[hvl];simp only[Nat.min_def];split<;>omega)
   (fun j v hj=>by
    rw[Addr.add_lit,hWc,hW1,World.cell?_setCells_out b _ _ _ _ (fun h _=>absurd h hvb)]
    exact hvs j v hj)
   (fun j hj=>by rw[hWc,Nat.add_assoc];exact hsp1 _ (by omega)) (fun j hj=>by rw[hWf,hW1,World.frozen?_setCells,Nat.add_assoc];exact hfb _) h1v
  rw[this,show Nat.min 1 (n+1-i)=1 by simp only[Nat.min_def];split<;>omega]
 rw[← hW1]at hcp1
 have hin:i≤n:=by omega
 have hb2:¬ (c=i+1):=by omega
 have hb3:(i:Int)≤(n:Int)+1:=by omega
 have hb4:¬ (c=i):=by omega
 have mixed:Tryz.prog.follows .mixedOrders=true:=by kernel_rfl
 have hb6:(0:Int)≤(i:Int)+1:=by omega
 have htn:((i:Int)+1).toNat=i+1:=by omega
 have hb5:¬ ((c:Int) < (n:Int)+1):=by omega
 go_enter Tryz.func160,Tryz.ntmps160
 go_wp2_with (simp only[hov])
 go_region_law_o (refine step_copy_runI rfl _ _ 22 22 rfl _ _ (by simp[Act.eval,Act.put]) (by simp[Act.eval,Act.put]) (hcp1 _ _ _) ?_)
 go_wp2_with (at_builtin;refine wpList_copy_runI _ rfl _ _ 22 22 rfl _ _ rfl rfl (hcp2 _ (fun _=>rfl) (fun _=>rfl) _ _) ?_)
 go_ret
 first | exact ⟨rfl,rfl⟩ | exact ⟨rfl,by rw[hW1]⟩

theorem Tryz.info58:∃ i0,Tryz.prog.info? 58=some i0∧i0.zero=some (.agg #[.int .i64 0,.int .i64 0])∧i0.size=2∧i0.bytes=16:=by
 have h:(Tryz.prog.info? 58).map (fun i=>(i.zero,i.size,i.bytes))=some (some (.agg #[.int .i64 0,.int .i64 0]),2,16):=by kernel_rfl
 obtain ⟨i0,h1,h2⟩:=Option.map_eq_some_iff.1 h
 simp only[Prod.mk.injEq]at h2
 exact ⟨i0,h1,h2.1,h2.2.1,h2.2.2⟩

set_option maxHeartbeats 4000000 in
set_option maxRecDepth 100000 in
theorem Tryz.ins_grow (b off n i vb voff vc:Nat)(cs vs:List Value)(w:World)(hi:i < n)(hbig:(n+1)*16≤140737488355328)
  (hcl:cs.length=n*2) (hvl:vs.length=2)
  (hcs:∀ j v,cs[j]?=some v→w.cell? ⟨b,off+j,none⟩=some v)
  (hvs:∀ j v,vs[j]?=some v→w.cell? ⟨vb,voff+j,none⟩=some v) (h1c:∀ v∈cs,v.oneCell'=true) (h1v:∀ v∈vs,v.oneCell'=true) :
  Calls Tryz.prog 160 #[.slice (some ⟨b,off,none⟩) n n,.int .i64 i,.slice (some ⟨vb,voff,none⟩) 1 vc] w fun e w' =>
   e=.returned (.slice (some ⟨w.heap.size,0,none⟩) (n+1) (grownCap w (n+1) n 58)) ∧
   w'=(((w.alloc (.cells ((cs.take (i*2)).toArray++Builtin.zeroCells (Value.agg #[.int .i64 0,.int .i64 0]).cells (n+1-i)++Builtin.zeroCells (Value.agg #[.int .i64 0,.int .i64 0]).cells (grownCap w (n+1) n 58-(n+1))) 58)).drew.setCells w.heap.size (i*2) vs).drew).setCells w.heap.size ((i+1)*2) (cs.drop (i*2)):=by
 obtain ⟨i0,hi0,hz0,hzs,hzb⟩:=Tryz.info58
 have mixed:Tryz.prog.follows .mixedOrders=true:=by kernel_rfl
 have hz2:¬ ((i:Int)=(n:Int)):=by omega
 have hz3:(n:Int) < (n:Int)+1:=by omega
 have hw1:IntKind.i64.wrap ((i:Int)+1)=(i:Int)+1:=by rw[IntKind.wrap_i64];omega
 have hw2:IntKind.i64.wrap ((n:Int)+1)=(n:Int)+1:=by rw[IntKind.wrap_i64];omega
 have hw3:IntKind.i64.wrap ((n:Int)+1-(i:Int))=((n+1-i:Nat):Int):=by rw[IntKind.wrap_i64];omega
 have hbw:b < w.heap.size:=block_lt_of_cell (hcs 0 _ (List.getElem?_eq_getElem (by omega)))
 have hvw:vb < w.heap.size:=block_lt_of_cell (hvs 0 _ (List.getElem?_eq_getElem (by omega)))
 have hik:i+(n+1-i)=n+1:=by omega
 have hold:(Builtin.firstCells i0.size i (.slice (some ⟨b,off,none⟩) i n)).run Tryz.prog w.drew=.ok (cs.take (i*2)).toArray w.drew:=by
  rw[hzs]
  exact run_firstCells_some w.drew 2 i ⟨b,off,none⟩ i n (cs.take (i*2)) (by rw[List.length_take];omega) (fun j v hj=>by
   rw[Addr.add_lit]
   rw[List.getElem?_take]at hj
   split at hj
   ·exact hcs j v hj
   ·cases hj)
 have hrz:∀ ty,(Builtin.append_ #[22,3] ty #[.slice (some ⟨b,off,none⟩) i n,.int .i64 ((n+1-i:Nat):Int)]).run Tryz.prog w =
   .ok (.slice (some ⟨w.heap.size,0,none⟩) (n+1) (grownCap w (n+1) n 58)) (w.drew.alloc (.cells ((cs.take (i*2)).toArray++Builtin.zeroCells (Value.agg #[.int .i64 0,.int .i64 0]).cells (n+1-i)++Builtin.zeroCells (Value.agg #[.int .i64 0,.int .i64 0]).cells (grownCap w (n+1) n 58-(n+1))) 58)):=fun ty=>by
  have h:=Lib.run_append_grow_zeros w 22 3 ty 58 i0 _ .i64 .i64 Tryz.underlying22 Tryz.underlying3 hi0 hz0 (some ⟨b,off,none⟩) i n (cs.take (i*2)) hold (n+1-i) (by omega) (by omega) (by omega) (by omega) (by rw[hzb];omega) (by rw[hzb,hik];exact growslice_fits (by omega) hbig)
  rw[hik]at h
  exact h
 obtain ⟨G,hG⟩:∃ G,G=grownCap w (n+1) n 58:=⟨_,rfl⟩
 obtain ⟨ROW,hROW⟩:∃ ROW:Array Value,ROW=(cs.take (i*2)).toArray++Builtin.zeroCells (Value.agg #[.int .i64 0,.int .i64 0]).cells (n+1-i)++Builtin.zeroCells (Value.agg #[.int .i64 0,.int .i64 0]).cells (G-(n+1)):=⟨_,rfl⟩
 rw[← hG]at hrz ⊢
 rw[← hROW]at hrz ⊢
 have hRl:(n+1)*2≤ROW.size:=by
  rw[hROW]
  simp[size_zeroCells,Value.cells]
  omega
 obtain ⟨W1,hW1⟩:∃ W1,W1=w.drew.alloc (.cells ROW 58):=⟨_,rfl⟩
 rw[← hW1]at hrz
 have hN:∀ j,j < (n+1)*2→(W1.cell? ⟨w.heap.size,j,none⟩).isSome=true:=fun j hj=>by
  rw[hW1,World.cell?_alloc_at (w:=w.drew) ROW _ w.heap.size j rfl,Array.getElem?_eq_getElem (by omega)];rfl
 have hNf:∀ j,W1.frozen? ⟨w.heap.size,j,none⟩=false:=fun j=>by rw[hW1];exact World.frozen?_alloc_at (w:=w.drew) ROW _ w.heap.size j rfl
 have hOb:∀ j v,w.cell? ⟨b,j,none⟩=some v→W1.cell? ⟨b,j,none⟩=some v:=fun j v h=>by rw[hW1,World.cell?_alloc_past (w:=w.drew) _ b j hbw];exact h
 have hOv:∀ j v,w.cell? ⟨vb,j,none⟩=some v→W1.cell? ⟨vb,j,none⟩=some v:=fun j v h=>by rw[hW1,World.cell?_alloc_past (w:=w.drew) _ vb j hvw];exact h
 have hcpA:∀ (W:World),(∀ x,W.cell? x=W1.cell? x)→(∀ x,W.frozen? x=W1.frozen? x)→∀ ty dc,(Builtin.copy_ #[22,22] ty #[.slice (some ⟨w.heap.size,i*2,none⟩) (n+1-i) dc,.slice (some ⟨vb,voff,none⟩) 1 vc]).run Tryz.prog W=.ok (goInt ((1:Nat):Int)) (W.setCells w.heap.size (i*2) vs):=fun W hWc hWf ty dc=>by
  have:=z5h (P:=Tryz.prog) W 22 22 ty 58 w.heap.size (i*2) (n+1-i) dc ⟨vb,voff,none⟩ 1 vc 2 vs Tryz.underlying22 Tryz.sz58 (by rw[hvl];simp only[Nat.min_def];split<;>omega)
   (fun j v hj=>by rw[Addr.add_lit,hWc];exact hOv _ v (hvs j v hj))
   (fun j hj=>by rw[hWc];exact hN _ (by omega)) (fun j hj=>by rw[hWf];exact hNf _) h1v
  rw[this,show Nat.min 1 (n+1-i)=1 by simp only[Nat.min_def];split<;>omega]
 have hGn:n+1≤G:=by rw[hG];exact grownCap_ge w _ _ _
 have hG63:G≤9223372036854775807:=by
  have:=grownCap_le_maxLen w (n+1) n 58 (by unfold maxLen;omega)
  rw[← hG]at this
  unfold maxLen at this
  omega
 have hGi:¬ (G=i):=by omega
 have hGim:¬ (G=i+1):=by omega
 have hci:¬ (n=i):=by omega
 have hbN:b≠w.heap.size:=by omega
 have hdl:(cs.drop (i*2)).length=(n-i)*2:=by rw[List.length_drop,hcl];omega
 have hcpB:∀ (W:World),(∀ x,W.cell? x=(W1.setCells w.heap.size (i*2) vs).cell? x)→(∀ x,W.frozen? x=(W1.setCells w.heap.size (i*2) vs).frozen? x)→∀ ty dc sc,(Builtin.copy_ #[22,22] ty #[.slice (some ⟨w.heap.size,(i+1)*2,none⟩) (n-i) dc,.slice (some ⟨b,off+i*2,none⟩) (n-i) sc]).run Tryz.prog W=.ok (goInt ((n-i:Nat):Int)) (W.setCells w.heap.size ((i+1)*2) (cs.drop (i*2))):=fun W hWc hWf ty dc sc=>by
  have:=z5h (P:=Tryz.prog) W 22 22 ty 58 w.heap.size ((i+1)*2) (n-i) dc ⟨b,off+i*2,none⟩ (n-i) sc 2 (cs.drop (i*2)) Tryz.underlying22 Tryz.sz58 (by rw[hdl];congr 1;simp only[Nat.min_def];split<;>omega)
   (fun j v hj=>by
    rw[Addr.add_lit,hWc,World.cell?_setCells_out _ _ _ _ _ (fun h _=>absurd h hbN),Nat.add_assoc]
    exact hOb _ v (hcs (i*2+j) v (by rwa[List.getElem?_drop]at hj)))
   (fun j hj=>by rw[hWc];exact isSome_setCells _ _ _ _ (fun t ht=>hN _ (by omega)) _ (hN _ (by omega)))
   (fun j hj=>by rw[hWf,World.frozen?_setCells];exact hNf _) (fun v hv=>h1c v (List.mem_of_mem_drop hv))
  rw[this,show Nat.min (n-i) (n-i)=n-i by simp only[Nat.min_def];split<;>omega]
 subst hW1
 have hE1:∀ x,((w.alloc (.cells ROW 58)).drew).cell? x=(w.drew.alloc (.cells ROW 58)).cell? x:=fun x=>rfl
 have hE2:∀ x,((w.alloc (.cells ROW 58)).drew).frozen? x=(w.drew.alloc (.cells ROW 58)).frozen? x:=fun x=>rfl
 have hF1:∀ x,(((w.alloc (.cells ROW 58)).drew.setCells w.heap.size (i*2) vs).drew).cell? x=((w.drew.alloc (.cells ROW 58)).setCells w.heap.size (i*2) vs).cell? x:=fun x=>rfl
 have hF2:∀ x,(((w.alloc (.cells ROW 58)).drew.setCells w.heap.size (i*2) vs).drew).frozen? x=((w.drew.alloc (.cells ROW 58)).setCells w.heap.size (i*2) vs).frozen? x:=fun x=>rfl
 have hb1:(0:Int)≤(i:Int)+1:=by omega
 have hin:i≤n:=by omega
 have htn:((i:Int)+1).toNat=i+1:=by omega
 have hb3:(i:Int)≤(n:Int):=by omega
 clear hik hold hROW hG hRl
 go_enter Tryz.func160,Tryz.ntmps160
 go_wp2_with (first
  | (at_builtin;refine Lib.wpList_append_run _ rfl _ _ _ _ rfl _ _ rfl rfl _ _ (hrz _) ?_)
  | (at_builtin;refine wpList_copy_runI _ rfl _ _ 22 22 rfl _ _ rfl rfl (hcpA _ hE1 hE2 _ _) ?_))
 go_region_law_o (refine step_copy_runI rfl _ _ 22 22 rfl (.slice (some ⟨w.heap.size,(i+1)*2,none⟩) (n-i) (G-(i+1))) (.slice (some ⟨b,off+i*2,none⟩) (n-i) (n-i)) (by simp[Act.eval,Act.put]) (by simp[Act.eval,Act.put]) (hcpB _ hF1 hF2 3 (G-(i+1)) (n-i)) ?_)
 go_wp2
 go_ret
 exact ⟨rfl,rfl⟩

set_option maxHeartbeats 4000000 in
set_option maxRecDepth 100000 in
theorem Tryz.ins_end_room (b off n c vb voff vc:Nat)(vs:List Value)(w:World)(hroom:n+1≤c)(hc63:c≤9223372036854775807)
  (hvl:vs.length=2) (hsp:∀ j,j < 2→(w.cell? ⟨b,off+n*2+j,none⟩).isSome=true) (hfz:∀ j,j < 2→w.frozen? ⟨b,off+n*2+j,none⟩=false)
  (hvs:∀ j v,vs[j]?=some v→w.cell? ⟨vb,voff+j,none⟩=some v) (h1v:∀ v∈vs,v.oneCell'=true) :
  Calls Tryz.prog 160 #[.slice (some ⟨b,off,none⟩) n c,.int .i64 n,.slice (some ⟨vb,voff,none⟩) 1 vc] w fun e w' =>
   e=.returned (.slice (some ⟨b,off,none⟩) (n+1) c)∧w'=w.setCells b (off+n*2) vs:=by
 obtain ⟨i0,hi0,hz0,hzs,hzb⟩:=Tryz.info58
 have mixed:Tryz.prog.follows .mixedOrders=true:=by kernel_rfl
 have hsrc:Src Tryz.prog i0.size 22 (.slice (some ⟨vb,voff,none⟩) 1 vc) 1 vs w:=by
  rw[hzs]
  exact Src.ofSlice w Tryz.underlying22 ⟨vb,voff,none⟩ 1 vc vs (by omega) (fun j u hj=>by rw[Addr.add_lit];exact hvs j u hj) h1v
 have hrun:∀ ty,(Builtin.append_ #[22,22] ty #[.slice (some ⟨b,off,none⟩) n c,.slice (some ⟨vb,voff,none⟩) 1 vc]).run Tryz.prog w=.ok (.slice (some ⟨b,off,none⟩) (n+1) c) (w.setCells b (off+n*2) vs):=fun ty=>by
  have:=run_append_room_src (P:=Tryz.prog) (w:=w) 22 22 ty 58 i0 Tryz.underlying22 hi0 b off n c _ 1 vs hsrc hroom (by rw[hzs,hvl];exact hsp) (by rw[hzs,hvl];exact hfz)
  rw[hzs]at this
  exact this
 go_enter Tryz.func160,Tryz.ntmps160
 go_wp2_with (at_builtin;refine Lib.wpList_append_run _ rfl _ _ _ _ rfl _ _ rfl rfl _ _ (hrun _) ?_)
 go_ret
 exact ⟨rfl,rfl⟩

set_option maxHeartbeats 4000000 in
set_option maxRecDepth 100000 in
theorem Tryz.ins_end_grow (base:Option Addr)(n c vb voff vc:Nat)(cs vs:List Value)(w:World)(hnc:n≤c)(hroom:c < n+1)(hbig:(n+1)*16≤140737488355328)
  (hcl:cs.length=n*2) (hvl:vs.length=2) (hnil:base=none→n=0) (hc63:c≤9223372036854775807)
  (hcs:∀ a,base=some a→a.spot=none∧∀ j v,cs[j]?=some v→w.cell? (a.add j)=some v)
  (hvs:∀ j v,vs[j]?=some v→w.cell? ⟨vb,voff+j,none⟩=some v) (h1v:∀ v∈vs,v.oneCell'=true) :
  Calls Tryz.prog 160 #[.slice base n c,.int .i64 n,.slice (some ⟨vb,voff,none⟩) 1 vc] w fun e w' =>
   e=.returned (.slice (some ⟨w.heap.size,0,none⟩) (n+1) (grownCap w (n+1) c 58)) ∧
   w'=w.drew.alloc (.cells ((cs++vs).toArray++Builtin.zeroCells (Value.agg #[.int .i64 0,.int .i64 0]).cells (grownCap w (n+1) c 58-(n+1))) 58):=by
 obtain ⟨i0,hi0,hz0,hzs,hzb⟩:=Tryz.info58
 have mixed:Tryz.prog.follows .mixedOrders=true:=by kernel_rfl
 have hsrc:Src Tryz.prog i0.size 22 (.slice (some ⟨vb,voff,none⟩) 1 vc) 1 vs w:=by
  rw[hzs]
  exact Src.ofSlice w Tryz.underlying22 ⟨vb,voff,none⟩ 1 vc vs (by omega) (fun j u hj=>by rw[Addr.add_lit];exact hvs j u hj) h1v
 have hold:(Builtin.firstCells i0.size n (.slice base n c)).run Tryz.prog w.drew=.ok cs.toArray w.drew:=by
  rw[hzs]
  cases base with
  | none =>
   have h0:=hnil rfl
   subst h0
   rw[List.length_eq_zero_iff.1 hcl]
   exact run_firstCells_none w.drew 2 0 0 c
  | some a=>exact run_firstCells_some w.drew 2 n a n c cs hcl (fun j v hj=>(hcs a rfl).2 j v hj)
 have hrun:∀ ty,(Builtin.append_ #[22,22] ty #[.slice base n c,.slice (some ⟨vb,voff,none⟩) 1 vc]).run Tryz.prog w=_:=fun ty =>
  run_append_grow_src w 22 22 ty 58 i0 _ Tryz.underlying22 hi0 hz0 base n c cs hold _ 1 vs hsrc hroom (by omega) (by rw[hzb];exact growslice_fits hroom hbig)
 cases base with
 | none =>
  have h0:=hnil rfl
  subst h0
  go_enter Tryz.func160,Tryz.ntmps160
  go_wp2_with (at_builtin;refine Lib.wpList_append_run _ rfl _ _ _ _ rfl _ _ rfl rfl _ _ (hrun _) ?_)
  go_ret
  exact ⟨rfl,rfl⟩
 | some a =>
  obtain ⟨ab,ao,asp⟩:=a
  have h1:=(hcs _ rfl).1
  simp only at h1
  subst h1
  go_enter Tryz.func160,Tryz.ntmps160
  go_wp2_with (at_builtin;refine Lib.wpList_append_run _ rfl _ _ _ _ rfl _ _ rfl rfl _ _ (hrun _) ?_)
  all_goals (go_ret;exact ⟨rfl,rfl⟩)
end Go.Proofs
namespace Go.Proofs
open Go.Ev Go.Shelf Go.RowKit Go.Lib
theorem y1x (b:Nat):∀ (vs:List Value) (o:Nat) (w:World) (k:Nat),k≠b→(w.setCells b o vs).heap[k]?=w.heap[k]?
 | [],_,_,_,_=>rfl
 | v::r,o,w,k,hk=>by
  rw[World.setCells,y1x b r (o+1) _ k hk]
  simp[World.setCell,Array.getElem?_modify,Ne.symm hk]
theorem setCells_size (b:Nat):∀ (vs:List Value) (o:Nat) (w:World),(w.setCells b o vs).heap.size=w.heap.size
 | [],_,_=>rfl
 | v::r,o,w=>by
  rw[World.setCells,setCells_size b r (o+1) _]
  simp[World.setCell]
theorem z6c (b:Nat):∀ (vs:List Value) (o:Nat) (w:World),(w.setCells b o vs).os=w.os∧(w.setCells b o vs).tape=w.tape∧(w.setCells b o vs).output=w.output
 | [],_,_=>⟨rfl,rfl,rfl⟩
 | v::r,o,w=>by
  rw[World.setCells]
  exact z6c b r (o+1) _
theorem _root_.Go.Ev.ButB.cells {w0 w:World}{ob:Option Nat}{b:Nat}(h:ButB ob w0 w)(hb:ob=some b∨w0.heap.size≤b)(o:Nat)(vs:List Value):ButB ob w0 (w.setCells b o vs) where
 os:=(z6c b vs o w).1.trans h.os
 tape:=(z6c b vs o w).2.1.trans h.tape
 output:=(z6c b vs o w).2.2.trans h.output
 size:=by rw[setCells_size];exact h.size
 block:=fun k hk hne=>by
  have:k≠b:=by
   rcases hb with e | e
   ·intro q;exact hne (q ▸ e)
   ·omega
  rw[y1x _ _ _ _ _ this];exact h.block k hk hne
theorem _root_.Go.Ev.ButB.drew {w0 w:World}{ob:Option Nat}(h:ButB ob w0 w):ButB ob w0 w.drew:=⟨h.os,h.tape,h.output,h.size,h.block⟩
theorem _root_.Go.Ev.ButB.rfl' {w:World}{ob:Option Nat}:ButB ob w w:=⟨rfl,rfl,rfl,Nat.le_refl _,fun _ _ _=>rfl⟩
theorem _root_.Go.Ev.ButB.alloc {w0 w:World}{ob:Option Nat}(h:ButB ob w0 w)(o:Obj):ButB ob w0 (w.alloc o) :=
 ⟨h.os,h.tape,h.output,by have:=h.size;simp;omega,fun k hk hne=>by
  rw[← h.block k hk hne]
  exact Lib.alloc_old w o k (Nat.lt_of_lt_of_le hk h.size)⟩
theorem cells_of_block {w:World}{b:Nat}{cur:Array Value}{e:TypeId}{m:Nat}{cs:List Value}(hb:w.heap[b]?=some (.cells cur e (0,0)))(hm:cur.toList.take m=cs)(o:Nat):∀ j v,cs[j]?=some v→w.cell? ⟨b,j,none⟩=some v:=fun j v hj=>by
 rw[← hm,List.getElem?_take]at hj
 split at hj
 ·simp[World.cell?,hb];simpa using hj
 ·cases hj
theorem Tryz.insSpec:y6u Tryz.prog 160 58 2 16:=by
 intro w n c i ob cs vs vb voff vc hn hs hnc hc hi hbig hcl hvl hvs h1c h1v
 have hvlt:vb < w.heap.size:=block_lt_of_cell (hvs 0 _ (List.getElem?_eq_getElem (by omega)))
 have hkA:∃ tA kA,w.shape? vb=some (tA,kA)∧kA≠0:=by
  have h0:=hvs 0 _ (List.getElem?_eq_getElem (by omega))
  unfold World.cell? at h0
  simp only at h0
  split at h0<;>try cases h0
  rename_i cur t fz hb
  refine ⟨t,cur.size,z52 hb,fun e=>?_⟩
  rw[Array.getElem?_eq_none (by omega)]at h0
  cases h0
 obtain ⟨tA,kA,hsa,hkA⟩:=hkA
 rcases Nat.lt_or_ge i n with hlt | hge
 ·-- in the middle
  cases ob with
  | none=>have:=(hn rfl).1;omega
  | some b =>
   obtain ⟨hvb,cur,hb,hcur,htake⟩:=hs b rfl
   have hcells:=cells_of_block hb htake 0
   have hcz:∀ j v,cs[j]?=some v→w.cell? ⟨b,0+j,none⟩=some v:=fun j v h=>by rw[Nat.zero_add];exact hcells j v h
   rcases Nat.lt_or_ge n c with hroom | hfull
   ·have hsp:∀ j,j < (n+1)*2→(w.cell? ⟨b,0+j,none⟩).isSome=true:=fun j hj=>by
     have:j < cur.size:=by omega
     simp[World.cell?,hb,this]
    have hfb:∀ o,w.frozen? ⟨b,o,none⟩=false:=fun o=>Lib.frozen_of_heap hb o
    refine (Tryz.ins_shift b 0 n c i vb voff vc cs vs w hlt hroom (by unfold maxLen at hc;omega) hvb hcl hvl hcz hsp hvs h1c h1v tA 58 kA cur.size hsa (z52 hb) hkA hfb).mono ?_
    rintro e' w' ⟨rfl,rfl⟩
    have hd1:(cs.drop (i*2)).length=(n-i)*2:=by rw[List.length_drop,hcl];omega
    refine ⟨b,c,rfl,hroom,fun j u hj=>?_,.inl rfl,?_,?_⟩
    ·simp only [Nat.zero_add] at *
     have hin2:∀ j,j < vs.length→((w.drew.setCells b ((i+1)*2) (cs.drop (i*2))).cell? ⟨b,i*2+j,none⟩).isSome=true:=fun j hj=>by
      exact isSome_setCells b (cs.drop (i*2)) ((i+1)*2) w.drew (fun q hq=>hsp ((i+1)*2+q) (by omega)) (i*2+j) (hsp (i*2+j) (by omega))
     rcases Nat.lt_or_ge j (i*2) with q | q
     ·rw[World.cell?_setCells_out b _ _ _ _ (fun _ _=>.inl q),World.cell?_setCells_out b _ _ _ _ (fun _ _=>.inl (by show j < (i+1)*2;omega))]
      rw[List.append_assoc,List.getElem?_append_left (by rw[List.length_take];omega),List.getElem?_take_of_lt q]at hj
      exact hcells j u hj
     ·rcases Nat.lt_or_ge j (i*2+2) with q2 | q2
      ·have hj2:j-i*2 < vs.length:=by omega
       have:=World.cell?_setCells_in b vs (i*2) (w.drew.setCells b ((i+1)*2) (cs.drop (i*2))) hin2 (j-i*2) hj2
       rw[show i*2+(j-i*2)=j by omega]at this
       rw[this]
       rw[List.append_assoc,List.getElem?_append_right (by rw[List.length_take];omega),List.getElem?_append_left (by rw[List.length_take];omega)]at hj
       have hmin:(cs.take (i*2)).length=i*2:=by rw[List.length_take];omega
       rw[hmin,List.getElem?_eq_getElem hj2]at hj
       exact hj
      ·rw[World.cell?_setCells_out b vs _ _ _ (fun _ _=>.inr (by show i*2+vs.length≤j;omega))]
       rw[List.getElem?_append_right (by simp;omega)]at hj
       have hmin:(cs.take (i*2)++vs).length=i*2+2:=by simp[hvl];omega
       rw[hmin]at hj
       have hlt3:=(List.getElem?_eq_some_iff.1 hj).1
       have:=World.cell?_setCells_in b (cs.drop (i*2)) ((i+1)*2) w.drew (fun q hq=>hsp _ (by omega)) (j-(i*2+2)) hlt3
       rw[show (i+1)*2+(j-(i*2+2))=j by omega]at this
       rw[this,← hj,List.getElem?_eq_getElem hlt3]
    ·rw[setCells_size,setCells_size];exact (Array.getElem?_eq_some_iff.1 hb).1
    ·exact ((ButB.rfl'.drew).cells (.inl rfl) _ _).cells (.inl rfl) _ _
   ·have:c=n:=by omega
    subst this
    refine (Tryz.ins_grow b 0 c i vb voff vc cs vs w hlt hbig hcl hvl hcz hvs h1c h1v).mono ?_
    rintro e' w' ⟨rfl,rfl⟩
    have hG:=grownCap_ge w (c+1) c 58
    generalize grownCap w (c+1) c 58=Gc at hG ⊢
    obtain ⟨ROW,hROW⟩:∃ ROW:Array Value,ROW=(cs.take (i*2)).toArray++Builtin.zeroCells (Value.agg #[.int .i64 0,.int .i64 0]).cells (c+1-i)++Builtin.zeroCells (Value.agg #[.int .i64 0,.int .i64 0]).cells (Gc-(c+1)):=⟨_,rfl⟩
    rw[← hROW]
    have hRl:(c+1)*2≤ROW.size:=by
     rw[hROW]
     simp[size_zeroCells,Value.cells]
     omega
    have hd1:(cs.drop (i*2)).length=(c-i)*2:=by rw[List.length_drop,hcl];omega
    have hW:∀ j,((w.alloc (.cells ROW 58)).drew).cell? ⟨w.heap.size,j,none⟩=ROW[j]?:=fun j=>World.cell?_alloc_at (w:=w) ROW _ w.heap.size j rfl
    have hsp:∀ j,j < (c+1)*2→(((w.alloc (.cells ROW 58)).drew).cell? ⟨w.heap.size,j,none⟩).isSome=true:=fun j hj=>by
     rw[hW,Array.getElem?_eq_getElem (by omega)];rfl
    refine ⟨w.heap.size,Gc,rfl,hG,fun j u hj=>?_,.inr (Nat.le_refl _),?_,?_⟩
    ·have hin2:∀ j,j < (cs.drop (i*2)).length→(((((w.alloc (.cells ROW 58)).drew).setCells w.heap.size (i*2) vs).drew).cell? ⟨w.heap.size,(i+1)*2+j,none⟩).isSome=true:=fun j hj=>by
      exact isSome_setCells w.heap.size vs (i*2) (w.alloc (.cells ROW 58)).drew (fun q hq=>hsp (i*2+q) (by omega)) ((i+1)*2+j) (hsp ((i+1)*2+j) (by omega))
     rcases Nat.lt_or_ge j (i*2) with q | q
     ·rw[World.cell?_setCells_out _ _ _ _ _ (fun _ _=>.inl (by show j < (i+1)*2;omega))]
      show (((w.alloc (.cells ROW 58)).drew).setCells w.heap.size (i*2) vs).cell? _=_
      rw[World.cell?_setCells_out _ _ _ _ _ (fun _ _=>.inl q),hW,hROW]
      rw[List.append_assoc,List.getElem?_append_left (by rw[List.length_take];omega)]at hj
      rw[Array.getElem?_append,if_pos (by simp;omega),Array.getElem?_append,if_pos (by simp;omega)]
      simpa using hj
     ·rcases Nat.lt_or_ge j (i*2+2) with q2 | q2
      ·rw[World.cell?_setCells_out _ _ _ _ _ (fun _ _=>.inl (by show j < (i+1)*2;omega))]
       show (((w.alloc (.cells ROW 58)).drew).setCells w.heap.size (i*2) vs).cell? _=_
       have hj2:j-i*2 < vs.length:=by omega
       have:=World.cell?_setCells_in w.heap.size vs (i*2) ((w.alloc (.cells ROW 58)).drew) (fun q hq=>hsp _ (by omega)) (j-i*2) hj2
       rw[show i*2+(j-i*2)=j by omega]at this
       rw[this]
       rw[List.append_assoc,List.getElem?_append_right (by rw[List.length_take];omega),List.getElem?_append_left (by rw[List.length_take];omega)]at hj
       have hmin:(cs.take (i*2)).length=i*2:=by rw[List.length_take];omega
       rw[hmin,List.getElem?_eq_getElem hj2]at hj
       exact hj
      ·rw[List.getElem?_append_right (by simp;omega)]at hj
       have hmin:(cs.take (i*2)++vs).length=i*2+2:=by simp[hvl];omega
       rw[hmin]at hj
       have hlt3:=(List.getElem?_eq_some_iff.1 hj).1
       have:=World.cell?_setCells_in w.heap.size (cs.drop (i*2)) ((i+1)*2) ((((w.alloc (.cells ROW 58)).drew).setCells w.heap.size (i*2) vs).drew) hin2 (j-(i*2+2)) hlt3
       rw[show (i+1)*2+(j-(i*2+2))=j by omega]at this
       rw[this,← hj,List.getElem?_eq_getElem hlt3]
    ·rw[setCells_size]
     show w.heap.size < (((w.alloc (.cells ROW 58)).drew).setCells w.heap.size (i*2) vs).heap.size
     rw[setCells_size]
     show w.heap.size < (w.alloc (.cells ROW 58)).heap.size
     simp
    ·exact ((((ButB.rfl'.alloc _).drew).cells (.inr (Nat.le_refl _)) _ _).drew).cells (.inr (Nat.le_refl _)) _ _
 ·-- at the end
  have:i=n:=by omega
  subst this
  have htk:cs.take (i*2)=cs:=List.take_of_length_le (by omega)
  have hdr:cs.drop (i*2)=[]:=List.drop_of_length_le (by omega)
  rw[htk,hdr,List.append_nil]
  rcases Nat.lt_or_ge i c with hroom | hfull
  ·cases ob with
   | none=>have:=(hn rfl).2;omega
   | some b =>
    obtain ⟨hvb,cur,hb,hcur,htake⟩:=hs b rfl
    have hcells:=cells_of_block hb htake 0
    have hsp:∀ j,j < 2→(w.cell? ⟨b,0+i*2+j,none⟩).isSome=true:=fun j hj=>by
     have:i*2+j < cur.size:=by omega
     simp[World.cell?,hb,this]
    refine (Tryz.ins_end_room b 0 i c vb voff vc vs w hroom (by unfold maxLen at hc;omega) hvl hsp (fun j _=>Lib.frozen_of_heap hb _) hvs h1v).mono ?_
    rintro e' w' ⟨rfl,rfl⟩
    refine ⟨b,c,rfl,hroom,fun j u hj=>?_,.inl rfl,?_,?_⟩
    ·simp only [Nat.zero_add] at *
     rcases Nat.lt_or_ge j (i*2) with q | q
     ·rw[World.cell?_setCells_out b _ _ _ _ (fun _ _=>.inl q)]
      rw[List.getElem?_append_left (by omega)]at hj
      exact hcells j u hj
     ·rw[List.getElem?_append_right (by omega),hcl]at hj
      have hlt3:=(List.getElem?_eq_some_iff.1 hj).1
      have:=World.cell?_setCells_in b vs (i*2) w (fun q hq=>hsp _ (by omega)) (j-i*2) hlt3
      rw[show i*2+(j-i*2)=j by omega]at this
      rw[this,← hj,List.getElem?_eq_getElem hlt3]
    ·rw[setCells_size];exact (Array.getElem?_eq_some_iff.1 hb).1
    ·exact ButB.rfl'.cells (.inl rfl) _ _
  ·have hb0:∀ a,(ob.map fun b=>(⟨b,0,none⟩:Addr))=some a→a.spot=none∧∀ j v,cs[j]?=some v→w.cell? (a.add j)=some v:=by
    intro a ha
    cases ob with
    | none=>cases ha
    | some b =>
     simp only[Option.map_some,Option.some.injEq]at ha
     subst ha
     obtain ⟨hvb,cur,hb,hcur,htake⟩:=hs b rfl
     exact ⟨rfl,fun j v hj=>by rw[Addr.add_lit,Nat.zero_add];exact cells_of_block hb htake 0 j v hj⟩
   refine (Tryz.ins_end_grow _ i c vb voff vc cs vs w hnc (by omega) hbig hcl hvl (fun h=>by
    cases ob with
    | none=>exact (hn rfl).1
    | some b=>cases h) (by unfold maxLen at hc;omega) hb0 hvs h1v).mono ?_
   rintro e' w' ⟨rfl,rfl⟩
   refine ⟨w.heap.size,_,rfl,grownCap_ge w _ _ _,fun j u hj=>?_,.inr (Nat.le_refl _),by simp,(ButB.rfl'.drew).alloc _⟩
   rw[World.cell?_alloc_at (w:=w.drew) _ _ w.heap.size j rfl]
   have hlt3:=(List.getElem?_eq_some_iff.1 hj).1
   rw[Array.getElem?_append,if_pos (by simpa using hlt3)]
   simpa using hj
end Go.Proofs
