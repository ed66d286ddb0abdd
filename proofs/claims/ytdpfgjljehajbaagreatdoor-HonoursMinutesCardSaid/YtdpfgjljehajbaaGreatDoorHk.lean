/- days, Write and entered, at any input. -/
import Derived.Test.YtdpfgjljehajbaaGreatDoorCx
set_option linter.unusedVariables false
set_option linter.unusedSimpArgs false
set_option maxRecDepth 100000
noncomputable section
namespace Go.Proofs
open Go.Ev Go.Shelf Go.RowKit Go.Maps Go.Sort
def x4v:Code:=(Tryz.f90.body).getD .skip
def a90:Code:=match x4v with | .seq a _=>a | _=>.skip
def ops90:Array Oper:=match x4v with | .seq _ (.seq (.region _ ops _) _)=>ops | _=>#[]
def r90:Code:=match x4v with | .seq _ (.seq _ r)=>r | _=>.skip
def z5e (j:Nat):Option AV:=if j=0∨j=2∨j=4∨j=9∨j=10∨j=11 then some .bad else none
theorem x7h:Tryz.f90.body=some (.seq a90 (.seq (.region 1 ops90 true) r90)):=by kernel_rfl
theorem w2d:Tryz.f90.ntmps=50:=by kernel_rfl
theorem y2a:ops90.size=12:=by kernel_rfl
theorem x2u:(opAt ops90 0).op=.makeMap 122 none:=by kernel_rfl
theorem x8h:(opAt ops90 2).op=.insert 122 (.tmp 12) (.tmp 13) (.const (.bool true)):=by kernel_rfl
theorem x8g:(opAt ops90 4).op=.insert 122 (.tmp 12) (.tmp 14) (.const (.bool true)):=by kernel_rfl
theorem x8f:(opAt ops90 9).op=.insert 122 (.tmp 12) (.tmp 18) (.const (.bool true)):=by kernel_rfl
theorem y97:(opAt ops90 10).op=.move (.tmp 12):=by kernel_rfl
theorem y96:(opAt ops90 11).op=.assign (.tmp 19):=by kernel_rfl
theorem y6o:(opAt ops90 0).dst=some 12∧(opAt ops90 2).dst=none∧(opAt ops90 4).dst=none∧(opAt ops90 9).dst=none∧(opAt ops90 10).dst=some 19∧(opAt ops90 11).dst=some 7:=⟨by kernel_rfl,by kernel_rfl,by kernel_rfl,by kernel_rfl,by kernel_rfl,by kernel_rfl⟩
theorem x4o:13∈(opAt ops90 2).looksAt ops90∧14∈(opAt ops90 4).looksAt ops90∧18∈(opAt ops90 9).looksAt ops90:=by
 refine ⟨?_,?_,?_⟩<;>exact List.contains_iff_mem.1 (by kernel_rfl)
theorem w0f:(List.range 12).all (fun j=>j == 0 || z0p ops90 0 j || !(j == 2 || j == 4 || j == 9 || j == 10 || j == 11))=true:=by kernel_rfl
theorem w1j:z0p ops90 10 11=true:=by kernel_rfl
theorem w2g:(List.range 12).all (fun j=>(z5e j).isSome || (match (opAt ops90 j).dst with | some d=>!(d == 12 || d == 19 || d == 7) | none=>true))=true:=by kernel_rfl
theorem w2h:(List.range 12).all (fun j=>!(z5e j).isSome || ((isApp (opAt ops90 j).op == false) && (opAt ops90 j).guard.isNone))=true:=by kernel_rfl
def w1n (x y z:Int)(E:Nat→Prop)(ks:List Int):Prop:=ks.Nodup∧(∀ k∈ks,k=x∨k=y∨k=z)∧(E 2→x∈ks)∧(E 4→y∈ks)∧(E 9→z∈ks)
def w1m (x y z:Int)(E:Nat→Prop)(w0:World)(G:Gh)(w:World)(a:Act):Prop :=
 E 0→∃ b ks,MapV ks w0 G w b∧a.tmps.getD 12 undef=.map (some b)∧(E 10→a.tmps.getD 19 undef=.map (some b))∧(E 11→a.tmps.getD 7 undef=.map (some b))∧w1n x y z E ks
theorem y2f {a:Act}{d t:Nat}{v:Value}(h:d≠t):(a.put (some d) v).tmps.getD t undef=a.tmps.getD t undef:=by
 simp[Act.put,Array.getD_eq_getD_getElem?,Array.getElem?_setIfInBounds_ne h]
theorem put_eq {a:Act}{d:Nat}{v:Value}(h:d < a.tmps.size):(a.put (some d) v).tmps.getD d undef=v:=by
 simp[Act.put,Array.getD_eq_getD_getElem?,h]
theorem x37 {a:Act}{v:Value}:a.put none v=a:=rfl
theorem x7d {x y z:Int}{pre:Nat→Env}(hx:(pre 2).getD 13 .bad=.int .i64 x)(hy:(pre 4).getD 14 .bad=.int .i64 y)(hz:(pre 9).getD 18 .bad=.int .i64 z):HandsOk Tryz.C0 ops90 z5e pre 50 (w1m x y z) where
 keep:=by
  intro E w0 G w a G' w' j v hj hoj hsz hE hΦ h0
  have hne:∀ k,z5e k≠none→j≠k:=fun k hk e=>hk (e ▸ hoj)
  obtain ⟨b,ks,h1,h2,h3,h4,h5⟩:=hΦ (h0.resolve_right (Ne.symm (hne 0 (by simp[z5e]))))
  rw[y2a]at hj
  have hd:=List.all_eq_true.1 w2g j (List.mem_range.2 hj)
  simp only[hoj,Option.isSome_none,Bool.false_or]at hd
  have hkeep:∀ t,t=12∨t=19∨t=7→(a.put (opAt ops90 j).dst v).tmps.getD t undef=a.tmps.getD t undef:=by
   intro t ht
   cases hdd:(opAt ops90 j).dst with
   | none=>rfl
   | some d =>
    rw[hdd]at hd
    refine y2f fun e=>?_
    subst e
    rcases ht with rfl | rfl | rfl<;>simp at hd
  have hr:∀ k,z5e k≠none→(E k∨k=j)→E k:=fun k hk h=>h.resolve_right (Ne.symm (hne k hk))
  refine ⟨b,ks,h1.mono hE,by rw[hkeep 12 (.inl rfl)];exact h2,fun h=>?_,fun h=>?_,h5.1,h5.2.1,fun h=>h5.2.2.1 (hr 2 (by simp[z5e]) h),fun h=>h5.2.2.2.1 (hr 4 (by simp[z5e]) h),fun h=>h5.2.2.2.2 (hr 9 (by simp[z5e]) h)⟩
  ·rw[hkeep 19 (.inr (.inl rfl))];exact h3 (hr 10 (by simp[z5e]) h)
  ·rw[hkeep 7 (.inr (.inr rfl))];exact h4 (hr 11 (by simp[z5e]) h)
 step:=by
  intro E G0 w0 G w a S j hj hoj hEj hE2 hb hB hI hg hE0 hsz hlk hΦ rd n next Q hnext
  rw[y2a]at hj
  have hbe:=List.all_eq_true.1 w0f j (List.mem_range.2 hj)
  have ins:∀ {k:Int} {t:Nat},j≠0→(opAt ops90 j).op=.insert 122 (.tmp 12) (.tmp t) (.const (.bool true))→(opAt ops90 j).dst=none→z0p ops90 0 j=true→VR G w (.int .i64 k) (a.tmps.getD t undef)→(k=x∨k=y∨k=z)→(j=2→k=x)→(j=4→k=y)→(j=9→k=z)→j≠10→j≠11 →
    (opAt ops90 j).wpIn (WF rd) n Tryz.C0.P a w next Q:=by
   intro k t hj0 hop hdst hbf hv hk e2 e4 e9 n10 n11
   obtain ⟨b,ks,h1,h2,h3,h4,h5⟩:=hΦ (hb 0 hbf)
   have hkv:=hv.int_inv
   obtain ⟨w',r1,i1,x1,ev1,m1⟩:=MapV.insert (C:=Tryz.C0) (t:=122) (kt:=3) (et:=4) (k:=k) Tryz.underlying122 Tryz.underlying3 hI hE0 hB h1
   have hd:∀ c,(opAt ops90 j).op≠.defer c:=by intro c e;rw[hop]at e;cases e
   refine z9z hd (r:=.skip) (w':=w') (by simp[execOp,hop,Act.eval,h2,hkv,r1]) rd n (.inr ⟨rfl,?_⟩)
   refine hnext G w' undef i1 x1 ev1 ?_
   rw[hdst,x37]
   intro _
   refine ⟨b,z1k k ks,m1,h2,fun h=>h3 (h.resolve_right (Ne.symm n10)),fun h=>h4 (h.resolve_right (Ne.symm n11)),z3f h5.1,fun q hq=>?_,fun h=>?_,fun h=>?_,fun h=>?_⟩
   ·rcases z3d.1 hq with h | rfl
    ·exact h5.2.1 q h
    ·exact hk
   ·refine z3d.2 ?_
    rcases h with h | h
    ·exact .inl (h5.2.2.1 h)
    ·exact .inr (e2 h.symm).symm
   ·refine z3d.2 ?_
    rcases h with h | h
    ·exact .inl (h5.2.2.2.1 h)
    ·exact .inr (e4 h.symm).symm
   ·refine z3d.2 ?_
    rcases h with h | h
    ·exact .inl (h5.2.2.2.2 h)
    ·exact .inr (e9 h.symm).symm
  have hcase:j=0∨j=2∨j=4∨j=9∨j=10∨j=11:=by
   unfold z5e at hoj
   split at hoj
   ·assumption
   ·cases hoj
  have hbe':j≠0→z0p ops90 0 j=true:=by
   intro h0
   rcases hcase with rfl | rfl | rfl | rfl | rfl | rfl<;>simp_all
  rcases hcase with rfl | rfl | rfl | rfl | rfl | rfl
  ·have hno:∀ k,k < 12→(k == 2 || k == 4 || k == 9 || k == 10 || k == 11)=true→¬ E k:=by
    intro k hk hkk hEk
    have:=List.all_eq_true.1 w0f k (List.mem_range.2 hk)
    refine hEj (hE2 k hEk (by rw[y2a];exact hk) ?_)
    have h0:(k == 0)=false:=by
     simp only[Bool.or_eq_true,beq_iff_eq]at hkk
     simp only[beq_eq_false_iff_ne];omega
    rw[h0,hkk]at this
    simpa using this
   have hd:∀ c,(opAt ops90 0).op≠.defer c:=by intro c e;rw[x2u]at e;cases e
   have ha:=Adds.alloc w (.map #[] 0)
   refine z9z hd (r:=.value (.map (some w.heap.size))) (w':=w.alloc (.map #[] 0)) (by simp[execOp,x2u,Instr.makeMap]) rd n (.inl ⟨_,rfl,?_⟩)
   have hE1:Evo G w G (w.alloc (.map #[] 0)):=Evo.adds ha hI
   refine hnext G _ _ (Inv.adds ha hI) hE1.ext (hE0.trans hE1) ?_
   rw[y6o.1]
   intro _
   refine ⟨w.heap.size,[],⟨hE0.size,by simp,FreeB.new hI (Nat.le_refl _),_,ha.new,.map [] #[] 0 [] (by simp) rfl (MapKept.stamped_empty 0) (by simp)⟩,put_eq (by rw[hsz];omega),fun h=>?_,fun h=>?_,List.nodup_nil,by simp,fun h=>?_,fun h=>?_,fun h=>?_⟩
   ·exact absurd (h.resolve_right (by omega)) (hno 10 (by omega) rfl)
   ·exact absurd (h.resolve_right (by omega)) (hno 11 (by omega) rfl)
   ·exact absurd (h.resolve_right (by omega)) (hno 2 (by omega) rfl)
   ·exact absurd (h.resolve_right (by omega)) (hno 4 (by omega) rfl)
   ·exact absurd (h.resolve_right (by omega)) (hno 9 (by omega) rfl)
  ·exact ins (by omega) x8h y6o.2.1 (hbe' (by omega)) (by rw[← hx];exact hlk 13 x4o.1) (.inl rfl) (fun _=>rfl) (by omega) (by omega) (by omega) (by omega)
  ·exact ins (by omega) x8g y6o.2.2.1 (hbe' (by omega)) (by rw[← hy];exact hlk 14 x4o.2.1) (.inr (.inl rfl)) (by omega) (fun _=>rfl) (by omega) (by omega) (by omega)
  ·exact ins (by omega) x8f y6o.2.2.2.1 (hbe' (by omega)) (by rw[← hz];exact hlk 18 x4o.2.2) (.inr (.inr rfl)) (by omega) (by omega) (fun _=>rfl) (by omega) (by omega)
  ·obtain ⟨b,ks,h1,h2,h3,h4,h5⟩:=hΦ (hb 0 (hbe' (by omega)))
   have hd:∀ c,(opAt ops90 10).op≠.defer c:=by intro c e;rw[y97]at e;cases e
   refine z9z hd (r:=.value (.map (some b))) (w':=w) (by simp[execOp,y97,Act.eval,h2]) rd n (.inl ⟨_,rfl,?_⟩)
   refine hnext G _ _ hI (Evo.refl _ _).ext hE0 ?_
   rw[y6o.2.2.2.2.1]
   intro _
   exact ⟨b,ks,h1,by rw[y2f (by omega)];exact h2,fun _=>put_eq (by rw[hsz];omega),fun h=>by rw[y2f (by omega)];exact h4 (h.resolve_right (by omega)),h5.1,h5.2.1,fun h=>h5.2.2.1 (h.resolve_right (by omega)),fun h=>h5.2.2.2.1 (h.resolve_right (by omega)),fun h=>h5.2.2.2.2 (h.resolve_right (by omega))⟩
  ·obtain ⟨b,ks,h1,h2,h3,h4,h5⟩:=hΦ (hb 0 (hbe' (by omega)))
   have h19:=h3 (hb 10 w1j)
   have hd:∀ c,(opAt ops90 11).op≠.defer c:=by intro c e;rw[y96]at e;cases e
   refine z9z hd (r:=.value (.map (some b))) (w':=w) (by simp[execOp,y96,Act.eval,h19]) rd n (.inl ⟨_,rfl,?_⟩)
   refine hnext G _ _ hI (Evo.refl _ _).ext hE0 ?_
   rw[y6o.2.2.2.2.2]
   intro _
   exact ⟨b,ks,h1,by rw[y2f (by omega)];exact h2,fun h=>by rw[y2f (by omega)];exact h3 (h.resolve_right (by omega)),fun _=>put_eq (by rw[hsz];omega),h5.1,h5.2.1,fun h=>h5.2.2.1 (h.resolve_right (by omega)),fun h=>h5.2.2.2.1 (h.resolve_right (by omega)),fun h=>h5.2.2.2.2 (h.resolve_right (by omega))⟩

def z9v (e0:Env)(S0:St)(j:Nat):Env:=match z0u Tryz.C0 (lev Tryz.C0 400) ops90 z5e S0 (ops90.toList.take j) 0 e0 S0 ⟨[],[]⟩ with | some (e,_)=>e | none=>[]
def y8s (e0:Env)(S0:St):Option (Int×Int×Int):=match (z9v e0 S0 2).getD 13 .bad,(z9v e0 S0 4).getD 14 .bad,(z9v e0 S0 9).getD 18 .bad with
 | .int .i64 x,.int .i64 y,.int .i64 z=>some (x,y,z)
 | _,_,_=>none
theorem y84 {C:Cx}{sf:Self}{ops:Array Oper}{ov:Nat→Option AV}{S:St}{env env':Env}{S':St}(h:z0u C sf ops ov S ops.toList 0 env S ⟨[],[]⟩=some (env',S')){j:Nat}(hj:j≤ops.size):∃ e s,z0u C sf ops ov S (ops.toList.take j) 0 env S ⟨[],[]⟩=some (e,s):=by
 obtain ⟨es,Ss,Ds,vs,h1,h2,h3,h4,h5,h6,h7,h8⟩:=z8k (Nat.le_refl _) _ 0 env S ⟨[],[]⟩ env' S' (Nat.zero_le _) (by rw[List.drop_zero,List.take_of_length_le (by simp)]) h
 have:=h7 j (Nat.zero_le _) hj
 rw[List.drop_zero]at this
 exact ⟨_,_,this⟩
theorem w0p {e0 e1:Env}{S0 S1:St}{x y z:Int}(hlen:e0.length=50)(h:z0u Tryz.C0 (lev Tryz.C0 400) ops90 z5e S0 ops90.toList 0 e0 S0 ⟨[],[]⟩=some (e1,S1))(hk:y8s e0 S0=some (x,y,z)) :
  Pce Tryz.C0 (.region 1 ops90 true) e0 S0 .normal (e1.set 7 (.mp S1.hs.length)) (S1.push (.map (z2v (z1k z (z1k y (z1k x [])))))) :=by
 have hsf:=z4y Tryz.c0ok Tryz.c0w 400
 have hsw:=z6b Tryz.c0w 400
 have hpre:∀ j,j < ops90.size→∃ s,z0u Tryz.C0 (lev Tryz.C0 400) ops90 z5e S0 (ops90.toList.take j) 0 e0 S0 ⟨[],[]⟩=some (z9v e0 S0 j,s):=by
  intro j hj
  obtain ⟨e,s,hes⟩:=y84 h (Nat.le_of_lt hj)
  exact ⟨s,by unfold z9v;rw[hes]⟩
 obtain ⟨hx,hy,hz⟩:(z9v e0 S0 2).getD 13 .bad=.int .i64 x∧(z9v e0 S0 4).getD 14 .bad=.int .i64 y∧(z9v e0 S0 9).getD 18 .bad=.int .i64 z:=by
  unfold y8s at hk
  split at hk<;>try cases hk
  rename_i h1 h2 h3
  exact ⟨h1,h2,h3⟩
 refine ⟨fun hok rd n ds G w a hI hg he hd Q hQ=>?_,(z7e Tryz.c0w hsw _ _ _ _ _ _ _ h).trans (Wl.push _ _)⟩
 have hands:=x7d hx hy hz
 rw[← hlen]at hands
 refine y9z Tryz.c0ok hsf (by simpa[okC] using hok) h (fun j v hj=>?_) (fun j hj _=>hpre j hj) hands hI hg he hd 1 rd n (fun E w1 hno _ h0=>absurd h0 (hno 0)) ?_
 ·unfold z5e at hj
  split at hj
  ·rename_i hc
   cases hj
   refine ⟨rfl,?_⟩
   have hlt:j < 12:=by omega
   have:=List.all_eq_true.1 w2h j (List.mem_range.2 hlt)
   simp only[z5e,if_pos hc,Option.isSome_some,Bool.not_true,Bool.false_or,Bool.and_eq_true,beq_iff_eq,Option.isNone_iff_eq_none]at this
   exact this
  ·cases hj
 ·intro E w1 G' a' w' hall hw1 hE1 hI' hE' hER hdf hΦ
  obtain ⟨b,ks,h1,h2,h3,h4,h5⟩:=hΦ (hall 0 (by rw[y2a];omega))
  have h7:=h4 (hall 11 (by rw[y2a];omega))
  obtain ⟨m1,m2,m3,o,m4,m5⟩:=h1
  have hperm:ks.Perm (z1k z (z1k y (z1k x []))):=by
   refine (List.perm_ext_iff_of_nodup h5.1 (z3f (z3f (z3f List.nodup_nil)))).2 fun k=>?_
   rw[z3d,z3d,z3d]
   refine ⟨fun hm=>?_,fun hm=>?_⟩
   ·rcases h5.2.1 k hm with h | h | h
    ·exact .inl (.inl (.inr h))
    ·exact .inl (.inr h)
    ·exact .inr h
   ·rcases hm with ((h | rfl) | rfl) | rfl
    ·simp at h
    ·exact h5.2.2.1 (hall 2 (by rw[y2a];omega))
    ·exact h5.2.2.2.1 (hall 4 (by rw[y2a];omega))
    ·exact h5.2.2.2.2 (hall 9 (by rw[y2a];omega))
  have m5':HR G' w' (.map (z2v (z1k z (z1k y (z1k x []))))) o:=m5.permE (hperm.map _)
  have hEw:Evo G w G' w':=hE1.trans hE'
  obtain ⟨i2,x2,e2⟩:=x3k hI' m3 (by rw[hEw.B];exact Nat.le_trans hI.bin (by rw[← hw1];exact m1)) m4 m5'
  refine hQ .normal a' w' ⟨_,i2,e2 G w hEw (by rw[← hw1];exact m1),⟨by rw[List.length_set];exact hER.1,fun i u hi=>?_⟩,hdf,rfl⟩
  rw[List.getElem?_set]at hi
  split at hi
  ·rename_i e
   subst e
   split at hi<;>cases hi
   rw[h7]
   exact .mp _ _ (upd_same _ _ _)
  ·exact (hER.2 i u hi).ext x2
def y9 (args:List AV)(S:St):Option (CR×St) :=
 match evC Tryz.C0 (lev Tryz.C0 400) a90 (args++List.replicate (50-args.length) .bad) { S with wl:=[] } with
 | some (.normal,e0,S0)=>if e0.length=50 then match z0u Tryz.C0 (lev Tryz.C0 400) ops90 z5e S0 ops90.toList 0 e0 S0 ⟨[],[]⟩,y8s e0 S0 with
  | some (e1,S1),some (x,y,z)=>match evC Tryz.C0 (lev Tryz.C0 400) r90 (e1.set 7 (.mp S1.hs.length)) (S1.push (.map (z2v (z1k z (z1k y (z1k x [])))))) with
   | some (.ret,e2,S2)=>match z0v Tryz.C0 Tryz.f90 e2 S2 with
    | some r=>some (.ret (finish Tryz.C0 S S2 r).1,(finish Tryz.C0 S S2 r).2)
    | none=>none
   | _=>none
  | _,_=>none
  else none
 | _=>none
theorem y7 {args:List AV}{S S':St}{r:CR}(h:y9 args S=some (r,S')):CallOk Tryz.C0 90 args S r S'∧Wl S S':=by
 have hsf:=z4y Tryz.c0ok Tryz.c0w 400
 have hsw:=z6b Tryz.c0w 400
 unfold y9 at h
 split at h<;>try cases h
 rename_i e0 S0 h0
 split at h
 rotate_left
 ·exact absurd h (by simp)
 rename_i hlen
 split at h<;>try cases h
 rename_i e1 S1 x y z h1 hk
 generalize hr90:evC Tryz.C0 (lev Tryz.C0 400) r90 (e1.set 7 (.mp S1.hs.length)) (S1.push (.map (z2v (z1k z (z1k y (z1k x []))))))=q at h
 match q,hr90,h with
 | some (.ret,e2,S2),h2,h =>
 replace h:(match z0v Tryz.C0 Tryz.f90 e2 S2 with | some r=>some (CR.ret (finish Tryz.C0 S S2 r).1,(finish Tryz.C0 S S2 r).2) | none=>none)=some (r,S'):=h
 generalize hv:z0v Tryz.C0 Tryz.f90 e2 S2=v at h
 cases v with
 | none=>exact absurd h (by simp)
 | some v =>
 simp only[Option.some.injEq,Prod.mk.injEq]at h
 obtain ⟨rfl,rfl⟩:=h
 have body:Pce Tryz.C0 (.seq a90 (.seq (.region 1 ops90 true) r90)) (args++List.replicate (50-args.length) .bad) { S with wl:=[] } .ret e2 S2 :=
  Pce.seq (Pce.of_ev Tryz.c0ok Tryz.c0w hsf hsw h0) (Pce.seq (w0p hlen h1 hk) (Pce.of_ev Tryz.c0ok Tryz.c0w hsf hsw h2))
 refine ⟨?_,z5o body.wl⟩
 exact CallOk.of_Pce (C:=Tryz.C0) Tryz.c0ok Tryz.func90 x7h (.inr rfl) (args:=args) (by rw[w2d];exact body) hv
def Tryz.C1:Cx:={ P:=Tryz.prog,gt:=Tryz.gt,hk:=fun g=>if g=90 then some y9 else Tryz.C0.hk g,eqt:=y2u Tryz.prog,nat:=z9x 222 244 218 }
theorem Tryz.c1ok:CxOk Tryz.C1 where
 eqt:=z8x fun t h=>h
 hk:=fun g f h args S r S' hr=>by
  simp only[Tryz.C1]at h
  split at h
  ·rename_i hg;subst hg;cases h
   exact ⟨⟨_,_,Tryz.func90,rfl⟩,(y7 hr).1⟩
  ·exact Tryz.c0ok.hk g f h args S r S' hr
 codes:=Tryz.c0ok.codes
 nat:=Tryz.c0ok.nat
 mixed:=Tryz.c0ok.mixed
 names:=Tryz.c0ok.names
theorem Tryz.c1w:HkW Tryz.C1:=by
 intro g f h args S r S' hr
 simp only[Tryz.C1]at h
 split at h
 ·cases h;exact (y7 hr).2
 ·exact Tryz.c0w g f h args S r S' hr
end Go.Proofs
namespace Go.Proofs
open Go.Ev Go.Shelf Go.RowKit Go.Maps Go.Sort
def x1q:Code:=(Tryz.f38.body).getD .skip
def a38:Code:=match x1q with | .seq a _=>a | _=>.skip
def b38:Code:=match x1q with | .seq _ (.seq b _)=>b | _=>.skip
def ops38:Array Oper:=match x1q with | .seq _ (.seq _ (.seq (.region _ ops _) _))=>ops | _=>#[]
def r38:Code:=match x1q with | .seq _ (.seq _ (.seq _ r))=>r | _=>.skip
theorem x7k:Tryz.f38.body=some (.seq a38 (.seq b38 (.seq (.region 3 ops38 true) r38))):=by kernel_rfl
theorem w2f:Tryz.f38.ntmps=46:=by kernel_rfl
theorem x76:ops38.size=9:=by kernel_rfl
theorem w24:(List.range 9).all (fun j=>Nat.blt j 7 || (List.range j).all fun i=>z0p ops38 i j)=true:=by kernel_rfl
def y52 (args:List AV)(S:St):Option (CR×St) :=
 match evC Tryz.C1 (lev Tryz.C1 400) a38 (args++List.replicate (46-args.length) .bad) { S with wl:=[] } with
 | some (.normal,e0,S0)=>match evC Tryz.C1 (lev Tryz.C1 400) b38 e0 S0 with
  | some (.normal,e1,S1)=>match z11 Tryz.C1 (lev Tryz.C1 400) ops38 S1 (ops38.toList.take 7) 0 e1 S1 ⟨[],[]⟩ with
   | some (e2,S2)=>match z2g Tryz.C1 (lev Tryz.C1 400) ops38 (ops38.toList.drop 7) e2 S2 with
    | some (.normal,e3,S3)=>match evC Tryz.C1 (lev Tryz.C1 400) r38 e3 S3 with
     | some (.ret,e4,S4)=>match z0v Tryz.C1 Tryz.f38 e4 S4 with
      | some r=>some (.ret (finish Tryz.C1 S S4 r).1,(finish Tryz.C1 S S4 r).2)
      | none=>none
     | _=>none
    | _=>none
   | none=>none
  | _=>none
 | _=>none
theorem y74 {C:Cx}{fn:Func}{e:Env}{S0 S S':St}{r:CR}(h:(match z0v C fn e S with | some v=>some (CR.ret (finish C S0 S v).1,(finish C S0 S v).2) | none=>none)=some (r,S')):∃ v,z0v C fn e S=some v∧r=.ret (finish C S0 S v).1∧S'=(finish C S0 S v).2:=by
 generalize hv:z0v C fn e S=q at h
 cases q with
 | none=>cases h
 | some v=>cases h;exact ⟨v,rfl,rfl,rfl⟩
theorem y42 {args:List AV}{S S':St}{r:CR}(h:y52 args S=some (r,S')):CallOk Tryz.C1 38 args S r S'∧Wl S S':=by
 have hsf:=z4y Tryz.c1ok Tryz.c1w 400
 have hsw:=z6b Tryz.c1w 400
 unfold y52 at h
 generalize h0:evC Tryz.C1 (lev Tryz.C1 400) a38 _ _=q0 at h
 match q0,h0,h with
 | some (.normal,e0,S0),h0,h =>
 replace h:=h
 dsimp only at h
 generalize h1:evC Tryz.C1 (lev Tryz.C1 400) b38 e0 S0=q1 at h
 match q1,h1,h with
 | some (.normal,e1,S1),h1,h =>
 dsimp only at h
 generalize h2:z11 Tryz.C1 (lev Tryz.C1 400) ops38 S1 (ops38.toList.take 7) 0 e1 S1 ⟨[],[]⟩=q2 at h
 match q2,h2,h with
 | some (e2,S2),h2,h =>
 dsimp only at h
 generalize h3:z2g Tryz.C1 (lev Tryz.C1 400) ops38 (ops38.toList.drop 7) e2 S2=q3 at h
 match q3,h3,h with
 | some (.normal,e3,S3),h3,h =>
 dsimp only at h
 generalize h4:evC Tryz.C1 (lev Tryz.C1 400) r38 e3 S3=q4 at h
 match q4,h4,h with
 | some (.ret,e4,S4),h4,h =>
 obtain ⟨v,hv,rfl,rfl⟩:=y74 (C:=Tryz.C1) (fn:=Tryz.f38) (e:=e4) (S0:=S) (S:=S4) h
 have body:Pce Tryz.C1 (.seq a38 (.seq b38 (.seq (.region 3 ops38 true) r38))) (args++List.replicate (46-args.length) .bad) { S with wl:=[] } .ret e4 S4 :=
  Pce.seq (Pce.of_ev Tryz.c1ok Tryz.c1w hsf hsw h0) (Pce.seq (Pce.of_ev Tryz.c1ok Tryz.c1w hsf hsw h1) (Pce.seq (Pce.chain Tryz.c1ok Tryz.c1w hsf hsw (N:=7) (by rw[x76];omega) (fun j hj hjs i hi=>by
   rw[x76]at hjs
   have:=List.all_eq_true.1 w24 j (List.mem_range.2 hjs)
   have hn:Nat.blt j 7=false:=by
    cases hb:Nat.blt j 7 with
    | false=>rfl
    | true=>rw[Nat.blt_eq]at hb;omega
   rw[hn,Bool.false_or,List.all_eq_true]at this
   exact this i (List.mem_range.2 hi)) h2 h3) (Pce.of_ev Tryz.c1ok Tryz.c1w hsf hsw h4)))
 exact ⟨CallOk.of_Pce (C:=Tryz.C1) Tryz.c1ok Tryz.func38 x7k (.inr rfl) (args:=args) (by rw[w2f];exact body) hv,z5o body.wl⟩
def Tryz.C2:Cx:={ P:=Tryz.prog,gt:=Tryz.gt,hk:=fun g=>if g=38 then some y52 else Tryz.C1.hk g,eqt:=y2u Tryz.prog,nat:=z9x 222 244 218 }
theorem Tryz.c2ok:CxOk Tryz.C2 where
 eqt:=z8x fun t h=>h
 hk:=fun g f h args S r S' hr=>by
  simp only[Tryz.C2]at h
  split at h
  ·rename_i hg;subst hg;cases h
   exact ⟨⟨_,_,Tryz.func38,rfl⟩,(y42 hr).1⟩
  ·exact Tryz.c1ok.hk g f h args S r S' hr
 codes:=Tryz.c0ok.codes
 nat:=Tryz.c0ok.nat
 mixed:=Tryz.c0ok.mixed
 names:=Tryz.c0ok.names
theorem Tryz.c2w:HkW Tryz.C2:=by
 intro g f h args S r S' hr
 simp only[Tryz.C2]at h
 split at h
 ·cases h;exact (y42 hr).2
 ·exact Tryz.c1w g f h args S r S' hr
end Go.Proofs
namespace Go.Proofs
open Go.Ev Go.Shelf Go.RowKit Go.Maps Go.Sort
def evL (C:Cx)(sf:Self):List Code→Env→St→Option (Env×St)
 | [],e,S=>some (e,S)
 | c::cs,e,S=>match evC C sf c e S with
  | some (.normal,e1,S1)=>evL C sf cs e1 S1
  | _=>none
def y4f:List Code→Code→Code
 | [],d=>d
 | c::cs,d=>.seq c (y4f cs d)
theorem Pce.evL {C:Cx}{sf:Self}(hC:CxOk C)(hw:HkW C)(hs:SelfOk C sf)(hsw:SelfW sf){d:Code}{x:EX}{env':Env}{S':St}:∀ {cs:List Code} {env env1:Env} {S S1:St},Go.Proofs.evL C sf cs env S=some (env1,S1)→Pce C d env1 S1 x env' S'→Pce C (y4f cs d) env S x env' S'
 | [],env,env1,S,S1,h,h2=>by cases h;exact h2
 | c::cs,env,env1,S,S1,h,h2=>by
  simp only[Go.Proofs.evL]at h
  split at h
  ·rename_i e1 s1 h1
   exact Pce.seq (Pce.of_ev hC hw hs hsw h1) (Pce.evL hC hw hs hsw h h2)
  ·cases h
def w1h:Code:=(Tryz.f107.body).getD .skip
def y58:Code→Code | .seq a _=>a | _=>.skip
def y4h:Code→Code | .seq _ b=>b | _=>.skip
def w1i:Code→Code | .cond _ a _=>a | _=>.skip
def x8:Code→Array Oper | .region _ ops _=>ops | _=>#[]
def t107 (k:Nat):Code:=match k with | 0=>w1h | k+1=>y4h (t107 k)
def z107 (k:Nat):Code:=y58 (t107 k)
def y6f:Code:=y58 (z107 1)
def y6c:Code:=y58 (y4h (z107 1))
def x9q:Code:=w1i (y4h (y4h (z107 1)))
def opsD:Array Oper:=x8 (y58 x9q)
def y7o:Code:=y4h x9q
def opsM:Array Oper:=x8 (z107 8)
def y7n:Code:=t107 9
def y7i:List Code:=[z107 2,z107 3,z107 4,z107 5,z107 6,z107 7]
theorem x4w:Tryz.f107.body=some (.seq (z107 0) (.seq (.seq y6f (.seq y6c (.cond (.tmp 22) (.seq (.region 3 opsD true) y7o) .skip))) (y4f y7i (.seq (.region 23 opsM true) y7n)))):=by kernel_rfl
theorem w0r:Tryz.f107.ntmps=118:=by kernel_rfl
theorem szD:opsD.size=8:=by kernel_rfl
theorem szM:opsM.size=13:=by kernel_rfl
def ovD (V:AV):Nat→Option AV
 | 2=>some .bad
 | 5=>some V
 | _=>none
def ovM (V:AV):Nat→Option AV
 | 2=>some .bad
 | 10=>some V
 | _=>none
theorem x0w:opAt opsD 2={ dst:=some 25,op:=.call { callee:=.value (.func 109),args:=#[.tmp 24],argTypes:=#[23] },type:=(opAt opsD 2).type,pos:=(opAt opsD 2).pos,after:=(opAt opsD 2).after,guard:=none }:=by kernel_rfl
theorem x8e:opAt opsD 5={ dst:=some 28,op:=.call { callee:=.builtin .append,args:=#[.tmp 25,.tmp 27],argTypes:=#[23,23] },type:=(opAt opsD 5).type,pos:=(opAt opsD 5).pos,after:=(opAt opsD 5).after,guard:=none }:=by kernel_rfl
theorem x0u:opAt opsM 2={ dst:=some 107,op:=.call { callee:=.value (.func 108),args:=#[.tmp 106],argTypes:=#[22] },type:=(opAt opsM 2).type,pos:=(opAt opsM 2).pos,after:=(opAt opsM 2).after,guard:=none }:=by kernel_rfl
theorem x0v:opAt opsM 10={ dst:=some 115,op:=.call { callee:=.value (.func 160),args:=#[.tmp 107,.tmp 108,.tmp 114],argTypes:=#[22,3,22] },type:=(opAt opsM 10).type,pos:=(opAt opsM 10).pos,after:=(opAt opsM 10).after,guard:=none }:=by kernel_rfl
theorem bfD:z0p opsD 2 5=true:=by kernel_rfl
theorem bfM:z0p opsM 2 10=true:=by kernel_rfl
theorem stD:(List.range 8).all (fun i=>!z3t (opAt opsD i).op || z0p opsD 5 i)=true:=by kernel_rfl
theorem stM:(List.range 13).all (fun i=>!z3t (opAt opsM i).op || z0p opsM 10 i)=true:=by kernel_rfl
theorem apD:(List.range 8).all (fun i=>i == 5 || !isApp (opAt opsD i).op)=true:=by kernel_rfl
theorem laD:(opAt opsD 2).looksAt opsD=[24]∧(opAt opsD 5).looksAt opsD=[25,27]:=⟨by kernel_rfl,by kernel_rfl⟩
theorem laM:(opAt opsM 2).looksAt opsM=[106]∧(opAt opsM 10).looksAt opsM=[107,108,114]:=⟨by kernel_rfl,by kernel_rfl⟩
noncomputable abbrev sf2:Self:=lev Tryz.C2 400
def w0g (l news:List AV)(n:Nat):Bool:=decide (n+1≤140737488355328) && decide ((n+1)*72≤140737488355328) && Nat.beq l.length (n*9) && Nat.beq news.length 9 && l.all z9f && news.all z9f
def evD (e:Env)(S:St):Option (Env×St) :=
 match z0u Tryz.C2 sf2 opsD (ovD .bad) S (opsD.toList.take 5) 0 e S ⟨[],[]⟩ with
 | some (e5,_)=>match e5.getD 24 .bad,e5.getD 27 .bad with
  | .vs l0 n0 _,.vs m0 _ _=>match z0u Tryz.C2 sf2 opsD (ovD (.vs (l0++m0) (n0+1) .none)) S (opsD.toList.take 2) 0 e S ⟨[],[]⟩,z0u Tryz.C2 sf2 opsD (ovD (.vs (l0++m0) (n0+1) .none)) S (opsD.toList.take 5) 0 e S ⟨[],[]⟩ with
   | some (ec,_),some (ei,_)=>match ec.getD 24 .bad,ei.getD 27 .bad with
    | .vs l n _,.vs m 1 _=>if AV.eqbL [.vs (l0++m0) (n0+1) .none] [.vs (l++m) (n+1) .none] && (decide (z6r 9 72 l n) && (w0g l m n && decide (25 < e.length))) then
      z0u Tryz.C2 sf2 opsD (ovD (.vs (l0++m0) (n0+1) .none)) S opsD.toList 0 e S ⟨[],[]⟩ else none
    | _,_=>none
   | _,_=>none
  | _,_=>none
 | none=>none
theorem x9n {e e':Env}{S S':St}(h:evD e S=some (e',S')):Pce Tryz.C2 (.region 3 opsD true) e S .normal e' S':=by
 have hsf:SelfOk Tryz.C2 sf2:=z4y Tryz.c2ok Tryz.c2w 400
 have hsw:SelfW sf2:=z6b Tryz.c2w 400
 unfold evD at h
 split at h
 rotate_left
 ·exact absurd h (by simp)
 rename_i e5 s5 h5
 split at h
 rotate_left
 ·exact absurd h (by simp)
 rename_i l0 n0 t0 m0 k0 u0 q1 q2
 generalize hV:AV.vs (l0++m0) (n0+1) .none=V at h
 split at h
 rotate_left
 ·exact absurd h (by simp)
 rename_i ec sc ei si hec hei
 split at h
 rotate_left
 ·exact absurd h (by simp)
 rename_i l n t1 m t2 hl hm
 split at h
 rotate_left
 ·exact absurd h (by simp)
 rename_i hc
 simp only[Bool.and_eq_true,decide_eq_true_eq]at hc
 obtain ⟨c1,c2,c3,c4⟩:=hc
 have hVe:V=.vs (l++m) (n+1) .none:=by
  have:=AV.eqbL_eq _ _ c1
  injection this
 simp only[w0g,Bool.and_eq_true,decide_eq_true_eq]at c3
 obtain ⟨⟨⟨⟨⟨a1,a2⟩,a3⟩,a4⟩,a5⟩,a6⟩:=c3
 have hok':x10 Tryz.C2 23 23 46 9 l m n 1:=⟨Tryz.underlying23,by kernel_rfl,⟨72,by kernel_rfl,a2⟩,(by
  have:(z4p Tryz.C2 46).isSome=true:=by kernel_rfl
  exact Option.isSome_iff_exists.1 this),⟨46,Tryz.underlying23⟩,a1,Nat.eq_of_beq_eq_true a3,by rw[Nat.eq_of_beq_eq_true a4],by omega,by omega,a5,a6⟩
 have hand:HandOk Tryz.C2 opsD S ec ei 2 5 25 V (OwnV 46 9 l n):=by
  rw[hVe]
  exact HandOk.app (C:=Tryz.C2) Tryz.c2ok Tryz.cloneSpecD (by rw[x0w]) rfl rfl (by rw[x8e]) rfl rfl rfl (by rw[laD.1];simp) (by rw[laD.2];simp) hl hm c2 hok' Tryz.func109 rfl
 refine Pce.drawX (jc:=2) (ji:=5) (tC:=25) Tryz.c2ok Tryz.c2w hsf hsw h (fun j v hj=>?_) rfl rfl (by rw[szD];omega) (by rw[szD];omega) bfD (by omega) (by rw[x0w]) c4 (by rw[x0w]) (by rw[x8e]) (by rw[x0w];rfl) (.inr fun i hi hne=>?_) hec hei (fun i hi hs=>?_) hand
 ·unfold ovD at hj
  split at hj<;>cases hj
  ·exact .inl ⟨rfl,rfl⟩
  ·exact .inr ⟨rfl,rfl⟩
 ·rw[szD]at hi
  have:=List.all_eq_true.1 apD i (List.mem_range.2 hi)
  simpa[hne] using this
 ·rw[szD]at hi
  have:=List.all_eq_true.1 stD i (List.mem_range.2 hi)
  simpa[hs] using this
def evM (e:Env)(S:St):Option (Env×St) :=
 match z0u Tryz.C2 sf2 opsM (ovM .bad) S (opsM.toList.take 10) 0 e S ⟨[],[]⟩ with
 | some (e5,_)=>match e5.getD 106 .bad,e5.getD 108 .bad,e5.getD 114 .bad with
  | .vs l0 n0 _,.int .i64 (.ofNat i0),.vs m0 _ _=>match z0u Tryz.C2 sf2 opsM (ovM (.vs (spl 2 l0 m0 i0) (n0+1) .none)) S (opsM.toList.take 2) 0 e S ⟨[],[]⟩,z0u Tryz.C2 sf2 opsM (ovM (.vs (spl 2 l0 m0 i0) (n0+1) .none)) S (opsM.toList.take 10) 0 e S ⟨[],[]⟩ with
   | some (ec,_),some (ei,_)=>match ec.getD 106 .bad,ei.getD 108 .bad,ei.getD 114 .bad with
    | .vs l n _,.int .i64 (.ofNat i),.vs m 1 _=>if AV.eqbL [.vs (spl 2 l0 m0 i0) (n0+1) .none] [.vs (spl 2 l m i) (n+1) .none] && (decide (z6r 2 16 l n) && (decide (l.length=n*2∧l.all AV.one=true∧m.length=2∧m.all AV.one=true∧(n+1)*16≤140737488355328∧i≤n) && decide (107 < e.length))) then
      z0u Tryz.C2 sf2 opsM (ovM (.vs (spl 2 l0 m0 i0) (n0+1) .none)) S opsM.toList 0 e S ⟨[],[]⟩ else none
    | _,_,_=>none
   | _,_=>none
  | _,_,_=>none
 | none=>none
theorem x9m {e e':Env}{S S':St}(h:evM e S=some (e',S')):Pce Tryz.C2 (.region 23 opsM true) e S .normal e' S':=by
 have hsf:SelfOk Tryz.C2 sf2:=z4y Tryz.c2ok Tryz.c2w 400
 have hsw:SelfW sf2:=z6b Tryz.c2w 400
 unfold evM at h
 split at h
 rotate_left
 ·exact absurd h (by simp)
 rename_i e5 s5 h5
 split at h
 rotate_left
 ·exact absurd h (by simp)
 rename_i l0 n0 t0 i0 m0 k0 u0 q1 q2 q3
 generalize hV:AV.vs (spl 2 l0 m0 i0) (n0+1) .none=V at h
 split at h
 rotate_left
 ·exact absurd h (by simp)
 rename_i ec sc ei si hec hei
 split at h
 rotate_left
 ·exact absurd h (by simp)
 rename_i l n t1 i m t2 hl hi hm
 split at h
 rotate_left
 ·exact absurd h (by simp)
 rename_i hc
 simp only[Bool.and_eq_true,decide_eq_true_eq]at hc
 obtain ⟨c1,c2,⟨a1,a2,a3,a4,a5,a6⟩,c4⟩:=hc
 have hVe:V=.vs (spl 2 l m i) (n+1) .none:=by
  have:=AV.eqbL_eq _ _ c1
  injection this
 have hand:HandOk Tryz.C2 opsM S ec ei 2 10 107 V (OwnV 58 2 l n):=by
  rw[hVe]
  exact HandOk.ins (C:=Tryz.C2) Tryz.c2ok Tryz.cloneSpecM Tryz.insSpec (by rw[x0u]) rfl rfl (by rw[x0v]) rfl rfl (by rw[laM.1];simp) (by rw[laM.2];simp) (by rw[laM.2];simp) hl hi hm c2 ⟨a1,a2,a3,a4,a5,a6,by omega⟩ Tryz.func108 rfl Tryz.func160 rfl
 refine Pce.drawX (jc:=2) (ji:=10) (tC:=107) Tryz.c2ok Tryz.c2w hsf hsw h (fun j v hj=>?_) rfl rfl (by rw[szM];omega) (by rw[szM];omega) bfM (by omega) (by rw[x0u]) c4 (by rw[x0u]) (by rw[x0v]) (by rw[x0u];rfl) (.inl (by rw[x0v];rfl)) hec hei (fun i hi hs=>?_) hand
 ·unfold ovM at hj
  split at hj<;>cases hj
  ·exact .inl ⟨rfl,rfl⟩
  ·exact .inr ⟨rfl,rfl⟩
 ·rw[szM]at hi
  have:=List.all_eq_true.1 stM i (List.mem_range.2 hi)
  simpa[hs] using this
def y2w (args:List AV)(S:St):Option (CR×St) :=
 match evL Tryz.C2 sf2 [z107 0] (args++List.replicate (118-args.length) .bad) { S with wl:=[] } with
 | some (e0,S0)=>match evL Tryz.C2 sf2 [y6f,y6c] e0 S0 with
  | some (e1,S1)=>match e1.getD 22 .bad with
   | .bool true=>match evD e1 S1 with
    | some (e2,S2)=>match evC Tryz.C2 sf2 y7o e2 S2 with
     | some (.ret,e3,S3)=>match z0v Tryz.C2 Tryz.f107 e3 S3 with
      | some v=>some (.ret (finish Tryz.C2 S S3 v).1,(finish Tryz.C2 S S3 v).2)
      | none=>none
     | _=>none
    | none=>none
   | .bool false=>match evL Tryz.C2 sf2 y7i e1 S1 with
    | some (e2,S2)=>match evM e2 S2 with
     | some (e3,S3)=>match evC Tryz.C2 sf2 y7n e3 S3 with
      | some (.ret,e4,S4)=>match z0v Tryz.C2 Tryz.f107 e4 S4 with
       | some v=>some (.ret (finish Tryz.C2 S S4 v).1,(finish Tryz.C2 S S4 v).2)
       | none=>none
      | _=>none
     | none=>none
    | none=>none
   | _=>none
  | none=>none
 | none=>none
theorem y2v {args:List AV}{S S':St}{r:CR}(h:y2w args S=some (r,S')):CallOk Tryz.C2 107 args S r S'∧Wl S S':=by
 have hsf:SelfOk Tryz.C2 sf2:=z4y Tryz.c2ok Tryz.c2w 400
 have hsw:SelfW sf2:=z6b Tryz.c2w 400
 unfold y2w at h
 generalize h0:evL Tryz.C2 sf2 [z107 0] _ _=q0 at h
 cases q0 with
 | none=>exact absurd h (by simp)
 | some pr =>
 obtain ⟨e0,S0⟩:=pr
 dsimp only at h
 generalize h1:evL Tryz.C2 sf2 [y6f,y6c] e0 S0=q1 at h
 cases q1 with
 | none=>exact absurd h (by simp)
 | some pr =>
 obtain ⟨e1,S1⟩:=pr
 dsimp only at h
 have fin:∀ {e4 S4 v},Pce Tryz.C2 (y4f [z107 0] (.seq (.seq y6f (.seq y6c (.cond (.tmp 22) (.seq (.region 3 opsD true) y7o) .skip))) (y4f y7i (.seq (.region 23 opsM true) y7n)))) (args++List.replicate (118-args.length) .bad) { S with wl:=[] } .ret e4 S4→z0v Tryz.C2 Tryz.f107 e4 S4=some v→CallOk Tryz.C2 107 args S (.ret (finish Tryz.C2 S S4 v).1) (finish Tryz.C2 S S4 v).2∧Wl S (finish Tryz.C2 S S4 v).2:=by
  intro e4 S4 v body hv
  exact ⟨CallOk.of_Pce (C:=Tryz.C2) Tryz.c2ok Tryz.func107 x4w (.inr rfl) (args:=args) (by rw[w0r];exact body) hv,z5o body.wl⟩
 generalize h22:e1.getD 22 .bad=b at h
 cases b<;>(first | (exfalso;simp at h;done) | skip)
 rename_i bb
 cases bb with
 | true =>
  dsimp only at h
  generalize h2:evD e1 S1=q2 at h
  cases q2 with
  | none=>exact absurd h (by simp)
  | some pr =>
  obtain ⟨e2,S2⟩:=pr
  dsimp only at h
  generalize h3:evC Tryz.C2 sf2 y7o e2 S2=q3 at h
  cases q3 with
  | none=>exact absurd h (by simp)
  | some pr =>
  obtain ⟨x,e3,S3⟩:=pr
  cases x<;>(first | (exfalso;simp at h;done) | skip)
  obtain ⟨v,hv,rfl,rfl⟩:=y74 (C:=Tryz.C2) (fn:=Tryz.f107) (e:=e3) (S0:=S) (S:=S3) h
  refine fin (Pce.evL Tryz.c2ok Tryz.c2w hsf hsw h0 (Pce.seqRet ?_)) hv
  exact Pce.evL (cs:=[y6f,y6c]) Tryz.c2ok Tryz.c2w hsf hsw h1 (Pce.cond (t:=true) h22 (Pce.seq (x9n h2) (Pce.of_ev Tryz.c2ok Tryz.c2w hsf hsw h3)))
 | false =>
  dsimp only at h
  generalize h2:evL Tryz.C2 sf2 y7i e1 S1=q2 at h
  cases q2 with
  | none=>exact absurd h (by simp)
  | some pr =>
  obtain ⟨e2,S2⟩:=pr
  dsimp only at h
  generalize h3:evM e2 S2=q3 at h
  cases q3 with
  | none=>exact absurd h (by simp)
  | some pr =>
  obtain ⟨e3,S3⟩:=pr
  dsimp only at h
  generalize h4:evC Tryz.C2 sf2 y7n e3 S3=q4 at h
  cases q4 with
  | none=>exact absurd h (by simp)
  | some pr =>
  obtain ⟨x,e4,S4⟩:=pr
  cases x<;>(first | (exfalso;simp at h;done) | skip)
  obtain ⟨v,hv,rfl,rfl⟩:=y74 (C:=Tryz.C2) (fn:=Tryz.f107) (e:=e4) (S0:=S) (S:=S4) h
  refine fin (Pce.evL Tryz.c2ok Tryz.c2w hsf hsw h0 (Pce.seq (env1:=e1) (S1:=S1) ?_ (Pce.evL Tryz.c2ok Tryz.c2w hsf hsw h2 (Pce.seq (x9m h3) (Pce.of_ev Tryz.c2ok Tryz.c2w hsf hsw h4))))) hv
  exact Pce.evL (cs:=[y6f,y6c]) Tryz.c2ok Tryz.c2w hsf hsw h1 (Pce.cond (t:=false) h22 (Pce.of_ev (sf:=z6m) Tryz.c2ok Tryz.c2w (z8n _) z9w rfl))
def Tryz.C3:Cx:={ P:=Tryz.prog,gt:=Tryz.gt,hk:=fun g=>if g=107 then some y2w else Tryz.C2.hk g,eqt:=y2u Tryz.prog,nat:=z9x 222 244 218 }
theorem Tryz.c3ok:CxOk Tryz.C3 where
 eqt:=z8x fun t h=>h
 hk:=fun g f h args S r S' hr=>by
  simp only[Tryz.C3]at h
  split at h
  ·rename_i hg;subst hg;cases h
   exact ⟨⟨_,_,Tryz.func107,rfl⟩,(y2v hr).1⟩
  ·exact Tryz.c2ok.hk g f h args S r S' hr
 codes:=Tryz.c0ok.codes
 nat:=Tryz.c0ok.nat
 mixed:=Tryz.c0ok.mixed
 names:=Tryz.c0ok.names
theorem Tryz.c3w:HkW Tryz.C3:=by
 intro g f h args S r S' hr
 simp only[Tryz.C3]at h
 split at h
 ·cases h;exact (y2v hr).2
 ·exact Tryz.c2w g f h args S r S' hr
theorem Tryz.gtp3:z1v Tryz.C3:=Tryz.gtp0
end Go.Proofs
