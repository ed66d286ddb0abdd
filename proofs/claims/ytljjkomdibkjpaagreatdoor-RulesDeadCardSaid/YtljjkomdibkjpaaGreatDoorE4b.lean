/- An evaluator of the model, part 4b: deferred calls by the kernel. -/
import Derived.Test.YtljjkomdibkjpaaGreatDoorE4
set_option linter.unusedVariables false
set_option linter.unusedSimpArgs false
set_option linter.unusedVariables false
set_option linter.unusedSimpArgs false
namespace Go.Ev

noncomputable def z9u (C:Cx) (st:SelfT) (s:Self) (g0:FuncId) (args:List AV) (S:St):Option (CR × St) :=
 match C.P.funcs[g0]? with
 | some fn=>match fn.body with
  | some (.seq a (.seq b (.seq (.region _ ops false) rest)))=>match y5y ops with
   | some (d1,o1,o2)=>if max fn.ntmps args.length < 2 ^ z7q 64 (max fn.ntmps args.length) then
    y24 args 0 (Tri.full (z7q 64 (max fn.ntmps args.length))) fun t=>match evT C st (max fn.ntmps args.length) a t { S with wl:=[] } with
    | some (EX.normal,t1,S1)=>match evT C st (max fn.ntmps args.length) b t1 S1 with
     | some (EX.normal,t2,S2)=>match z08 C S2 (y6q C t2) o1.op with
      | some (.fn (.func gd) x y)=>if d1 < max fn.ntmps args.length then y0p (max fn.ntmps args.length) t2 (some d1) (.fn (.func gd) x y) fun t3=>y0p (max fn.ntmps args.length) t3 o2.dst (.tup []) fun t3' =>
       match evT C st (max fn.ntmps args.length) rest t3' S2 with
       | some (EX.normal,t4,S4)=>match z6a C s gd (x++y) (.raw .nilIface) S4 with
        | some S5=>match z4m C fn t4 S5 with
         | some r=>some (CR.ret (finish C S S5 r).1,(finish C S S5 r).2)
         | none=>none
        | none=>none
       | some (EX.ret,t4,S4)=>match z6a C s gd (x++y) (.raw .nilIface) S4 with
        | some S5=>match z4m C fn t4 S5 with
         | some r=>some (CR.ret (finish C S S5 r).1,(finish C S S5 r).2)
         | none=>none
        | none=>none
       | some (EX.pan v,t4,S4)=>match z6a C s gd (x++y) v S4 with
        | some S5=>match z4m C fn t4 S5 with
         | some r=>some (CR.ret (finish C S S5 r).1,(finish C S S5 r).2)
         | none=>none
        | none=>none
       | _=>none
       else none
      | _=>none
     | _=>none
    | _=>none
    else none
   | none=>none
  | _=>none
 | none=>none

theorem x4y {args:List AV} {m:Nat} (hdep:max m args.length < 2 ^ z7q 64 (max m args.length)) {α:Type} (k:Tri→α) :
  ∃ t,y24 args 0 (Tri.full (z7q 64 (max m args.length))) k = k t∧RelT t (args++List.replicate (m - args.length) .bad)∧(args++List.replicate (m - args.length) AV.bad).length = max m args.length:=by
 obtain ⟨t,q1,q2,q3⟩:=y2z args 0 (Tri.full (z7q 64 (max m args.length))) k (fun j hj=>z9g _ _ (by have:args.length ≤ max m args.length:=Nat.le_max_right _ _; omega))
 have hlen:(args++List.replicate (m - args.length) AV.bad).length = max m args.length:=by
  simp only [List.length_append,List.length_replicate]; omega
 refine ⟨t,q1,⟨fun i=>?_,fun i hi=>?_⟩,hlen⟩
 ·rw [q2]
  simp only [List.getD_eq_getElem?_getD]
  by_cases hi:i < args.length
  ·rw [if_pos (by omega),List.getElem?_append_left hi]; simp
  ·rw [if_neg (by omega),y2p,List.getElem?_append_right (by omega)]
   cases e:(List.replicate (m - args.length) AV.bad)[i - args.length]? with
   | none=>rfl
   | some y =>
    have:=List.mem_of_getElem? e
    simp at this
    simp [this.2]
 ·rw [q3]; rw [hlen] at hi; exact z9g _ _ (by omega)

theorem y9f {α:Type} {t:Tri} {env:Env} (h:RelT t env) {dst:Option Tmp} {v:AV} {k:Tri→α} {r:α} (hh:y0p env.length t dst v k = r):∃ t',k t' = r∧RelT t' (z1m env dst v):=by
 obtain ⟨t',q1,q2⟩:=y1v h dst v k
 exact ⟨t',q1.symm.trans hh,q2⟩

theorem x4w {C:Cx} {st:SelfT} {s:Self} (hs:SelfRel st s) {g0:FuncId} {args:List AV} {S:St} {r:CR × St} (h:z9u C st s g0 args S = some r):y8t C s g0 args S = some r:=by
  unfold z9u at h
  split at h <;> try cases h
  rename_i fn hfn
  split at h <;> try cases h
  rename_i ca cb id ops rest hbody
  split at h <;> try cases h
  rename_i d1 o1 o2 hdef
  split at h <;> try cases h
  rename_i hdep
  unfold y8t
  simp only [hfn,hbody,hdef]
  obtain ⟨t,q1,hrel,hlen⟩:=x4y hdep (fun t=>match evT C st (max fn.ntmps args.length) ca t { S with wl:=[] } with
        | some (EX.normal,t1,S1)=>match evT C st (max fn.ntmps args.length) cb t1 S1 with
          | some (EX.normal,t2,S2)=>match z08 C S2 (y6q C t2) o1.op with
            | some (.fn (.func gd) x y)=>if d1 < max fn.ntmps args.length then y0p (max fn.ntmps args.length) t2 (some d1) (.fn (.func gd) x y) fun t3=>y0p (max fn.ntmps args.length) t3 o2.dst (.tup []) fun t3' =>
              match evT C st (max fn.ntmps args.length) rest t3' S2 with
              | some (EX.normal,t4,S4)=>match z6a C s gd (x++y) (.raw .nilIface) S4 with
                | some S5=>match z4m C fn t4 S5 with
                  | some r=>some (CR.ret (finish C S S5 r).1,(finish C S S5 r).2)
                  | none=>none
                | none=>none
              | some (EX.ret,t4,S4)=>match z6a C s gd (x++y) (.raw .nilIface) S4 with
                | some S5=>match z4m C fn t4 S5 with
                  | some r=>some (CR.ret (finish C S S5 r).1,(finish C S S5 r).2)
                  | none=>none
                | none=>none
              | some (EX.pan v,t4,S4)=>match z6a C s gd (x++y) v S4 with
                | some S5=>match z4m C fn t4 S5 with
                  | some r=>some (CR.ret (finish C S S5 r).1,(finish C S S5 r).2)
                  | none=>none
                | none=>none
              | _=>none
              else none
            | _=>none
          | _=>none
        | _=>none)
  replace h:=q1.symm.trans h
  rw [← hlen] at h
  simp only at h
  split at h <;> try cases h
  rename_i t1 S1 h1
  obtain ⟨e1,p1,p2,p3⟩:=z9t hs ca t _ _ _ _ _ hrel h1
  rw [p1]
  rw [← p3] at h
  simp only
  split at h <;> try cases h
  rename_i t2 S2 h2
  obtain ⟨e2,r1,r2,r3⟩:=z9t hs cb t1 _ _ _ _ _ p2 h2
  rw [r1]
  rw [← r3,y5w r2] at h
  simp only
  split at h <;> try cases h
  rename_i gd x y hp
  rw [hp]
  simp only
  split at h <;> try cases h
  rename_i hd1
  rw [if_pos hd1]
  obtain ⟨t3,h,u3⟩:=y9f r2 h
  have l3:(z1m e2 (some d1) (.fn (.func gd) x y)).length = e2.length:=z3f _ _ _
  (try simp only at h)
  rw [← l3] at h
  obtain ⟨t4,h,u4⟩:=y9f u3 h
  have l4:(z1m (z1m e2 (some d1) (.fn (.func gd) x y)) o2.dst (.tup [])).length = (z1m e2 (some d1) (.fn (.func gd) x y)).length:=z3f _ _ _
  (try simp only at h)
  rw [← l4] at h
  split at h <;> try cases h
  all_goals
    rename_i h5
    obtain ⟨e5,v1,v2,v3⟩:=z9t hs rest t4 _ _ _ _ _ u4 h5
    rw [v1]
    simp only [y1g v2] at h ⊢
    exact h
end Go.Ev
