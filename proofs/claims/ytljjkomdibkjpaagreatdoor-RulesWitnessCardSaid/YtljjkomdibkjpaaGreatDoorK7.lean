/- Contracts of functions of the program and of the reference. -/

set_option linter.unusedVariables false
set_option linter.unusedSimpArgs false
set_option linter.unusedVariables false
namespace Go.Ev
def gN (l:List Nat) (j:Nat):Nat:=l.getD j 0
def sw (l:List Nat) (i j:Nat):List Nat:=(l.set i (gN l j)).set j (gN l i)
section
variable (lt:Nat→Nat→Bool)
def y16 (a:Nat):Nat→List Nat→List Nat
 | 0,l=>l
 | j + 1,l=>if a < j + 1∧lt (gN l (j + 1)) (gN l j) = true then y16 a j (sw l (j + 1) j) else l
def y3w (a:Nat):Nat→Nat→List Nat→List Nat
 | 0,_,l=>l
 | d + 1,i,l=>y3w a d (i + 1) (y16 lt a i l)
def z4i (a b:Nat) (l:List Nat):List Nat:=y3w lt a (b - (a + 1)) (a + 1) l
end
def swN (a b:Nat):Nat→Nat→List Nat→List Nat
 | 0,_,l=>l
 | d + 1,i,l=>swN a b d (i + 1) (sw l (a + i) (b + i))
def swR (a b n:Nat) (l:List Nat):List Nat:=swN a b n 0 l
def rot (m:Nat):Nat→Nat→Nat→List Nat→List Nat
 | 0,_,_,l=>l
 | f + 1,i,j,l=>if i = j then swR (m - i) m i l else if j < i then rot m f (i - j) j (swR (m - i) m j l) else rot m f i (j - i) (swR (m - i) (m + j - i) i l)
def y53 (a m b:Nat) (l:List Nat):List Nat:=rot m (b - a) (m - a) (b - m) l
def bs (P:Nat→Bool):Nat→Nat→Nat→Nat
 | 0,i,_=>i
 | f + 1,i,j=>if i < j then (if P ((i + j) / 2) = true then bs P f i ((i + j) / 2) else bs P f ((i + j) / 2 + 1) j) else i
def upN:Nat→Nat→List Nat→List Nat
 | 0,_,l=>l
 | d + 1,k,l=>upN d (k + 1) (sw l k (k + 1))
def dnN:Nat→Nat→List Nat→List Nat
 | 0,_,l=>l
 | d + 1,k,l=>dnN d (k - 1) (sw l k (k - 1))
section
variable (lt:Nat→Nat→Bool)
def smS (a m b:Nat):Nat:=if (a + b) / 2 < m then (a + b) / 2 + m - b else a
def smE (a m b:Nat):Nat:=if (a + b) / 2 < m then (a + b) / 2 else m
def z0v (a m b:Nat) (l:List Nat):Nat:=bs (fun c=>lt (gN l ((a + b) / 2 + m - 1 - c)) (gN l c)) (smE a m b - smS a m b) (smS a m b) (smE a m b)
def z3a (m st en:Nat) (l:List Nat):List Nat:=if st < m∧m < en then y53 st m en l else l
def smg:Nat→Nat→Nat→Nat→List Nat→List Nat
 | 0,_,_,_,l=>l
 | f + 1,a,m,b,l =>
  if m - a = 1 then upN (bs (fun h=>!lt (gN l h) (gN l a)) (b - m) m b - 1 - a) a l
  else if b - m = 1 then dnN (m - bs (fun h=>lt (gN l m) (gN l h)) (m - a) a m) m l
  else
   let st:=z0v lt a m b l
   let en:=(a + b) / 2 + m - st
   let l1:=z3a m st en l
   let l2:=if a < st∧st < (a + b) / 2 then smg f a st ((a + b) / 2) l1 else l1
   if (a + b) / 2 < en∧en < b then smg f ((a + b) / 2) en b l2 else l2
def z8l (n:Nat) (l:List Nat):List Nat :=
 if n < 20 then z4i lt 0 n l else
 if 20 < n then smg lt n 0 20 n (z4i lt 20 n (z4i lt 0 20 l)) else z4i lt 20 n (z4i lt 0 20 l)
end

theorem z6z (l:List Nat) (i j:Nat):(sw l i j).length = l.length:=by simp [sw]
theorem y1t {l:List Nat} {i j:Nat} (hi:i < l.length) (hj:j < l.length):(sw l i j).Perm l:=by
 have:=List.set_set_perm (as:=l) hi hj
 simpa [sw,gN,List.getD_eq_getElem?_getD,List.getElem?_eq_getElem hi,List.getElem?_eq_getElem hj] using this
section
variable (lt:Nat→Nat→Bool)
theorem y1y (a:Nat):∀ (j:Nat) (l:List Nat),j < l.length→(y16 lt a j l).Perm l
 | 0,l,h=>List.Perm.refl _
 | j + 1,l,h=>by
  simp only [y16]
  split
  ·exact (y1y a j _ (by rw [z6z]; omega)).trans (y1t h (by omega))
  ·exact List.Perm.refl _
theorem y7t (a:Nat):∀ (d i:Nat) (l:List Nat),i + d ≤ l.length→(y3w lt a d i l).Perm l
 | 0,i,l,h=>List.Perm.refl _
 | d + 1,i,l,h=>by
  have h1:=y1y lt a i l (by omega)
  exact (y7t a d (i + 1) _ (by rw [h1.length_eq]; omega)).trans h1
theorem z78 {a b:Nat} {l:List Nat} (h:b ≤ l.length):(z4i lt a b l).Perm l:=by
 unfold z4i
 rcases Nat.lt_or_ge (a + 1) b with h1 | h1
 ·exact y7t lt a _ _ l (by omega)
 ·rw [Nat.sub_eq_zero_of_le h1]; exact List.Perm.refl _
end
theorem y83 (a b:Nat):∀ (d i:Nat) (l:List Nat),a + i + d ≤ l.length→b + i + d ≤ l.length→(swN a b d i l).Perm l
 | 0,i,l,h1,h2=>List.Perm.refl _
 | d + 1,i,l,h1,h2=>(y83 a b d (i + 1) _ (by rw [z6z]; omega) (by rw [z6z]; omega)).trans (y1t (by omega) (by omega))
theorem z8z {a b n:Nat} {l:List Nat} (h1:a + n ≤ l.length) (h2:b + n ≤ l.length):(swR a b n l).Perm l:=y83 a b n 0 l (by omega) (by omega)
theorem y5m (m:Nat):∀ (f i j:Nat) (l:List Nat),i ≤ m→m + j ≤ l.length→(rot m f i j l).Perm l
 | 0,i,j,l,h1,h2=>List.Perm.refl _
 | f + 1,i,j,l,h1,h2=>by
  simp only [rot]
  split
  ·exact z8z (by omega) (by omega)
  ·split
   ·have hp:(swR (m - i) m j l).Perm l:=z8z (by omega) (by omega)
    exact (y5m m f (i - j) j _ (by omega) (by rw [hp.length_eq]; omega)).trans hp
   ·have hp:(swR (m - i) (m + j - i) i l).Perm l:=z8z (by omega) (by omega)
    exact (y5m m f i (j - i) _ (by omega) (by rw [hp.length_eq]; omega)).trans hp
theorem y7n {a m b:Nat} {l:List Nat} (h1:a ≤ m) (h2:m ≤ b) (h3:b ≤ l.length):(y53 a m b l).Perm l:=y5m m _ _ _ l (by omega) (by omega)
theorem y8z:∀ (d k:Nat) (l:List Nat),k + d < l.length→(upN d k l).Perm l
 | 0,k,l,h=>List.Perm.refl _
 | d + 1,k,l,h=>(y8z d (k + 1) _ (by rw [z6z]; omega)).trans (y1t (by omega) (by omega))
theorem y99:∀ (d k:Nat) (l:List Nat),k < l.length→(dnN d k l).Perm l
 | 0,k,l,h=>List.Perm.refl _
 | d + 1,k,l,h=>(y99 d (k - 1) _ (by rw [z6z]; omega)).trans (y1t (by omega) (by omega))
theorem y1o (P:Nat→Bool):∀ (f i j:Nat),i ≤ j→i ≤ bs P f i j∧bs P f i j ≤ j
 | 0,i,j,h=>⟨Nat.le_refl _,h⟩
 | f + 1,i,j,h=>by
  simp only [bs]
  split
  ·split
   ·have:=y1o P f i ((i + j) / 2) (by omega); omega
   ·have:=y1o P f ((i + j) / 2 + 1) j (by omega); omega
  ·omega
section
variable (lt:Nat→Nat→Bool)
theorem y60 {a m b:Nat} (h1:a < m) (h2:m < b):a ≤ smS a m b∧smS a m b ≤ smE a m b∧smE a m b ≤ m∧smE a m b ≤ (a + b) / 2∧(a + b) / 2 + m - smS a m b ≤ b:=by
 unfold smS smE; split <;> omega
theorem y0x {a m b:Nat} (h1:a < m) (h2:m < b) (l:List Nat):smS a m b ≤ z0v lt a m b l∧z0v lt a m b l ≤ smE a m b:=y1o _ _ _ _ (y60 h1 h2).2.1
theorem y75 {m st en:Nat} {l:List Nat} (h3:en ≤ l.length):(z3a m st en l).Perm l:=by
 unfold z3a
 split
 ·exact y7n (by omega) (by omega) h3
 ·exact List.Perm.refl _
theorem y00:∀ (f a m b:Nat) (l:List Nat),a < m→m < b→b ≤ l.length→(smg lt f a m b l).Perm l
 | 0,a,m,b,l,h1,h2,h3=>List.Perm.refl _
 | f + 1,a,m,b,l,h1,h2,h3=>by
  simp only [smg]
  split
  ·have:=y1o (fun h=>!lt (gN l h) (gN l a)) (b - m) m b (by omega)
   exact y8z _ _ l (by omega)
  ·split
   ·exact y99 _ _ l (by omega)
   ·have hb:=y60 h1 h2
    have hs:=y0x lt h1 h2 l
    generalize z0v lt a m b l = st at hs ⊢
    have hp:(z3a m st ((a + b) / 2 + m - st) l).Perm l:=y75 (by omega)
    generalize z3a m st ((a + b) / 2 + m - st) l = l1 at hp ⊢
    have hl:=hp.length_eq
    have hp2:(if a < st∧st < (a + b) / 2 then smg lt f a st ((a + b) / 2) l1 else l1).Perm l:=by
     split
     ·exact (y00 f _ _ _ l1 (by omega) (by omega) (by omega)).trans hp
     ·exact hp
    generalize (if a < st∧st < (a + b) / 2 then smg lt f a st ((a + b) / 2) l1 else l1) = l2 at hp2 ⊢
    have hl2:=hp2.length_eq
    split
    ·exact (y00 f _ _ _ l2 (by omega) (by omega) (by omega)).trans hp2
    ·exact hp2
theorem x3s {n:Nat} {l:List Nat} (h:l.length = n):(z8l lt n l).Perm l:=by
 unfold z8l
 have h1:∀ b,b ≤ n→(z4i lt 0 b l).Perm l:=fun b hb=>z78 lt (by omega)
 split
 ·exact h1 n (Nat.le_refl _)
 ·have h2:=h1 20 (by omega)
  have h3:(z4i lt 20 n (z4i lt 0 20 l)).Perm l:=(z78 lt (by rw [h2.length_eq]; omega)).trans h2
  split
  ·exact (y00 lt n 0 20 n _ (by omega) (by omega) (by rw [h3.length_eq]; omega)).trans h3
  ·exact h3
end
end Go.Ev
set_option linter.unusedVariables false
namespace Go.Ev
section
variable (lt:Nat→Nat→Bool) (L:Nat→Nat→Prop) (htr:∀ {x y z},L x y→L y z→L x z) (has:∀ {x y},L x y→L y x→False)
def CrL (u v:Nat):Prop:=(lt v u = true→L v u)∧(lt v u = false→L u v)
include htr
include has
end
end Go.Ev
set_option linter.unusedVariables false
namespace Go.Ev
section
variable (lt:Nat→Nat→Bool) (L:Nat→Nat→Prop) (htr:∀ {x y z},L x y→L y z→L x z) (has:∀ {x y},L x y→L y x→False) (hlt:∀ {u v:Nat},u < v→CrL lt L u v)
include htr hlt
include has
end

section
variable (rk:Nat→Int) (th bk:Nat→Bool)
def z2g:List Nat→Int→Int→Int→Int × Int
 | [],v,w,_=>(v,w)
 | i :: l,v,w,r=>if r > rk i then (v,w) else if (!th i && !bk i) = true then z2g l v w r else z2g l (if (th i && decide (v < 0)) = true then (i:Int) else v) (if (bk i && decide (w < 0)) = true then (i:Int) else w) (rk i)
def z62:List Nat→Int→Int→Int→Int × Int × Int
 | [],v,w,r=>(v,w,r)
 | i :: l,v,w,r=>if rk i < r then z62 l v w r else
  if ((th i || bk i) && decide (rk i > r)) = true then z62 l (if (th i && decide ((-1:Int) < 0)) = true then (i:Int) else -1) (if (bk i && decide ((-1:Int) < 0)) = true then (i:Int) else -1) (rk i)
  else z62 l (if (th i && decide (v < 0)) = true then (i:Int) else v) (if (bk i && decide (w < 0)) = true then (i:Int) else w) r
def Lst (S:List Nat) (t:Nat→Bool) (R v:Int):Prop:=(v = -1∧∀ i ∈ S,rk i = R→t i = false) ∨ ∃ i ∈ S,v = (i:Int)∧t i = true∧rk i = R∧∀ j ∈ S,rk j = R→t j = true→i ≤ j
structure DInv (S:List Nat) (v w R:Int):Prop where
 top:R = 0 ∨ ∃ i ∈ S,(th i || bk i) = true∧rk i = R
 le:∀ i ∈ S,(th i || bk i) = true→rk i ≤ R
 a:Lst rk S th R v
 b:Lst rk S bk R w
theorem Lst.congr {S S':List Nat} {t:Nat→Bool} {R v:Int} (h:Lst rk S t R v) (hs:∀ i,i ∈ S ↔ i ∈ S'):Lst rk S' t R v:=by
 rcases h with ⟨h1,h2⟩ | ⟨i,h1,h2,h3,h4,h5⟩
 ·exact .inl ⟨h1,fun i hi=>h2 i ((hs i).2 hi)⟩
 ·exact .inr ⟨i,(hs i).1 h1,h2,h3,h4,fun j hj=>h5 j ((hs j).2 hj)⟩
theorem Lst.add {S:List Nat} {t:Nat→Bool} {R v:Int} {i:Nat} (h:Lst rk S t R v) (hn:rk i = R→∀ j ∈ S,rk j = R→j < i) (hx:rk i ≠ R→t i = false):Lst rk (i :: S) t R (if (t i && decide (v < 0)) = true then (i:Int) else v):=by
 rcases h with ⟨h1,h2⟩ | ⟨k,h1,h2,h3,h4,h5⟩
 ·subst h1
  cases hti:t i with
  | false =>
   simp only [Bool.false_and,Bool.false_eq_true,if_false]
   refine .inl ⟨rfl,fun j hj hr=>?_⟩
   rcases List.mem_cons.1 hj with rfl | hj
   ·exact hti
   ·exact h2 j hj hr
  | true =>
   simp only [Bool.true_and]
   rw [if_pos (by decide)]
   have hR:rk i = R:=by
    rcases Decidable.em (rk i = R) with h | h
    ·exact h
    ·rw [hx h] at hti; cases hti
   refine .inr ⟨i,List.mem_cons_self,rfl,hti,hR,fun j hj hr htj=>?_⟩
   rcases List.mem_cons.1 hj with rfl | hj
   ·exact Nat.le_refl _
   ·rw [h2 j hj hr] at htj; cases htj
 ·have hv:¬ v < 0:=by omega
  rw [if_neg (by simp [hv])]
  refine .inr ⟨k,List.mem_cons_of_mem _ h1,h2,h3,h4,fun j hj hr htj=>?_⟩
  rcases List.mem_cons.1 hj with rfl | hj
  ·exact Nat.le_of_lt (hn hr k h1 h4)
  ·exact h5 j hj hr htj
theorem Lst.skip {S:List Nat} {t:Nat→Bool} {R v:Int} {i:Nat} (h:Lst rk S t R v) (hx:rk i = R→t i = false):Lst rk (i :: S) t R v:=by
 rcases h with ⟨h1,h2⟩ | ⟨k,h1,h2,h3,h4,h5⟩
 ·refine .inl ⟨h1,fun j hj hr=>?_⟩
  rcases List.mem_cons.1 hj with rfl | hj
  ·exact hx hr
  ·exact h2 j hj hr
 ·refine .inr ⟨k,List.mem_cons_of_mem _ h1,h2,h3,h4,fun j hj hr htj=>?_⟩
  rcases List.mem_cons.1 hj with rfl | hj
  ·rw [hx hr] at htj; cases htj
  ·exact h5 j hj hr htj
theorem y34:∀ (l:List Nat) (v w R:Int),z2g rk bk th l w v R = ((z2g rk th bk l v w R).2,(z2g rk th bk l v w R).1)
 | [],v,w,R=>rfl
 | i :: l,v,w,R=>by
  simp only [z2g]
  by_cases h1:R > rk i
  ·simp only [if_pos h1]
  ·simp only [if_neg h1]
   rw [Bool.and_comm (!bk i)]
   by_cases h2:(!th i && !bk i) = true
   ·simp only [if_pos h2]; exact y34 l v w R
   ·simp only [if_neg h2]; exact y34 l _ _ _
end
end Go.Ev
