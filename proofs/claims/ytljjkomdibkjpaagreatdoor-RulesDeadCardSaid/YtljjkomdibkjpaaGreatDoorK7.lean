/- Contracts of functions of the program and of the reference. -/

set_option linter.unusedVariables false
set_option linter.unusedSimpArgs false
set_option linter.unusedVariables false
namespace Go.Ev
def gN (l:List Nat) (j:Nat):Nat:=l.getD j 0
def sw (l:List Nat) (i j:Nat):List Nat:=(l.set i (gN l j)).set j (gN l i)
section
variable (lt:Nat→Nat→Bool)
def y16 (a:Nat):Nat→List Nat→List Nat
 | 0,l=>l
 | j + 1,l=>if a < j + 1∧lt (gN l (j + 1)) (gN l j) = true then y16 a j (sw l (j + 1) j) else l
def y3w (a:Nat):Nat→Nat→List Nat→List Nat
 | 0,_,l=>l
 | d + 1,i,l=>y3w a d (i + 1) (y16 lt a i l)
def z4i (a b:Nat) (l:List Nat):List Nat:=y3w lt a (b - (a + 1)) (a + 1) l
end
def swN (a b:Nat):Nat→Nat→List Nat→List Nat
 | 0,_,l=>l
 | d + 1,i,l=>swN a b d (i + 1) (sw l (a + i) (b + i))
def swR (a b n:Nat) (l:List Nat):List Nat:=swN a b n 0 l
def rot (m:Nat):Nat→Nat→Nat→List Nat→List Nat
 | 0,_,_,l=>l
 | f + 1,i,j,l=>if i = j then swR (m - i) m i l else if j < i then rot m f (i - j) j (swR (m - i) m j l) else rot m f i (j - i) (swR (m - i) (m + j - i) i l)
def y53 (a m b:Nat) (l:List Nat):List Nat:=rot m (b - a) (m - a) (b - m) l
def bs (P:Nat→Bool):Nat→Nat→Nat→Nat
 | 0,i,_=>i
 | f + 1,i,j=>if i < j then (if P ((i + j) / 2) = true then bs P f i ((i + j) / 2) else bs P f ((i + j) / 2 + 1) j) else i
def upN:Nat→Nat→List Nat→List Nat
 | 0,_,l=>l
 | d + 1,k,l=>upN d (k + 1) (sw l k (k + 1))
def dnN:Nat→Nat→List Nat→List Nat
 | 0,_,l=>l
 | d + 1,k,l=>dnN d (k - 1) (sw l k (k - 1))
section
variable (lt:Nat→Nat→Bool)
def smS (a m b:Nat):Nat:=if (a + b) / 2 < m then (a + b) / 2 + m - b else a
def smE (a m b:Nat):Nat:=if (a + b) / 2 < m then (a + b) / 2 else m
def z0v (a m b:Nat) (l:List Nat):Nat:=bs (fun c=>lt (gN l ((a + b) / 2 + m - 1 - c)) (gN l c)) (smE a m b - smS a m b) (smS a m b) (smE a m b)
def z3a (m st en:Nat) (l:List Nat):List Nat:=if st < m∧m < en then y53 st m en l else l
def smg:Nat→Nat→Nat→Nat→List Nat→List Nat
 | 0,_,_,_,l=>l
 | f + 1,a,m,b,l =>
  if m - a = 1 then upN (bs (fun h=>!lt (gN l h) (gN l a)) (b - m) m b - 1 - a) a l
  else if b - m = 1 then dnN (m - bs (fun h=>lt (gN l m) (gN l h)) (m - a) a m) m l
  else
   let st:=z0v lt a m b l
   let en:=(a + b) / 2 + m - st
   let l1:=z3a m st en l
   let l2:=if a < st∧st < (a + b) / 2 then smg f a st ((a + b) / 2) l1 else l1
   if (a + b) / 2 < en∧en < b then smg f ((a + b) / 2) en b l2 else l2
def z8l (n:Nat) (l:List Nat):List Nat :=
 if n < 20 then z4i lt 0 n l else
 if 20 < n then smg lt n 0 20 n (z4i lt 20 n (z4i lt 0 20 l)) else z4i lt 20 n (z4i lt 0 20 l)
end

theorem z6z (l:List Nat) (i j:Nat):(sw l i j).length = l.length:=by simp [sw]
theorem x45 {l:List Nat} {i j:Nat} (hi:i < l.length) (hj:j < l.length) (x:Nat):gN (sw l i j) x = if x = j then gN l i else if x = i then gN l j else gN l x:=by
 simp only [gN,sw,List.getD_eq_getElem?_getD,List.getElem?_set,List.length_set]
 by_cases h1:x = j
 ·subst h1; simp [hj]
 ·rw [if_neg h1,if_neg (show ¬ j = x from fun h=>h1 h.symm)]
  by_cases h2:x = i
  ·subst h2; simp [hi]
  ·rw [if_neg h2,if_neg (show ¬ i = x from fun h=>h2 h.symm)]
theorem y1t {l:List Nat} {i j:Nat} (hi:i < l.length) (hj:j < l.length):(sw l i j).Perm l:=by
 have:=List.set_set_perm (as:=l) hi hj
 simpa [sw,gN,List.getD_eq_getElem?_getD,List.getElem?_eq_getElem hi,List.getElem?_eq_getElem hj] using this
section
variable (lt:Nat→Nat→Bool)
theorem y1y (a:Nat):∀ (j:Nat) (l:List Nat),j < l.length→(y16 lt a j l).Perm l
 | 0,l,h=>List.Perm.refl _
 | j + 1,l,h=>by
  simp only [y16]
  split
  ·exact (y1y a j _ (by rw [z6z]; omega)).trans (y1t h (by omega))
  ·exact List.Perm.refl _
theorem y7t (a:Nat):∀ (d i:Nat) (l:List Nat),i + d ≤ l.length→(y3w lt a d i l).Perm l
 | 0,i,l,h=>List.Perm.refl _
 | d + 1,i,l,h=>by
  have h1:=y1y lt a i l (by omega)
  exact (y7t a d (i + 1) _ (by rw [h1.length_eq]; omega)).trans h1
theorem z78 {a b:Nat} {l:List Nat} (h:b ≤ l.length):(z4i lt a b l).Perm l:=by
 unfold z4i
 rcases Nat.lt_or_ge (a + 1) b with h1 | h1
 ·exact y7t lt a _ _ l (by omega)
 ·rw [Nat.sub_eq_zero_of_le h1]; exact List.Perm.refl _
end
theorem y83 (a b:Nat):∀ (d i:Nat) (l:List Nat),a + i + d ≤ l.length→b + i + d ≤ l.length→(swN a b d i l).Perm l
 | 0,i,l,h1,h2=>List.Perm.refl _
 | d + 1,i,l,h1,h2=>(y83 a b d (i + 1) _ (by rw [z6z]; omega) (by rw [z6z]; omega)).trans (y1t (by omega) (by omega))
theorem z8z {a b n:Nat} {l:List Nat} (h1:a + n ≤ l.length) (h2:b + n ≤ l.length):(swR a b n l).Perm l:=y83 a b n 0 l (by omega) (by omega)
theorem y5m (m:Nat):∀ (f i j:Nat) (l:List Nat),i ≤ m→m + j ≤ l.length→(rot m f i j l).Perm l
 | 0,i,j,l,h1,h2=>List.Perm.refl _
 | f + 1,i,j,l,h1,h2=>by
  simp only [rot]
  split
  ·exact z8z (by omega) (by omega)
  ·split
   ·have hp:(swR (m - i) m j l).Perm l:=z8z (by omega) (by omega)
    exact (y5m m f (i - j) j _ (by omega) (by rw [hp.length_eq]; omega)).trans hp
   ·have hp:(swR (m - i) (m + j - i) i l).Perm l:=z8z (by omega) (by omega)
    exact (y5m m f i (j - i) _ (by omega) (by rw [hp.length_eq]; omega)).trans hp
theorem y7n {a m b:Nat} {l:List Nat} (h1:a ≤ m) (h2:m ≤ b) (h3:b ≤ l.length):(y53 a m b l).Perm l:=y5m m _ _ _ l (by omega) (by omega)
theorem y8z:∀ (d k:Nat) (l:List Nat),k + d < l.length→(upN d k l).Perm l
 | 0,k,l,h=>List.Perm.refl _
 | d + 1,k,l,h=>(y8z d (k + 1) _ (by rw [z6z]; omega)).trans (y1t (by omega) (by omega))
theorem y99:∀ (d k:Nat) (l:List Nat),k < l.length→(dnN d k l).Perm l
 | 0,k,l,h=>List.Perm.refl _
 | d + 1,k,l,h=>(y99 d (k - 1) _ (by rw [z6z]; omega)).trans (y1t (by omega) (by omega))
theorem y1o (P:Nat→Bool):∀ (f i j:Nat),i ≤ j→i ≤ bs P f i j∧bs P f i j ≤ j
 | 0,i,j,h=>⟨Nat.le_refl _,h⟩
 | f + 1,i,j,h=>by
  simp only [bs]
  split
  ·split
   ·have:=y1o P f i ((i + j) / 2) (by omega); omega
   ·have:=y1o P f ((i + j) / 2 + 1) j (by omega); omega
  ·omega
section
variable (lt:Nat→Nat→Bool)
theorem y60 {a m b:Nat} (h1:a < m) (h2:m < b):a ≤ smS a m b∧smS a m b ≤ smE a m b∧smE a m b ≤ m∧smE a m b ≤ (a + b) / 2∧(a + b) / 2 + m - smS a m b ≤ b:=by
 unfold smS smE; split <;> omega
theorem y0x {a m b:Nat} (h1:a < m) (h2:m < b) (l:List Nat):smS a m b ≤ z0v lt a m b l∧z0v lt a m b l ≤ smE a m b:=y1o _ _ _ _ (y60 h1 h2).2.1
theorem y75 {m st en:Nat} {l:List Nat} (h3:en ≤ l.length):(z3a m st en l).Perm l:=by
 unfold z3a
 split
 ·exact y7n (by omega) (by omega) h3
 ·exact List.Perm.refl _
theorem y00:∀ (f a m b:Nat) (l:List Nat),a < m→m < b→b ≤ l.length→(smg lt f a m b l).Perm l
 | 0,a,m,b,l,h1,h2,h3=>List.Perm.refl _
 | f + 1,a,m,b,l,h1,h2,h3=>by
  simp only [smg]
  split
  ·have:=y1o (fun h=>!lt (gN l h) (gN l a)) (b - m) m b (by omega)
   exact y8z _ _ l (by omega)
  ·split
   ·exact y99 _ _ l (by omega)
   ·have hb:=y60 h1 h2
    have hs:=y0x lt h1 h2 l
    generalize z0v lt a m b l = st at hs ⊢
    have hp:(z3a m st ((a + b) / 2 + m - st) l).Perm l:=y75 (by omega)
    generalize z3a m st ((a + b) / 2 + m - st) l = l1 at hp ⊢
    have hl:=hp.length_eq
    have hp2:(if a < st∧st < (a + b) / 2 then smg lt f a st ((a + b) / 2) l1 else l1).Perm l:=by
     split
     ·exact (y00 f _ _ _ l1 (by omega) (by omega) (by omega)).trans hp
     ·exact hp
    generalize (if a < st∧st < (a + b) / 2 then smg lt f a st ((a + b) / 2) l1 else l1) = l2 at hp2 ⊢
    have hl2:=hp2.length_eq
    split
    ·exact (y00 f _ _ _ l2 (by omega) (by omega) (by omega)).trans hp2
    ·exact hp2
theorem x3s {n:Nat} {l:List Nat} (h:l.length = n):(z8l lt n l).Perm l:=by
 unfold z8l
 have h1:∀ b,b ≤ n→(z4i lt 0 b l).Perm l:=fun b hb=>z78 lt (by omega)
 split
 ·exact h1 n (Nat.le_refl _)
 ·have h2:=h1 20 (by omega)
  have h3:(z4i lt 20 n (z4i lt 0 20 l)).Perm l:=(z78 lt (by rw [h2.length_eq]; omega)).trans h2
  split
  ·exact (y00 lt n 0 20 n _ (by omega) (by omega) (by rw [h3.length_eq]; omega)).trans h3
  ·exact h3
end
end Go.Ev
set_option linter.unusedVariables false
namespace Go.Ev
def SO (L:Nat→Nat→Prop) (l:List Nat) (a b:Nat):Prop:=∀ x y,a ≤ x→x < y→y < b→L (gN l x) (gN l y)
theorem y7i (P:Nat→Bool):∀ (f i j:Nat),i ≤ j→j - i ≤ f→(∀ x y,i ≤ x→x ≤ y→y < j→P x = true→P y = true) →
  (∀ x,i ≤ x→x < bs P f i j→P x = false)∧(∀ x,bs P f i j ≤ x→x < j→P x = true)
 | 0,i,j,h1,h2,hm=>⟨fun x hx hy=>by simp only [bs] at hy; omega,fun x hx hy=>by simp only [bs] at hx; omega⟩
 | f + 1,i,j,h1,h2,hm=>by
  simp only [bs]
  split
  ·rename_i hlt
   split
   ·rename_i hP
    have hb:=y1o P f i ((i + j) / 2) (by omega)
    obtain ⟨q1,q2⟩:=y7i P f i ((i + j) / 2) (by omega) (by omega) (fun x y a b c=>hm x y a b (by omega))
    refine ⟨q1,fun x hx hy=>?_⟩
    rcases Nat.lt_or_ge x ((i + j) / 2) with h | h
    ·exact q2 x hx h
    ·exact hm _ x (by omega) h hy hP
   ·rename_i hP
    have hb:=y1o P f ((i + j) / 2 + 1) j (by omega)
    obtain ⟨q1,q2⟩:=y7i P f ((i + j) / 2 + 1) j (by omega) (by omega) (fun x y a b c=>hm x y (by omega) b c)
    refine ⟨fun x hx hy=>?_,q2⟩
    rcases Nat.lt_or_ge ((i + j) / 2) x with h | h
    ·exact q1 x (by omega) hy
    ·cases hx2:P x with
     | false=>rfl
     | true=>exact absurd (hm x _ hx h (by omega) hx2) hP
  ·exact ⟨fun x hx hy=>by omega,fun x hx hy=>by omega⟩
theorem x8f:∀ (d k:Nat) (l:List Nat),k + d < l.length→∀ x,gN (upN d k l) x = if k ≤ x∧x < k + d then gN l (x + 1) else if x = k + d then gN l k else gN l x
 | 0,k,l,h,x=>by
  simp only [upN]
  rw [if_neg (by omega)]
  split
  ·rename_i hx; rw [hx]; rfl
  ·rfl
 | d + 1,k,l,h,x=>by
  have hs:=x45 (l:=l) (i:=k) (j:=k + 1) (by omega) (by omega)
  simp only [upN]
  rw [x8f d (k + 1) _ (by rw [z6z]; omega) x]
  simp only [hs]
  repeat' split
  all_goals first
   | rfl
   | (exfalso; omega)
   | (exfalso; simp only [not_true_eq_false] at *; done)
   | (congr 1; omega)
theorem x9e:∀ (d k:Nat) (l:List Nat),d ≤ k→k < l.length→∀ x,gN (dnN d k l) x = if k - d < x∧x ≤ k then gN l (x - 1) else if x = k - d then gN l k else gN l x
 | 0,k,l,hd,h,x=>by
  simp only [dnN]
  rw [if_neg (by omega)]
  split
  ·rename_i hx; rw [hx]; rfl
  ·rfl
 | d + 1,k,l,hd,h,x=>by
  have hs:=x45 (l:=l) (i:=k) (j:=k - 1) (by omega) (by omega)
  simp only [dnN]
  rw [x9e d (k - 1) _ (by omega) (by rw [z6z]; omega) x]
  simp only [hs]
  repeat' split
  all_goals first
   | rfl
   | (exfalso; omega)
   | (exfalso; simp only [not_true_eq_false] at *; done)
   | (congr 1; omega)
theorem x8i (a b:Nat):∀ (d i:Nat) (l:List Nat),a + i + d ≤ b + i→b + i + d ≤ l.length→∀ x,gN (swN a b d i l) x = if a + i ≤ x∧x < a + i + d then gN l (x + b - a) else if b + i ≤ x∧x < b + i + d then gN l (x + a - b) else gN l x
 | 0,i,l,h1,h2,x=>by
  simp only [swN]
  rw [if_neg (by omega),if_neg (by omega)]
 | d + 1,i,l,h1,h2,x=>by
  have hs:=x45 (l:=l) (i:=a + i) (j:=b + i) (by omega) (by omega)
  simp only [swN]
  rw [x8i a b d (i + 1) _ (by omega) (by rw [z6z]; omega) x]
  simp only [hs]
  repeat' split
  all_goals first
   | rfl
   | (exfalso; omega)
   | (congr 1; omega)
theorem x28 {a b n:Nat} {l:List Nat} (h1:a + n ≤ b) (h2:b + n ≤ l.length) (x:Nat):gN (swR a b n l) x = if a ≤ x∧x < a + n then gN l (x + b - a) else if b ≤ x∧x < b + n then gN l (x + a - b) else gN l x:=x8i a b n 0 l (by omega) (by omega) x
theorem x29 (m:Nat):∀ (f i j:Nat) (l:List Nat),0 < i→0 < j→i + j ≤ f→i ≤ m→m + j ≤ l.length→∀ x,gN (rot m f i j l) x = if m - i ≤ x∧x < m - i + j then gN l (x + i) else if m - i + j ≤ x∧x < m + j then gN l (x - j) else gN l x
 | 0,i,j,l,h1,h2,h3,h4,h5,x=>by omega
 | f + 1,i,j,l,h1,h2,h3,h4,h5,x=>by
  simp only [rot]
  split
  ·rename_i hij
   rw [x28 (by omega) (by omega)]
   repeat' split
   all_goals first
    | rfl
    | (exfalso; omega)
    | (congr 1; omega)
  ·split
   ·have hs:=x28 (a:=m - i) (b:=m) (n:=j) (l:=l) (by omega) (by omega)
    rw [x29 m f (i - j) j _ (by omega) h2 (by omega) (by omega) (by rw [(z8z (by omega) (by omega)).length_eq]; omega)]
    simp only [hs]
    repeat' split
    all_goals first
     | rfl
     | (exfalso; omega)
     | (congr 1; omega)
   ·have hs:=x28 (a:=m - i) (b:=m + j - i) (n:=i) (l:=l) (by omega) (by omega)
    rw [x29 m f i (j - i) _ h1 (by omega) (by omega) (by omega) (by rw [(z8z (by omega) (by omega)).length_eq]; omega)]
    simp only [hs]
    repeat' split
    all_goals first
     | rfl
     | (exfalso; omega)
     | (congr 1; omega)
theorem w0u {m st en:Nat} {l:List Nat} (h1:st ≤ m) (h2:m ≤ en) (h3:en ≤ l.length) (x:Nat):gN (z3a m st en l) x = if st ≤ x∧x < st + (en - m) then gN l (x + (m - st)) else if st + (en - m) ≤ x∧x < en then gN l (x - (en - m)) else gN l x:=by
 unfold z3a
 split
 ·unfold y53
  rw [x29 m _ _ _ _ (by omega) (by omega) (by omega) (by omega) (by omega)]
  repeat' split
  all_goals first
   | rfl
   | (exfalso; omega)
   | (congr 1; omega)
 ·repeat' split
  all_goals first
   | rfl
   | (exfalso; omega)
   | (congr 1; omega)

section
variable (lt:Nat→Nat→Bool) (L:Nat→Nat→Prop) (htr:∀ {x y z},L x y→L y z→L x z) (has:∀ {x y},L x y→L y x→False)
def CrL (u v:Nat):Prop:=(lt v u = true→L v u)∧(lt v u = false→L u v)
def Kp (l l':List Nat) (a b:Nat):Prop:=(∀ x,x < a ∨ b ≤ x→gN l' x = gN l x)∧∀ x,a ≤ x→x < b→∃ y,a ≤ y∧y < b∧gN l' x = gN l y
include htr
theorem x8x {a i:Nat}:∀ (j:Nat) (l:List Nat),a ≤ j→j ≤ i→i < l.length→(∀ x y,a ≤ x→x < y→y ≤ i→x ≠ j→y ≠ j→L (gN l x) (gN l y))→(∀ y,j < y→y ≤ i→L (gN l j) (gN l y))→(∀ x,a ≤ x→x ≤ i→x ≠ j→CrL lt L (gN l x) (gN l j)) →
  SO L (y16 lt a j l) a (i + 1)∧Kp l (y16 lt a j l) a (i + 1)
 | 0,l,h1,h2,h3,q1,q2,q3=>by
  simp only [y16]
  refine ⟨fun x y hx hy hz=>?_,fun x hx=>rfl,fun x hx hy=>⟨x,hx,hy,rfl⟩⟩
  rcases Nat.eq_zero_or_pos x with rfl | h
  ·exact q2 y hy (by omega)
  ·exact q1 x y hx hy (by omega) (by omega) (by omega)
 | j + 1,l,h1,h2,h3,q1,q2,q3=>by
  simp only [y16]
  split
  ·rename_i hc
   have hs:=x45 (l:=l) (i:=j + 1) (j:=j) (by omega) (by omega)
   have hL:=(q3 j (by omega) (by omega) (by omega)).1 hc.2
   obtain ⟨r1,r2,r3⟩:=x8x (a:=a) (i:=i) j (sw l (j + 1) j) (by have:=hc.1; omega) (by omega) (by rw [z6z]; omega)
    (fun x y hx hy hz n1 n2=>by
     rw [hs,hs,if_neg n1,if_neg n2]
     split
     ·rw [if_neg (show ¬ y = j + 1 by omega)]
      exact q1 j y (by omega) (by omega) hz (by omega) (by omega)
     ·split
      ·exact q1 x j hx (by omega) (by omega) (by omega) (by omega)
      ·exact q1 x y hx hy hz (by assumption) (by assumption))
    (fun y hy hz=>by
     rw [hs,hs,if_pos rfl,if_neg (show ¬ y = j by omega)]
     split
     ·exact hL
     ·exact q2 y (by omega) hz)
    (fun x hx hy hz=>by
     rw [hs,hs,if_pos rfl,if_neg hz]
     split
     ·exact q3 j (by omega) (by omega) (by omega)
     ·exact q3 x hx hy (by assumption))
   refine ⟨r1,fun x hx=>?_,fun x hx hy=>?_⟩
   ·rw [r2 x hx,hs,if_neg (by omega),if_neg (by omega)]
   ·obtain ⟨y,y1,y2,y3⟩:=r3 x hx hy
    rw [hs] at y3
    split at y3
    ·exact ⟨j + 1,by omega,by omega,y3⟩
    ·split at y3
     ·exact ⟨j,by omega,by omega,y3⟩
     ·exact ⟨y,y1,y2,y3⟩
  ·rename_i hc
   have hlow:∀ x,a ≤ x→x < j + 1→L (gN l x) (gN l (j + 1)):=fun x hx hy=>by
    have hf:lt (gN l (j + 1)) (gN l j) = false:=by
     cases hb:lt (gN l (j + 1)) (gN l j) with
     | false=>rfl
     | true=>exact absurd ⟨by omega,hb⟩ hc
    have hj:=(q3 j (by omega) (by omega) (by omega)).2 hf
    rcases Nat.lt_or_ge x j with h | h
    ·exact htr (q1 x j hx h (by omega) (by omega) (by omega)) hj
    ·rw [show x = j by omega]; exact hj
   refine ⟨fun x y hx hy hz=>?_,fun x hx=>rfl,fun x hx hy=>⟨x,hx,hy,rfl⟩⟩
   by_cases e1:x = j + 1
   ·subst e1; exact q2 y hy (by omega)
   ·by_cases e2:y = j + 1
    ·subst e2; exact hlow x hx hy
    ·exact q1 x y hx hy (by omega) e1 e2
include has
theorem y74:∀ (f a m b:Nat) (l:List Nat),b - a ≤ f→a < m→m < b→b ≤ l.length→SO L l a m→SO L l m b→(∀ x y,a ≤ x→x < m→m ≤ y→y < b→CrL lt L (gN l x) (gN l y)) →
  SO L (smg lt f a m b l) a b∧Kp l (smg lt f a m b l) a b
 | 0,a,m,b,l,hf,h1,h2,h3,q1,q2,q3=>by omega
 | f + 1,a,m,b,l,hf,h1,h2,h3,q1,q2,q3=>by
  simp only [smg]
  split
  ·rename_i hma
   have hbd:=y1o (fun h=>!lt (gN l h) (gN l a)) (b - m) m b (by omega)
   obtain ⟨p1,p2⟩:=y7i (fun h=>!lt (gN l h) (gN l a)) (b - m) m b (by omega) (by omega) (fun x y hx hy hz hP=>by
    rcases Nat.eq_or_lt_of_le hy with rfl | hy
    ·exact hP
    ·simp only [Bool.not_eq_true'] at hP ⊢
     have l1:=(q3 a x (by omega) (by omega) hx (by omega)).2 hP
     have l2:=htr l1 (q2 x y hx hy hz)
     cases hb:lt (gN l y) (gN l a) with
     | false=>rfl
     | true=>exact (has l2 ((q3 a y (by omega) (by omega) (by omega) hz).1 hb)).elim)
   generalize bs (fun h=>!lt (gN l h) (gN l a)) (b - m) m b = i at *
   have hlo:∀ x,m ≤ x→x < i→L (gN l x) (gN l a):=fun x hx hy=>(q3 a x (by omega) (by omega) hx (by omega)).1 (by simpa using p1 x hx hy)
   have hhi:∀ x,i ≤ x→x < b→L (gN l a) (gN l x):=fun x hx hy=>(q3 a x (by omega) (by omega) (by omega) hy).2 (by simpa using p2 x hx hy)
   have hg:=x8f (i - 1 - a) a l (by omega)
   refine ⟨fun x y hx hy hz=>?_,fun x hx=>?_,fun x hx hy=>?_⟩
   ·rw [hg,hg]
    repeat' split
    all_goals first
     | (exfalso; omega)
     | exact q2 _ _ (by omega) (by omega) (by omega)
     | exact hlo _ (by omega) (by omega)
     | exact hhi _ (by omega) (by omega)
     | exact htr (hlo _ (by omega) (by omega)) (hhi _ (by omega) (by omega))
   ·rw [hg,if_neg (by omega),if_neg (by omega)]
   ·rw [hg]
    split
    ·exact ⟨x + 1,by omega,by omega,rfl⟩
    ·split
     ·exact ⟨a,by omega,by omega,rfl⟩
     ·exact ⟨x,hx,hy,rfl⟩
  ·split
   ·rename_i hbm
    have hbd:=y1o (fun h=>lt (gN l m) (gN l h)) (m - a) a m (by omega)
    obtain ⟨p1,p2⟩:=y7i (fun h=>lt (gN l m) (gN l h)) (m - a) a m (by omega) (by omega) (fun x y hx hy hz hP=>by
     rcases Nat.eq_or_lt_of_le hy with rfl | hy
     ·exact hP
     ·have l1:=(q3 x m hx (by omega) (Nat.le_refl _) h2).1 hP
      have l2:=htr l1 (q1 x y hx hy hz)
      show lt (gN l m) (gN l y) = true
      cases hb:lt (gN l m) (gN l y) with
      | true=>rfl
      | false=>exact (has l2 ((q3 y m (by omega) hz (Nat.le_refl _) h2).2 hb)).elim)
    generalize bs (fun h=>lt (gN l m) (gN l h)) (m - a) a m = i at *
    have hlo:∀ x,a ≤ x→x < i→L (gN l x) (gN l m):=fun x hx hy=>(q3 x m hx (by omega) (Nat.le_refl _) h2).2 (p1 x hx hy)
    have hhi:∀ x,i ≤ x→x < m→L (gN l m) (gN l x):=fun x hx hy=>(q3 x m (by omega) hy (Nat.le_refl _) h2).1 (p2 x hx hy)
    have hg:=x9e (m - i) m l (by omega) (by omega)
    refine ⟨fun x y hx hy hz=>?_,fun x hx=>?_,fun x hx hy=>?_⟩
    ·rw [hg,hg]
     repeat' split
     all_goals first
      | (exfalso; omega)
      | exact q1 _ _ (by omega) (by omega) (by omega)
      | exact hlo _ (by omega) (by omega)
      | exact hhi _ (by omega) (by omega)
      | exact htr (hlo _ (by omega) (by omega)) (hhi _ (by omega) (by omega))
    ·rw [hg,if_neg (by omega),if_neg (by omega)]
    ·rw [hg]
     split
     ·exact ⟨x - 1,by omega,by omega,rfl⟩
     ·split
      ·exact ⟨m,by omega,by omega,rfl⟩
      ·exact ⟨x,hx,hy,rfl⟩
   ·rename_i hma hbm
    have hb:=y60 h1 h2
    have hs:=y0x lt h1 h2 l
    have hsp:=y7i (fun c=>lt (gN l ((a + b) / 2 + m - 1 - c)) (gN l c)) (smE a m b - smS a m b) (smS a m b) (smE a m b) hb.2.1 (Nat.le_refl _) (fun x y hx hy hz hP=>by
     rcases Nat.eq_or_lt_of_le hy with rfl | hy
     ·exact hP
     ·show lt (gN l ((a + b) / 2 + m - 1 - y)) (gN l y) = true
      have l1:=(q3 x ((a + b) / 2 + m - 1 - x) (by omega) (by omega) (by omega) (by omega)).1 hP
      have l2:=htr (htr (q2 ((a + b) / 2 + m - 1 - y) ((a + b) / 2 + m - 1 - x) (by omega) (by omega) (by omega)) l1) (q1 x y (by omega) hy (by omega))
      cases hb:lt (gN l ((a + b) / 2 + m - 1 - y)) (gN l y) with
      | true=>rfl
      | false=>exact (has l2 ((q3 y ((a + b) / 2 + m - 1 - y) (by omega) (by omega) (by omega) (by omega)).2 hb)).elim)
    change (∀ x,smS a m b ≤ x→x < z0v lt a m b l→_)∧(∀ x,z0v lt a m b l ≤ x→x < smE a m b→_) at hsp
    have hSE:(smE a m b = (a + b) / 2∧smS a m b = (a + b) / 2 + m - b∧(a + b) / 2 < m) ∨ (smE a m b = m∧smS a m b = a∧m ≤ (a + b) / 2):=by unfold smE smS; split <;> omega
    generalize z0v lt a m b l = st at hs hsp ⊢
    generalize smS a m b = s0 at *
    generalize smE a m b = r0 at *
    obtain ⟨p1,p2⟩:=hsp
    generalize hmid:(a + b) / 2 = mid at *
    generalize hen:mid + m - st = en at *
    have hg:=w0u (m:=m) (st:=st) (en:=en) (l:=l) (by omega) (by omega) (by omega)
    have hp1:(z3a m st en l).length = l.length:=(y75 (by omega)).length_eq
    generalize z3a m st en l = l1 at hg hp1 ⊢
    have e1:∀ x,a ≤ x→x < st→gN l1 x = gN l x:=fun x hx hy=>by rw [hg,if_neg (by omega),if_neg (by omega)]
    have e2:∀ x,st ≤ x→x < mid→gN l1 x = gN l (x + (m - st)):=fun x hx hy=>by rw [hg,if_pos (by omega)]
    have e3:∀ x,mid ≤ x→x < en→gN l1 x = gN l (x - (en - m)):=fun x hx hy=>by rw [hg,if_neg (by omega),if_pos (by omega)]
    have e4:∀ x,en ≤ x→x < b→gN l1 x = gN l x:=fun x hx hy=>by rw [hg,if_neg (by omega),if_neg (by omega)]
    -- low and high
    have cLR:∀ x y,a ≤ x→x < st→en ≤ y→y < b→L (gN l x) (gN l y):=fun x y hx hy hz hw=>by
     have l1:st - 1 ≥ s0:=by omega
     have l2:=p1 (st - 1) l1 (by omega)
     have l3:=(q3 (st - 1) (mid + m - 1 - (st - 1)) (by omega) (by omega) (by omega) (by omega)).2 l2
     rw [show mid + m - 1 - (st - 1) = en by omega] at l3
     have l4:L (gN l x) (gN l en):=by
      rcases Nat.eq_or_lt_of_le (show x ≤ st - 1 by omega) with h | h
      ·rw [h]; exact l3
      ·exact htr (q1 x (st - 1) hx h (by omega)) l3
     rcases Nat.eq_or_lt_of_le hz with h | h
     ·rw [← h]; exact l4
     ·exact htr l4 (q2 en y (by omega) h hw)
    have cRL:∀ x y,m ≤ x→x < en→st ≤ y→y < m→L (gN l x) (gN l y):=fun x y hx hy hz hw=>by
     have l2:=p2 st (Nat.le_refl _) (by omega)
     have l3:=(q3 st (mid + m - 1 - st) (by omega) (by omega) (by omega) (by omega)).1 l2
     rw [show mid + m - 1 - st = en - 1 by omega] at l3
     have l4:L (gN l x) (gN l st):=by
      rcases Nat.eq_or_lt_of_le (show x ≤ en - 1 by omega) with h | h
      ·rw [h]; exact l3
      ·exact htr (q2 x (en - 1) hx h (by omega)) l3
     rcases Nat.eq_or_lt_of_le hz with h | h
     ·rw [← h]; exact l4
     ·exact htr l4 (q1 st y (by omega) h hw)
    have half:∀ x y,a ≤ x→x < mid→mid ≤ y→y < b→L (gN l1 x) (gN l1 y):=fun x y hx hy hz hw=>by
     rcases Nat.lt_or_ge x st with h | h
     ·rw [e1 x hx h]
      rcases Nat.lt_or_ge y en with g | g
      ·rw [e3 y hz g]; exact q1 _ _ hx (by omega) (by omega)
      ·rw [e4 y g hw]; exact cLR x y hx h g hw
     ·rw [e2 x h hy]
      rcases Nat.lt_or_ge y en with g | g
      ·rw [e3 y hz g]; exact cRL _ _ (by omega) (by omega) (by omega) (by omega)
      ·rw [e4 y g hw]; exact q2 _ _ (by omega) (by omega) hw
    have k1:Kp l l1 a b:=by
     refine ⟨fun x hx=>by rw [hg,if_neg (by omega),if_neg (by omega)],fun x hx hy=>?_⟩
     rw [hg]
     split
     ·exact ⟨_,by omega,by omega,rfl⟩
     ·split
      ·exact ⟨_,by omega,by omega,rfl⟩
      ·exact ⟨x,hx,hy,rfl⟩
    -- the first half
    have hA:SO L (if a < st∧st < mid then smg lt f a st mid l1 else l1) a mid∧Kp l1 (if a < st∧st < mid then smg lt f a st mid l1 else l1) a mid:=by
     split
     ·exact y74 f a st mid l1 (by omega) (by omega) (by omega) (by omega)
       (fun x y hx hy hz=>by rw [e1 x hx (by omega),e1 y (by omega) hz]; exact q1 x y hx hy (by omega))
       (fun x y hx hy hz=>by rw [e2 x hx (by omega),e2 y (by omega) hz]; exact q2 _ _ (by omega) (by omega) (by omega))
       (fun x y hx hy hz hw=>by rw [e1 x hx hy,e2 y hz hw]; exact q3 _ _ hx (by omega) (by omega) (by omega))
     ·refine ⟨fun x y hx hy hz=>?_,fun x hx=>rfl,fun x hx hy=>⟨x,hx,hy,rfl⟩⟩
      rcases Nat.lt_or_ge a st with h | h
      ·rw [e1 x hx (by omega),e1 y (by omega) (by omega)]; exact q1 x y hx hy (by omega)
      ·rw [e2 x (by omega) (by omega),e2 y (by omega) hz]; exact q2 _ _ (by omega) (by omega) (by omega)
    have hAl:(if a < st∧st < mid then smg lt f a st mid l1 else l1).length = l.length:=by
     split
     ·rw [(y00 lt f a st mid l1 (by omega) (by omega) (by omega)).length_eq,hp1]
     ·exact hp1
    generalize (if a < st∧st < mid then smg lt f a st mid l1 else l1) = l2 at hA hAl ⊢
    obtain ⟨a1,a2,a3⟩:=hA
    have hB:SO L (if mid < en∧en < b then smg lt f mid en b l2 else l2) mid b∧Kp l2 (if mid < en∧en < b then smg lt f mid en b l2 else l2) mid b:=by
     split
     ·exact y74 f mid en b l2 (by omega) (by omega) (by omega) (by omega)
       (fun x y hx hy hz=>by rw [a2 x (by omega),a2 y (by omega),e3 x hx (by omega),e3 y (by omega) hz]; exact q1 _ _ (by omega) (by omega) (by omega))
       (fun x y hx hy hz=>by rw [a2 x (by omega),a2 y (by omega),e4 x hx (by omega),e4 y (by omega) hz]; exact q2 _ _ (by omega) hy hz)
       (fun x y hx hy hz hw=>by rw [a2 x (by omega),a2 y (by omega),e3 x hx hy,e4 y hz hw]; exact q3 _ _ (by omega) (by omega) (by omega) hw)
     ·refine ⟨fun x y hx hy hz=>?_,fun x hx=>rfl,fun x hx hy=>⟨x,hx,hy,rfl⟩⟩
      rw [a2 x (by omega),a2 y (by omega)]
      rcases Nat.lt_or_ge mid en with h | h
      ·rw [e3 x hx (by omega),e3 y (by omega) (by omega)]; exact q1 _ _ (by omega) (by omega) (by omega)
      ·rw [e4 x (by omega) (by omega),e4 y (by omega) hz]; exact q2 _ _ (by omega) hy hz
    generalize (if mid < en∧en < b then smg lt f mid en b l2 else l2) = l3 at hB ⊢
    obtain ⟨b1,b2,b3⟩:=hB
    refine ⟨fun x y hx hy hz=>?_,fun x hx=>?_,fun x hx hy=>?_⟩
    ·rcases Nat.lt_or_ge y mid with g | g
     ·rw [b2 x (by omega),b2 y (by omega)]; exact a1 x y hx hy g
     ·rcases Nat.lt_or_ge x mid with h | h
      ·rw [b2 x (by omega)]
       obtain ⟨x',x1,x2,x3⟩:=a3 x hx h
       obtain ⟨y',y1,y2,y3⟩:=b3 y g hz
       rw [x3,y3,a2 y' (by omega)]
       exact half x' y' x1 x2 y1 y2
      ·exact b1 x y h hy hz
    ·rw [b2 x (by omega),a2 x (by omega)]; exact k1.1 x hx
    ·rcases Nat.lt_or_ge x mid with h | h
     ·rw [b2 x (by omega)]
      obtain ⟨x',x1,x2,x3⟩:=a3 x hx h
      obtain ⟨z,z1,z2,z3⟩:=k1.2 x' x1 (by omega)
      exact ⟨z,z1,z2,by rw [x3,z3]⟩
     ·obtain ⟨y',y1,y2,y3⟩:=b3 x h hy
      obtain ⟨z,z1,z2,z3⟩:=k1.2 y' (by omega) y2
      exact ⟨z,z1,z2,by rw [y3,a2 y' (by omega),z3]⟩
end
end Go.Ev
set_option linter.unusedVariables false
namespace Go.Ev
section
variable (lt:Nat→Nat→Bool) (L:Nat→Nat→Prop) (htr:∀ {x y z},L x y→L y z→L x z) (has:∀ {x y},L x y→L y x→False) (hlt:∀ {u v:Nat},u < v→CrL lt L u v)
include htr hlt
theorem x8w {a b:Nat}:∀ (d i:Nat) (l:List Nat),a ≤ i→i + d = b→b ≤ l.length→SO L l a i→(∀ x,a ≤ x→x < i→a ≤ gN l x∧gN l x < i)→(∀ x,i ≤ x→x < b→gN l x = x) →
  SO L (y3w lt a d i l) a b∧(∀ x,x < a ∨ b ≤ x→gN (y3w lt a d i l) x = gN l x)∧∀ x,a ≤ x→x < b→a ≤ gN (y3w lt a d i l) x∧gN (y3w lt a d i l) x < b
 | 0,i,l,h1,h2,h3,q1,q2,q3=>by
  simp only [y3w]
  have:i = b:=by omega
  subst this
  exact ⟨q1,fun x hx=>trivial,q2⟩
 | d + 1,i,l,h1,h2,h3,q1,q2,q3=>by
  simp only [y3w]
  have hi:gN l i = i:=q3 i (Nat.le_refl _) (by omega)
  have hlen:=(y1y lt a i l (by omega)).length_eq
  obtain ⟨r1,r2,r3⟩:=x8x lt L htr (a:=a) (i:=i) i l h1 (Nat.le_refl _) (by omega)
   (fun x y hx hy hz n1 n2=>q1 x y hx hy (by omega))
   (fun y hy hz=>by omega)
   (fun x hx hy hz=>hlt (by rw [hi]; exact (q2 x hx (by omega)).2))
  generalize y16 lt a i l = l1 at *
  obtain ⟨s1,s2,s3⟩:=x8w (a:=a) (b:=b) d (i + 1) l1 (by omega) (by omega) (by omega) r1
   (fun x hx hy=>by
    obtain ⟨y,y1,y2,y3⟩:=r3 x hx hy
    rw [y3]
    rcases Nat.lt_or_ge y i with h | h
    ·have:=q2 y y1 h; omega
    ·rw [show y = i by omega,hi]; omega)
   (fun x hx hy=>by rw [r2 x (by omega)]; exact q3 x (by omega) hy)
  exact ⟨s1,fun x hx=>by rw [s2 x hx,r2 x (by omega)],s3⟩
theorem x3e {a b:Nat} {l:List Nat} (h:a < b) (hl:b ≤ l.length) (hid:∀ x,a ≤ x→x < b→gN l x = x) :
  SO L (z4i lt a b l) a b∧(∀ x,x < a ∨ b ≤ x→gN (z4i lt a b l) x = gN l x)∧∀ x,a ≤ x→x < b→a ≤ gN (z4i lt a b l) x∧gN (z4i lt a b l) x < b:=by
 unfold z4i
 exact x8w lt L htr hlt (b - (a + 1)) (a + 1) l (by omega) (by omega) hl (fun x y hx hy hz=>by omega)
  (fun x hx hy=>by have:=hid x hx (by omega); omega) (fun x hx hy=>hid x (by omega) hy)
include has
theorem x74 {n:Nat} {l:List Nat} (hn:l.length = n) (hid:∀ x,x < n→gN l x = x):SO L (z8l lt n l) 0 n:=by
 unfold z8l
 have nil:∀ m:List Nat,SO L m 0 0:=fun m x y hx hy hz=>by omega
 split
 ·rcases Nat.eq_zero_or_pos n with h | h
  ·subst h; exact nil _
  ·exact (x3e lt L htr hlt h (by omega) (fun x _ hx=>hid x hx)).1
 ·obtain ⟨a1,a2,a3⟩:=x3e lt L htr hlt (a:=0) (b:=20) (l:=l) (by omega) (by omega) (fun x _ hx=>hid x (by omega))
  have al:=(z78 lt (a:=0) (b:=20) (l:=l) (by omega)).length_eq
  generalize z4i lt 0 20 l = l1 at *
  rcases Nat.eq_or_lt_of_le (show 20 ≤ n by omega) with h | h
  ·subst h
   rw [if_neg (by omega)]
   have:z4i lt 20 20 l1 = l1:=rfl
   rw [this]; exact a1
  ·rw [if_pos h]
   obtain ⟨b1,b2,b3⟩:=x3e lt L htr hlt (a:=20) (b:=n) (l:=l1) h (by omega) (fun x hx hy=>by rw [a2 x (by omega)]; exact hid x hy)
   have bl:=(z78 lt (a:=20) (b:=n) (l:=l1) (by omega)).length_eq
   generalize z4i lt 20 n l1 = l2 at *
   exact (y74 lt L htr has n 0 20 n l2 (by omega) (by omega) h (by omega)
    (fun x y hx hy hz=>by rw [b2 x (by omega),b2 y (by omega)]; exact a1 x y hx hy hz) b1
    (fun x y hx hy hz hw=>hlt (by rw [b2 x (by omega)]; have:=(a3 x hx hy).2; have:=(b3 y hz hw).1; omega))).1
end

section
variable (rk:Nat→Int) (th bk:Nat→Bool)
def z2g:List Nat→Int→Int→Int→Int × Int
 | [],v,w,_=>(v,w)
 | i :: l,v,w,r=>if r > rk i then (v,w) else if (!th i && !bk i) = true then z2g l v w r else z2g l (if (th i && decide (v < 0)) = true then (i:Int) else v) (if (bk i && decide (w < 0)) = true then (i:Int) else w) (rk i)
def z62:List Nat→Int→Int→Int→Int × Int × Int
 | [],v,w,r=>(v,w,r)
 | i :: l,v,w,r=>if rk i < r then z62 l v w r else
  if ((th i || bk i) && decide (rk i > r)) = true then z62 l (if (th i && decide ((-1:Int) < 0)) = true then (i:Int) else -1) (if (bk i && decide ((-1:Int) < 0)) = true then (i:Int) else -1) (rk i)
  else z62 l (if (th i && decide (v < 0)) = true then (i:Int) else v) (if (bk i && decide (w < 0)) = true then (i:Int) else w) r
def Lst (S:List Nat) (t:Nat→Bool) (R v:Int):Prop:=(v = -1∧∀ i ∈ S,rk i = R→t i = false) ∨ ∃ i ∈ S,v = (i:Int)∧t i = true∧rk i = R∧∀ j ∈ S,rk j = R→t j = true→i ≤ j
structure DInv (S:List Nat) (v w R:Int):Prop where
 top:R = 0 ∨ ∃ i ∈ S,(th i || bk i) = true∧rk i = R
 le:∀ i ∈ S,(th i || bk i) = true→rk i ≤ R
 a:Lst rk S th R v
 b:Lst rk S bk R w
theorem Lst.congr {S S':List Nat} {t:Nat→Bool} {R v:Int} (h:Lst rk S t R v) (hs:∀ i,i ∈ S ↔ i ∈ S'):Lst rk S' t R v:=by
 rcases h with ⟨h1,h2⟩ | ⟨i,h1,h2,h3,h4,h5⟩
 ·exact .inl ⟨h1,fun i hi=>h2 i ((hs i).2 hi)⟩
 ·exact .inr ⟨i,(hs i).1 h1,h2,h3,h4,fun j hj=>h5 j ((hs j).2 hj)⟩
theorem Lst.add {S:List Nat} {t:Nat→Bool} {R v:Int} {i:Nat} (h:Lst rk S t R v) (hn:rk i = R→∀ j ∈ S,rk j = R→j < i) (hx:rk i ≠ R→t i = false):Lst rk (i :: S) t R (if (t i && decide (v < 0)) = true then (i:Int) else v):=by
 rcases h with ⟨h1,h2⟩ | ⟨k,h1,h2,h3,h4,h5⟩
 ·subst h1
  cases hti:t i with
  | false =>
   simp only [Bool.false_and,Bool.false_eq_true,if_false]
   refine .inl ⟨rfl,fun j hj hr=>?_⟩
   rcases List.mem_cons.1 hj with rfl | hj
   ·exact hti
   ·exact h2 j hj hr
  | true =>
   simp only [Bool.true_and]
   rw [if_pos (by decide)]
   have hR:rk i = R:=by
    rcases Decidable.em (rk i = R) with h | h
    ·exact h
    ·rw [hx h] at hti; cases hti
   refine .inr ⟨i,List.mem_cons_self,rfl,hti,hR,fun j hj hr htj=>?_⟩
   rcases List.mem_cons.1 hj with rfl | hj
   ·exact Nat.le_refl _
   ·rw [h2 j hj hr] at htj; cases htj
 ·have hv:¬ v < 0:=by omega
  rw [if_neg (by simp [hv])]
  refine .inr ⟨k,List.mem_cons_of_mem _ h1,h2,h3,h4,fun j hj hr htj=>?_⟩
  rcases List.mem_cons.1 hj with rfl | hj
  ·exact Nat.le_of_lt (hn hr k h1 h4)
  ·exact h5 j hj hr htj
theorem Lst.skip {S:List Nat} {t:Nat→Bool} {R v:Int} {i:Nat} (h:Lst rk S t R v) (hx:rk i = R→t i = false):Lst rk (i :: S) t R v:=by
 rcases h with ⟨h1,h2⟩ | ⟨k,h1,h2,h3,h4,h5⟩
 ·refine .inl ⟨h1,fun j hj hr=>?_⟩
  rcases List.mem_cons.1 hj with rfl | hj
  ·exact hx hr
  ·exact h2 j hj hr
 ·refine .inr ⟨k,List.mem_cons_of_mem _ h1,h2,h3,h4,fun j hj hr htj=>?_⟩
  rcases List.mem_cons.1 hj with rfl | hj
  ·rw [hx hr] at htj; cases htj
  ·exact h5 j hj hr htj
theorem y5z (hp:∀ i,0 < rk i):∀ (l S:List Nat) (v w R:Int),DInv rk th bk S v w R→(∀ i ∈ l,∀ j ∈ S,j < i)→l.Pairwise (· < ·) →
  DInv rk th bk (l.reverse++S) (z62 rk th bk l v w R).1 (z62 rk th bk l v w R).2.1 (z62 rk th bk l v w R).2.2
 | [],S,v,w,R,h,h1,h2=>h
 | i :: l,S,v,w,R,h,h1,h2=>by
  rw [List.pairwise_cons] at h2
  have hi:=h1 i List.mem_cons_self
  have hnext:∀ j ∈ l,∀ k ∈ i :: S,k < j:=fun j hj k hk=>by
   rcases List.mem_cons.1 hk with rfl | hk
   ·exact h2.1 j hj
   ·exact h1 j (List.mem_cons_of_mem _ hj) k hk
  have hrev:∀ x,x ∈ l.reverse++(i :: S) ↔ x ∈ (i :: l).reverse++S:=fun x=>by simp
  have lift:∀ {v w R'},DInv rk th bk (l.reverse++(i :: S)) v w R'→DInv rk th bk ((i :: l).reverse++S) v w R':=fun q =>
   ⟨by
    rcases q.top with q1 | ⟨k,k1,k2⟩
    ·exact .inl q1
    ·exact .inr ⟨k,(hrev k).1 k1,k2⟩,fun k hk=>q.le k ((hrev k).2 hk),q.a.congr rk hrev,q.b.congr rk hrev⟩
  have top':R = 0 ∨ ∃ k ∈ i :: S,(th k || bk k) = true∧rk k = R:=by
   rcases h.top with q1 | ⟨k,k1,k2⟩
   ·exact .inl q1
   ·exact .inr ⟨k,List.mem_cons_of_mem _ k1,k2⟩
  simp only [z62]
  by_cases hb:rk i < R
  ·rw [if_pos hb]
   exact lift (y5z hp l (i :: S) v w R ⟨top',fun k hk hf=>by
    rcases List.mem_cons.1 hk with rfl | hk
    ·omega
    ·exact h.le k hk hf,h.a.skip rk (fun he=>by omega),h.b.skip rk (fun he=>by omega)⟩ hnext h2.2)
  ·rw [if_neg hb]
   by_cases hc:((th i || bk i) && decide (rk i > R)) = true
   ·rw [if_pos hc]
    simp only [Bool.and_eq_true,decide_eq_true_eq] at hc
    have none:∀ k ∈ S,rk k = rk i→th k = false∧bk k = false:=fun k hk he=>by
     cases hk1:(th k || bk k) with
     | false=>simpa using hk1
     | true=>have:=h.le k hk hk1; omega
    have la:Lst rk S th (rk i) (-1):=.inl ⟨rfl,fun k hk he=>(none k hk he).1⟩
    have lb:Lst rk S bk (rk i) (-1):=.inl ⟨rfl,fun k hk he=>(none k hk he).2⟩
    exact lift (y5z hp l (i :: S) _ _ (rk i) ⟨.inr ⟨i,List.mem_cons_self,hc.1,rfl⟩,fun k hk hf=>by
     rcases List.mem_cons.1 hk with rfl | hk
     ·exact Int.le_refl _
     ·have:=h.le k hk hf; omega,la.add rk (fun _ j hj _=>hi j hj) (fun hn=>absurd rfl hn),lb.add rk (fun _ j hj _=>hi j hj) (fun hn=>absurd rfl hn)⟩ hnext h2.2)
   ·rw [if_neg hc]
    have hx:rk i ≠ R→th i = false∧bk i = false:=fun hn=>by
     cases hk1:(th i || bk i) with
     | false=>simpa using hk1
     | true=>rw [hk1] at hc; simp at hc; omega
    exact lift (y5z hp l (i :: S) _ _ R ⟨top',fun k hk hf=>by
     rcases List.mem_cons.1 hk with rfl | hk
     ·rcases Decidable.em (rk k = R) with h | h
      ·omega
      ·rw [(hx h).1,(hx h).2] at hf; cases hf
     ·exact h.le k hk hf,h.a.add rk (fun _ j hj _=>hi j hj) (fun hn=>(hx hn).1),h.b.add rk (fun _ j hj _=>hi j hj) (fun hn=>(hx hn).2)⟩ hnext h2.2)
theorem y34:∀ (l:List Nat) (v w R:Int),z2g rk bk th l w v R = ((z2g rk th bk l v w R).2,(z2g rk th bk l v w R).1)
 | [],v,w,R=>rfl
 | i :: l,v,w,R=>by
  simp only [z2g]
  by_cases h1:R > rk i
  ·simp only [if_pos h1]
  ·simp only [if_neg h1]
   rw [Bool.and_comm (!bk i)]
   by_cases h2:(!th i && !bk i) = true
   ·simp only [if_pos h2]; exact y34 l v w R
   ·simp only [if_neg h2]; exact y34 l _ _ _
end
end Go.Ev
