/- A part of the proof. -/
import Derived.Test.YthhhbkkelnaekaaGreatDoorTd1
import Derived.Test.YthhhbkkelnaekaaGreatDoorP3
set_option linter.all false
set_option maxHeartbeats 8000000
set_option maxRecDepth 10000
namespace Go.Scarf
def Po (k:Str):Str:=107::Tg (.node 4 k [] [])
mutual
def Qe:Tree→List Str
  | .node k t ks xs=>if k=5 then Wg xs++[[91]] else if k=6 then Tf xs ks++[[123]] else [Tg (.node k t ks xs)]
def Wg:List Tree→List Str
  | []=>[]
  | x::xs=>Qe x++Wg xs
def Tf:List Tree→List Str→List Str
  | [],_=>[]
  | x::xs,ks=>Qe x++(Po (ks.headD [])::Tf xs ks.tail)
end
mutual
def Ag:Tree→Nat→List Int
  | .node k _ ks xs,b=>if k=5 then Zj xs b++[(b:Int)] else if k=6 then Jj xs ks b++[(b:Int)] else [(b:Int)]
def Zj:List Tree→Nat→List Int
  | [],_=>[]
  | x::xs,b=>Ag x b++Zj xs (b+(Qe x).length)
def Jj:List Tree→List Str→Nat→List Int
  | [],_,_=>[]
  | x::xs,ks,b=>Ag x b++((b:Int)::Jj xs ks.tail (b+(Qe x).length+1))
end
theorem Ky:∀ (xs:List Tree),(∀ x∈xs,∀ b,(Ag x b).length=(Qe x).length)→∀ b,(Zj xs b).length=(Wg xs).length
  | [],_,b=>by rw [Zj,Wg]; rfl
  | x::xs,h,b=>by rw [Zj,Wg,List.length_append,List.length_append,h x Ma,Ky xs (fun y hy=>h y (by simp [hy]))]
theorem Cz:∀ (xs:List Tree) (ks:List Str),(∀ x∈xs,∀ b,(Ag x b).length=(Qe x).length)→∀ b,(Jj xs ks b).length=(Tf xs ks).length
  | [],_,_,b=>by rw [Jj,Tf]; rfl
  | x :: xs, ks, h, b => by
    rw [Jj,Tf,List.length_append,List.length_append,List.length_cons,List.length_cons,h x Ma,Cz xs _ (fun y hy=>h y (by simp [hy]))]
theorem Wf (x:Tree):∀ b,(Ag x b).length=(Qe x).length:=Tree.ind (Q:=fun x=>∀ b,(Ag x b).length=(Qe x).length) (fun k t ks xs ih b=>by
  rw [Ag,Qe]
  split
  · rw [List.length_append,List.length_append,Ky xs ih]; rfl
  · split
    · rw [List.length_append,List.length_append,Cz xs ks ih]; rfl
    · rfl) x
theorem AA:∀ (xs:List Tree),(∀ x∈xs,(Qe x).length≤Oc x+Vn x)→(Wg xs).length≤Fd xs+Pm xs
  | [],_=>by rw [Wg]; simp
  | x :: xs, h => by
    have h1:=h x Ma
    have h2:=AA xs fun y hy=>h y (by simp [hy])
    rw [Wg,Fd,Pm,List.length_append]; omega
theorem LA:∀ (xs:List Tree) (ks:List Str),(∀ x∈xs,(Qe x).length≤Oc x+Vn x)→(Tf xs ks).length≤Fd xs+Pm xs+xs.length
  | [],_,_=>by rw [Tf]; simp
  | x :: xs, ks, h => by
    have h1:=h x Ma
    have h2:=LA xs ks.tail fun y hy=>h y (by simp [hy])
    rw [Tf,Fd,Pm,List.length_append,List.length_cons,List.length_cons]; omega
theorem XW (x:Tree):Fe nodeB x=true→(Qe x).length≤Oc x+Vn x:=Tree.ind (Q:=fun x=>Fe nodeB x=true→(Qe x).length≤Oc x+Vn x) (fun k t ks xs ih h=>by
  obtain ⟨hn,hx⟩:=Kg h
  rw [Qe,Oc,Vn]
  split
  · have := AA xs fun y hy => ih y hy (hx y hy)
    rw [List.length_append,List.length_singleton]; omega
  · split
    · rename_i h6
      subst h6
      have h2:=(Us hn).2
      have:=LA xs ks fun y hy=>ih y hy (hx y hy)
      rw [List.length_append,List.length_singleton]; omega
    · rw [List.length_singleton]; omega) x
theorem D1 (x:Tree):0 < (Qe x).length:=by
  obtain ⟨k,t,ks,xs⟩:=x
  rw [Qe]
  split
  · simp
  · split <;> simp
def Beh (fs:List Int) (b:Nat):Prop:=∀ j (h:j < fs.length),b≤j→(b:Int)≤fs[j]
theorem lfOk.more {fs gs:List Int} {n:Nat} (h:lfOk fs n) (hn:n≤fs.length):lfOk (fs++gs) n:=by
  intro j hj hjn
  have h1:=h j U hjn
  rw [List.getElem_append_left U]
  refine ⟨h1.1,h1.2.1,fun i hi hle=>?_⟩
  rw [List.getElem_append_left U]
  exact h1.2.2 i hi hle
theorem Beh.more {fs gs:List Int} {b c:Nat} (h:Beh fs b) (hc:Beh (fs++gs) c) (h1:b≤c) (h2:c≤fs.length):Beh (fs++gs) b:=by
  intro j hj hb
  by_cases e:j < fs.length
  · rw [List.getElem_append_left e]; exact h j e hb
  · have:=hc j hj U; omega
theorem L8 {fs:List Int} {b:Nat} (h:lfOk fs fs.length) (hb:Beh fs b) (hl:b≤fs.length):lfOk (fs++[(b:Int)]) (fs++[(b:Int)]).length∧Beh (fs++[(b:Int)]) b:=by
  have hlen:(fs++[(b:Int)]).length=fs.length+1:=by simp
  refine ⟨?_,fun j hj hbj=>?_⟩
  · rw [hlen]
    refine (h.more (gs:=[(b:Int)]) (Nat.le_refl _)).snoc U ?_ ?_ ?_
    · rw [List.getElem_append_right (Nat.le_refl _)]; simp
    · rw [List.getElem_append_right (Nat.le_refl _)]; simp; omega
    · intro z hz hle
      rw [List.getElem_append_right (Nat.le_refl _)] at hle ⊢
      rw [List.getElem_append_left hz]
      simp only [Nat.sub_self,List.getElem_singleton] at hle ⊢
      exact hb z hz U
  · by_cases e : j < fs.length
    · rw [List.getElem_append_left e]; exact hb j e hbj
    · rw [List.getElem_append_right U]; simp
theorem Beh.all (fs:List Int):Beh fs fs.length:=fun j hj h=>by omega
def MH (x:Tree):Prop:=∀ fs:List Int,lfOk fs fs.length→lfOk (fs++Ag x fs.length) (fs++Ag x fs.length).length∧Beh (fs++Ag x fs.length) fs.length
theorem TL:∀ (xs:List Tree),(∀ x∈xs,MH x)→∀ fs:List Int,lfOk fs fs.length→lfOk (fs++Zj xs fs.length) (fs++Zj xs fs.length).length∧Beh (fs++Zj xs fs.length) fs.length
  | [],_,fs,h=>by rw [Zj,List.append_nil]; exact ⟨h,Beh.all fs⟩
  | x :: xs, hx, fs, h => by
    obtain ⟨h1,h2⟩:=hx x Ma fs h
    obtain ⟨h3,h4⟩:=TL xs (fun y hy=>hx y (by simp [hy])) _ h1
    have e:(fs++Ag x fs.length).length=fs.length+(Qe x).length:=by rw [List.length_append,Wf]
    have e2:fs++Zj (x::xs) fs.length=(fs++Ag x fs.length)++Zj xs (fs++Ag x fs.length).length:=by rw [Zj,e,List.append_assoc]
    rw [e2]
    exact ⟨h3,h2.more h4 U (Nat.le_refl _)⟩
theorem UP:∀ (xs:List Tree) (ks:List Str),(∀ x∈xs,MH x)→∀ fs:List Int,lfOk fs fs.length→lfOk (fs++Jj xs ks fs.length) (fs++Jj xs ks fs.length).length∧Beh (fs++Jj xs ks fs.length) fs.length
  | [],_,_,fs,h=>by rw [Jj,List.append_nil]; exact ⟨h,Beh.all fs⟩
  | x :: xs, ks, hx, fs, h => by
    obtain ⟨h1,h2⟩:=hx x Ma fs h
    have e:(fs++Ag x fs.length).length=fs.length+(Qe x).length:=by rw [List.length_append,Wf]
    obtain ⟨h5,h6⟩:=L8 h1 h2 U
    obtain ⟨h3,h4⟩:=UP xs ks.tail (fun y hy=>hx y (by simp [hy])) _ h5
    have e3:(fs++Ag x fs.length++[(fs.length:Int)]).length=fs.length+(Qe x).length+1:=by rw [List.length_append,e]; rfl
    have e2:fs++Jj (x::xs) ks fs.length=(fs++Ag x fs.length++[(fs.length:Int)])++Jj xs ks.tail (fs++Ag x fs.length++[(fs.length:Int)]).length:=by
      rw [Jj,e3]; simp [List.append_assoc]
    rw [e2]
    exact ⟨h3,h6.more h4 U (Nat.le_refl _)⟩
theorem good (x:Tree):MH x:=Tree.ind (Q:=MH) (fun k t ks xs ih fs h=>by
  rw [Ag]
  split
  · obtain ⟨h1, h2⟩ := TL xs ih fs h
    have:=L8 h1 h2 Ma
    rw [List.append_assoc] at this
    exact this
  · split
    · obtain ⟨h1, h2⟩ := UP xs ks ih fs h
      have:=L8 h1 h2 Ma
      rw [List.append_assoc] at this
      exact this
    · exact L8 h (Beh.all fs) (Nat.le_refl _)) x
theorem QC (x:Tree) (h:(Qe x).length≤512):Xh (Qe x) (Ag x 0):=by
  refine ⟨(Wf x 0).symm,h,?_⟩
  have:=(good x [] (fun j hj=>by simp at hj)).1
  simpa using this
end Go.Scarf
