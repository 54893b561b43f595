set_option linter.all false
set_option maxHeartbeats 0
theorem Iv{p:Prop}(h:p:=by omega):p:=h
theorem Iw{p:Prop}(h:p:=by simp):p:=h
theorem NF{p:Prop}(h:p:=by decide):p:=h
theorem NN{p:Prop}(h:p:=by dsimp only;omega):p:=h
theorem NP{p:Prop}(h:p:=by simp;omega):p:=h
theorem NW{p:Prop}(h:p:=by rfl):p:=h
theorem NZ{a b:Prop}(A:a)(B:b):a/\b:=⟨A,B⟩
theorem N0{a b c:Prop}(A:a)(B:b)(C:c):a/\b/\c:=⟨A,B,C⟩
theorem aak{a b c d:Prop}(A:a)(B:b)(C:c)(D:d):a/\b/\c/\d:=⟨A,B,C,D⟩
theorem aal{a b c d e:Prop}(A:a)(B:b)(C:c)(D:d)(E:e):a/\b/\c/\d/\e:=⟨A,B,C,D,E⟩
theorem aay{a b c d e f:Prop}(A:a)(B:b)(C:c)(D:d)(E:e)(F:f):a/\b/\c/\d/\e/\f:=⟨A,B,C,D,E,F⟩
theorem aaA{a b c d e f g:Prop}(A:a)(B:b)(C:c)(D:d)(E:e)(F:f)(G:g):a/\b/\c/\d/\e/\f/\g:=⟨A,B,C,D,E,F,G⟩
theorem aaD{a b c d e f g h:Prop}(A:a)(B:b)(C:c)(D:d)(E:e)(F:f)(G:g)(H:h):a/\b/\c/\d/\e/\f/\g/\h:=⟨A,B,C,D,E,F,G,H⟩
